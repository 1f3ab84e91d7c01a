/- The walk of played, as the plain law tells it. -/
import Derived.Test.YtgfblogneggpmaaFnx0
import Derived.Test.YtgfblogneggpmaaFnx6
import Derived.Test.YtgfblogneggpmaaFnx8
import Derived.Test.YtgfblogneggpmaaFnxok
import Derived.Test.YtgfblogneggpmaaPlayed
import Derived.Test.YtgfblogneggpmaaRefHold
namespace Go.Proofs.Ytgfblogneggpmaa.Vote
open Go.RowKit Go.Proofs.Ytgfblogneggpmaa.Fn Go.Proofs.YtgfblogneggpmaaW.PrintWords Go.Proofs.YtgfblogneggpmaaW.PrintMore

/-- How many ticks later step i is. -/
def later (l : List S36) (i : Nat) : Int := wrap64 (Int.tmod ((rd_T36 l i).f2) 16)
/-- When it begins again: the times of the d steps from step i on. -/
def tms (l : List S36) : Nat → Nat → Int → List Int
  | 0, _, _ => []
  | d + 1, i, now => if (rd_T36 l i).f3 = true then (now + later l i) :: tms l d (i + 1) (now + later l i) else tms l d (i + 1) (now + later l i)
theorem small {l : List S36} (hl : ∀ x ∈ l, ok36 x) {i : Nat} (hi : i < l.length) : (0 ≤ (rd_T36 l i).f0 ∧ (rd_T36 l i).f0 ≤ 255) ∧ (0 ≤ (rd_T36 l i).f1 ∧ (rd_T36 l i).f1 ≤ 255) ∧ (0 ≤ (rd_T36 l i).f2 ∧ (rd_T36 l i).f2 ≤ 255) := by
  have e : rd_T36 l i = l[i] := by simp [rd_T36, hi]
  have h := hl l[i] (List.getElem_mem hi)
  rw [e]
  unfold ok36 at h
  exact ⟨u8_wf h.1, u8_wf h.2.1, u8_wf h.2.2.1⟩
theorem later_in {l : List S36} (hl : ∀ x ∈ l, ok36 x) {i : Nat} (hi : i < l.length) : 0 ≤ later l i ∧ later l i ≤ 15 := by
  obtain ⟨_, _, h⟩ := small hl hi
  have e : later l i = (rd_T36 l (i : Int)).f2 % 16 := by
    unfold later
    rw [Int.tmod_eq_emod_of_nonneg h.1]
    exact w64_id _ (by omega) (by omega)
  rw [e]
  omega
theorem from_in {x : Int} (h : 0 ≤ x ∧ x ≤ 255) : 0 ≤ wrap64 (Int.tmod x 4) ∧ wrap64 (Int.tmod x 4) < 64 := by
  have e : wrap64 (Int.tmod x 4) = x % 4 := by
    rw [Int.tmod_eq_emod_of_nonneg h.1]
    exact w64_id _ (by omega) (by omega)
  rw [e]
  omega
theorem not_m1 {x : Int} (h : 0 ≤ x) : ¬x = -1 := by omega
theorem played_l0 (t d r : Int) (hm : mayt t d r) (l : List S36) (hl : ∀ x ∈ l, ok36 x) : ∀ (dd i k : Nat) (now : Int) (out : List S33) (again : List Int) (E who until_ wait : Int), Inv t i now out again E who until_ wait → i + dd = min l.length 60 → 3 * dd + 2 ≤ k →
    ∃ out' again', tattlelaw17_played.l0 k l now out again (i : Int) t d r E who until_ wait = some (out', again', true) ∧ again' = again ++ tms l dd i now ∧ ∃ n now' E' who' until' wait', n ≤ 60 ∧ Inv t n now' out' again' E' who' until' wait'
  | 0, i, k, now, out, again, E, who, until_, wait, hI, hi, hk => by
    obtain ⟨k, rfl⟩ : ∃ m, k = m + 2 := ⟨k - 2, by omega⟩
    have hj : tattlelaw17_played.j1 (k + 1) l now out again (i : Int) false t d r E who until_ wait = some (out, again, true) := by
      rw [tattlelaw17_played.j1, if_neg (by decide)]
    refine ⟨out, again, ?_, by simp [tms], i, now, E, who, until_, wait, by omega, hI⟩
    rw [tattlelaw17_played.l0]
    by_cases h : (i : Int) < (l.length : Int)
    · rw [if_pos h, decide_eq_false (by omega)]
      exact hj
    · rw [if_neg h]
      exact hj
  | dd + 1, i, k, now, out, again, E, who, until_, wait, hI, hi, hk => by
    obtain ⟨k, rfl⟩ : ∃ m, k = m + 3 := ⟨k - 3, by omega⟩
    have hil : i < l.length := by omega
    have hy := later_in hl hil
    obtain ⟨hs0, hs1, hs2⟩ := small hl hil
    have hI0 := hI
    obtain ⟨n0, n1, l1, l2, w, u0, u1, w0, w1, g, p, a, q⟩ := hI0
    obtain ⟨m1, m2, m3, m4, m5, m6, m7⟩ := hm
    have c60 : (i : Int) < 60 := by omega
    have ci : (i : Int) < (l.length : Int) := by omega
    have ci0 : 0 ≤ (i : Int) := by omega
    have cn : i + 1 + dd = min l.length 60 := by omega
    have ck1 : 3 * dd + 2 ≤ k + 1 := by omega
    have ck : 3 * dd + 2 ≤ k := by omega
    have ct : 0 ≤ t := by omega
    have hmv : mayv who until_ wait := ⟨w, by omega, by omega, by omega, by omega⟩
    have hmo : 0 ≤ now + later l i ∧ now + later l i ≤ 1099511627776 := by omega
    have hlen1 : out.length < 5864062014805 := by omega
    have hlen2 : again.length < 17592186044416 := by omega
    have y1 : -9223372036854775808 ≤ now + later l i ∧ now + later l i ≤ 9223372036854775807 := by omega
    have y2 : -9223372036854775808 ≤ (i : Int) + 1 ∧ (i : Int) + 1 ≤ 9223372036854775807 := by omega
    have y3 : -9223372036854775808 ≤ now + later l i + t ∧ now + later l i + t ≤ 9223372036854775807 := by omega
    have hfr : 0 ≤ wrap64 (Int.tmod ((rd_T36 l i).f0) 4) ∧ wrap64 (Int.tmod ((rd_T36 l i).f0) 4) < 64 := from_in hs0
    have x1 : wrap64 (now + later l i) = now + later l i := w64_id _ y1.1 y1.2
    have x2 : wrap64 ((i : Int) + 1) = ((i + 1 : Nat) : Int) := w64_id _ y2.1 y2.2
    have x3 : wrap64 (now + later l i + t) = now + later l i + t := w64_id _ y3.1 y3.2
    have hlat : wrap64 (Int.tmod ((rd_T36 l (i : Int)).f2) 16) = later l i := rfl
    rw [tattlelaw17_played.l0, if_pos ci, decide_eq_true c60, tattlelaw17_played.j1, if_pos rfl, if_pos ci0, if_pos ci, hlat, x1, x2]
    by_cases h3 : (rd_T36 l (i : Int)).f3 = true
    · have hr : vote_Restart.f t d r E who (now + later l i) = some (E, who, 0, now + later l i + t, 0) := by
        unfold vote_Restart.f
        rw [may_eq, if_pos (c := mayt t d r) ⟨m1, m2, m3, m4, m5, m6, m7⟩, Option.bind_some, if_pos rfl, x3]
        rcases w with w | w
        · rw [if_pos w, moment_eq, Option.bind_some, if_pos (by simpa using hmo)]
        · rw [if_neg (not_m1 w.1), node_eq, Option.bind_some, if_pos (by simpa using w), moment_eq, Option.bind_some, if_pos (by simpa using hmo)]
      obtain ⟨o', a', h1, h2, h4⟩ := played_l0 t d r ⟨m1, m2, m3, m4, m5, m6, m7⟩ l hl dd (i + 1) (k + 1) (now + later l i) out (again ++ [now + later l i]) E who 0 (now + later l i + t) (hI.again ct _ hy) cn ck1
      refine ⟨o', a', ?_, ?_, h4⟩
      · rw [if_pos h3, hr, Option.bind_some]
        simp only [if_true]
        rw [if_pos hlen2]
        exact h1
      · rw [h2, tms, if_pos h3, List.append_assoc]
        rfl
    · rw [if_neg h3, ask_ok (t := t) (d := d) (r := r) (who := who) (until_ := until_) (wait := wait) ⟨⟨m1, m2, m3, m4, m5, m6, m7⟩, hmv, hfr, hmo⟩]
      cases hb : bars E who until_ wait (wrap64 (Int.tmod ((rd_T36 l (i : Int)).f0) 4)) (IntKind.u64.wrap (Int.tmod ((rd_T36 l (i : Int)).f1) 16)) (now + later l i) with
      | true =>
        obtain ⟨o', a', h1, h2, h4⟩ := played_l0 t d r ⟨m1, m2, m3, m4, m5, m6, m7⟩ l hl dd (i + 1) k (now + later l i) out again E who until_ wait (hI.stay _ hy) cn ck
        refine ⟨o', a', ?_, ?_, h4⟩
        · rw [if_pos rfl, Option.bind_some]
          simp only [if_true, Bool.false_eq_true, if_false, beq_self_eq_true, Bool.not_true, Bool.or_self]
          rw [tattlelaw17_played.j2, if_neg (by decide), if_neg (by decide), x2]
          exact h1
        · rw [h2, tms, if_neg h3]
      | false =>
        obtain ⟨o', a', h1, h2, h4⟩ := played_l0 t d r ⟨m1, m2, m3, m4, m5, m6, m7⟩ l hl dd (i + 1) k (now + later l i) (out ++ [⟨IntKind.u64.wrap (Int.tmod ((rd_T36 l (i : Int)).f1) 16), wrap64 (Int.tmod ((rd_T36 l (i : Int)).f0) 4), now + later l i⟩]) again _ _ (now + later l i + t) wait (hI.grant ct _ hy _ _ hfr hb) cn ck
        refine ⟨o', a', ?_, ?_, h4⟩
        · rw [if_neg (by decide), Option.bind_some, x3]
          simp only [if_true]
          rw [tattlelaw17_played.j2, if_neg (by decide), if_pos rfl, if_pos hlen1, x2]
          exact h1
        · rw [h2, tms, if_neg h3]
theorem played_eq (k : Nat) (hk : 200 ≤ k) (t d r : Int) (hm : mayt t d r) (l : List S36) (hl : ∀ x ∈ l, ok36 x) :
    ∃ out' again', tattlelaw17_played.f k t d r l = some (out', again', true) ∧ again' = tms l (min l.length 60) 0 0 ∧ ∃ n now' E' who' until' wait', n ≤ 60 ∧ Inv t n now' out' again' E' who' until' wait' := by
  obtain ⟨o, a, h1, h2, h3⟩ := played_l0 t d r hm l hl (min l.length 60) 0 k 0 [] [] 0 (-1) 0 0 (Inv.start (by have := hm.1; omega)) (by omega) (by omega)
  refine ⟨o, a, ?_, by rw [h2, List.nil_append], h3⟩
  unfold tattlelaw17_played.f
  exact h1
theorem rd33 {l : List S33} {i : Nat} (hi : i < l.length) : rd_T33 l (i : Int) = l[i] := by simp [rd_T33, hi]
end Go.Proofs.Ytgfblogneggpmaa.Vote
