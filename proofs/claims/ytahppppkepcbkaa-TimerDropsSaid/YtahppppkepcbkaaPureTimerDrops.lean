/- TimerDrops, over lists alone: the printed function answers true at every input. -/
import Derived.Test.YtahppppkepcbkaaAw29
import Derived.Test.YtahppppkepcbkaaFnx0
import Derived.Test.YtahppppkepcbkaaFnx35
import Derived.Test.YtahppppkepcbkaaSayTimerDrops
import Derived.Test.YtahppppkepcbkaaTm2
namespace Go.Proofs.Ytahppppkepcbkaa.Pure
open Go.RowKit Go.Proofs.Ytahppppkepcbkaa.Fn Go.Proofs.YtahppppkepcbkaaW.PrintWords Go.Proofs.YtahppppkepcbkaaW.PrintMore Go.Proofs.Ytahppppkepcbkaa.Tm
set_option linter.unusedVariables false
set_option linter.unusedSimpArgs false
theorem drops_awake : tattlelaw03_awakeT.f = some true := rfl
theorem okl_sorted (l : List S52) (h : l.length ≤ 256) : okl (isort l) = true := by
  unfold okl
  rw [(srtB_iff _).2 (isort_srt l), Bool.and_true, decide_eq_true (by rw [(isort_perm l).length_eq]; exact h)]
theorem srt_filter (p : S52 → Bool) : ∀ l, srt l → srt (l.filter p)
  | [], _ => trivial
  | a :: l, h => by
    rw [List.filter_cons]
    split
    · exact ⟨fun b hb => h.1 b (List.mem_filter.1 hb).1, srt_filter p l h.2⟩
    · exact srt_filter p l h.2
theorem okl_filter (p : S52 → Bool) (l : List S52) (h : okl l = true) : okl (l.filter p) = true := by
  unfold okl at *
  rw [Bool.and_eq_true, decide_eq_true_eq] at h
  rw [(srtB_iff _).2 (srt_filter p l ((srtB_iff l).1 h.2)), Bool.and_true, decide_eq_true (Nat.le_trans (List.length_filter_le _ _) h.1)]
/-- The rest of the second list is what the rest of the first one leaves. -/
theorem walk (s f : List S52) (z0 z1 z2 z3 : Int) (hm : s.length ≤ 600) (hf : f.length ≤ 600) : ∀ (d i j K : Nat), i + d = s.length → 2 * d + 2 ≤ K → f.drop j = (s.drop i).filter (fun x => !ofb z1 z2 x) → j ≤ f.length →
    tattlelaw03_TimerDrops.l0 K s f (j : Int) (i : Int) z0 z1 z2 z3 = some true
  | 0, i, j, K, hi, hK, he, hj => by
    obtain ⟨K, rfl⟩ : ∃ m, K = m + 1 := ⟨K - 1, by omega⟩
    rw [List.drop_of_length_le (show s.length ≤ i by omega), List.filter_nil, List.drop_eq_nil_iff] at he
    rw [tattlelaw03_TimerDrops.l0, if_neg (by omega), if_pos (by omega), drops_awake]
    rfl
  | d + 1, i, j, K, hi, hK, he, hj => by
    obtain ⟨K, rfl⟩ : ∃ m, K = m + 2 := ⟨K - 2, by omega⟩
    have h1 : i < s.length := by omega
    have e1 : rd_T52 s (i : Int) = s[i] := by simp [rd_T52, h1]
    rw [List.drop_eq_getElem_cons h1, List.filter_cons] at he
    have ej : tattlelaw03_TimerDrops.l0 (K + 2) s f (j : Int) (i : Int) z0 z1 z2 z3 = tattlelaw03_TimerDrops.j3 (K + 1) s f (j : Int) (i : Int) (ofb z1 z2 s[i]) z0 z1 z2 z3 := by
      rw [tattlelaw03_TimerDrops.l0, if_pos (by omega), if_pos (by omega), e1]
      unfold ofb
      by_cases q : s[i].f1 = z1
      · rw [if_pos q, q, beq_self_eq_true, Bool.true_and]
      · rw [if_neg q, beq_eq_false_iff_ne.2 q, Bool.false_and]
    rw [ej, tattlelaw03_TimerDrops.j3]
    cases hp : ofb z1 z2 s[i] with
    | true =>
      rw [hp, if_neg (by decide)] at he
      rw [if_pos rfl, wup i _ h1 hm]
      exact walk s f z0 z1 z2 z3 hm hf d (i + 1) j K (by omega) (by omega) he hj
    | false =>
      rw [hp, if_pos (show (!false) = true from rfl)] at he
      have hjl : j < f.length := by
        rcases Nat.lt_or_ge j f.length with h | h
        · exact h
        · rw [List.drop_of_length_le h] at he
          cases he
      rw [List.drop_eq_getElem_cons hjl, List.cons.injEq] at he
      have e2 : rd_T52 f (j : Int) = f[j] := by simp [rd_T52, hjl]
      rw [if_neg Bool.false_ne_true, if_neg (by omega), if_pos (by omega), if_pos (by omega), if_pos (by omega), if_pos (by omega), e1, e2, he.1, if_neg (by simp), wup i _ h1 hm, wup j _ hjl hf]
      exact walk s f z0 z1 z2 z3 hm hf d (i + 1) (j + 1) K (by omega) (by omega) he.2 (by omega)
theorem TimerDrops : tattlelaw03_TimerDrops.Pure := by
  intro l0 a1 h0 h1
  obtain ⟨K, hK⟩ : ∃ K : Nat, 1500 ≤ K := ⟨1500, Nat.le_refl _⟩
  refine ⟨K + 2, ?_⟩
  have ha : 0 ≤ a1 ∧ a1 ≤ 255 := by
    simp [Lit.wf, IntKind.min, IntKind.max, IntKind.bits, IntKind.signed] at h1
    omega
  unfold tattlelaw03_TimerDrops.f
  rw [tfew_eq, Option.bind_some]
  have hf := tfew_len l0
  generalize tfew l0 = t at *
  by_cases hm : 256 < t.length
  · have e : timer_Sort.f t = some ([], 9) := by unfold timer_Sort.f; rw [if_pos hm]
    rw [e, Option.bind_some, if_neg (by decide), tattlelaw03_TimerDrops.j0, if_pos rfl, if_pos (by rfl), drops_awake]
    rfl
  · have e : timer_Sort.f t = some (isort t, 0) := by unfold timer_Sort.f; rw [if_neg hm]
    have ho := okl_sorted t (by omega)
    have hlen := (isort_perm t).length_eq
    rw [e, Option.bind_some, if_pos rfl]
    dsimp only
    generalize isort t = s at *
    rw [tattlelaw03_TimerDrops.j0]
    by_cases hz : s.length = 0
    · obtain rfl := List.eq_nil_of_length_eq_zero hz
      rw [if_pos (by rfl), if_pos (by rfl), drops_awake]
      rfl
    · have hw : wrap64 a1 = a1 := by unfold wrap64; omega
      have hmod : Int.tmod a1 (s.length : Int) = ((a1.toNat % s.length : Nat) : Int) := by
        obtain ⟨n, rfl⟩ : ∃ n : Nat, a1 = (n : Int) := ⟨a1.toNat, by omega⟩
        rw [Int.toNat_natCast]
        exact (Int.ofNat_tmod n s.length).symm
      have hlt : a1.toNat % s.length < s.length := Nat.mod_lt _ (by omega)
      rw [hw, hmod]
      clear hw hmod
      generalize a1.toNat % s.length = i at *
      have e1 : rd_T52 s (i : Int) = Tm.g s i := rd_g s i
      rw [if_neg (by intro q; exact hz (by simpa using q)), if_neg (by omega), if_pos (by omega), if_pos (by omega), e1]
      have hin : Tm.g s i ∈ s := by
        have : Tm.g s i = s[i] := by simp [Tm.g, hlt]
        rw [this]
        exact List.getElem_mem hlt
      generalize Tm.g s i = z at *
      have d1 : timer_Drop.f s z.f1 z.f2 = some (s.filter (fun x => !ofb z.f1 z.f2 x), 0) := by unfold timer_Drop.f; rw [ho]; rfl
      have hff : (s.filter (fun x => !ofb z.f1 z.f2 x)).filter (fun x => !ofb z.f1 z.f2 x) = s.filter (fun x => !ofb z.f1 z.f2 x) := by rw [List.filter_filter]; congr 1; funext x; cases ofb z.f1 z.f2 x <;> rfl
      have d2 : timer_Drop.f (s.filter (fun x => !ofb z.f1 z.f2 x)) z.f1 z.f2 = some (s.filter (fun x => !ofb z.f1 z.f2 x), 0) := by unfold timer_Drop.f; rw [okl_filter _ s ho, hff]; rfl
      have hlf : (s.filter (fun x => !ofb z.f1 z.f2 x)).length ≤ s.length := List.length_filter_le _ _
      have hls : (s.filter (fun x => !ofb z.f1 z.f2 x)).length < s.length := by
        rw [List.length_filter_lt_length_iff_exists]
        exact ⟨z, hin, by unfold ofb; simp⟩
      rw [d1, Option.bind_some, d2, Option.bind_some, if_pos rfl, if_pos rfl]
      dsimp only
      rw [tsame_eq (K + 1) _ _ (by omega) (by omega), Option.bind_some, decide_eq_true rfl, if_pos rfl, decide_eq_false (by omega), tattlelaw03_TimerDrops.j1, if_neg Bool.false_ne_true]
      exact walk s _ z.f0 z.f1 z.f2 z.f3 (by omega) (by omega) s.length 0 0 K (by omega) (by omega) rfl (Nat.zero_le _)
end Go.Proofs.Ytahppppkepcbkaa.Pure
