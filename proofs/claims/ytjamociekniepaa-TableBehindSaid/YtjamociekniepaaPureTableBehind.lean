/- TableBehind, over lists alone: the printed function answers true at every input. -/
import Derived.Test.YtjamociekniepaaAw28
import Derived.Test.YtjamociekniepaaFnx0
import Derived.Test.YtjamociekniepaaFnx15
import Derived.Test.YtjamociekniepaaFnx26
import Derived.Test.YtjamociekniepaaSayTableBehind
import Derived.Test.YtjamociekniepaaTab3
import Derived.Lib.Hide
namespace Go.Proofs.Ytjamociekniepaa.Pure
open Go.RowKit Go.Proofs.Ytjamociekniepaa.Fn Go.Proofs.YtjamociekniepaaW.PrintWords Go.Proofs.YtjamociekniepaaW.PrintMore Go.Proofs.Ytjamociekniepaa.Know Go.Proofs.Ytjamociekniepaa.Tab
theorem behind_awake : tattlelaw06_awakeT.f = some true := rfl
theorem w64p (i : Nat) (h : 0 < i) (hn : i ≤ maxLen) : wrap64 ((i : Int) - 1) = ((i - 1 : Nat) : Int) := by
  simp only [maxLen] at hn
  unfold wrap64
  omega
/-- The first so many are merged, the others are as they were. -/
def half (t o : List S26) (p : Nat) : List S26 := (mrg t o).take p ++ t.drop p
set_option linter.unusedSectionVars false
section
variable {t o : List S26} (ho : okt t = true) (ho' : okt o = true) (hl : t.length = o.length) (hn : nn t) (hn' : nn o)
include ho ho' hl hn hn'
theorem half_len (p : Nat) : (half t o p).length = t.length := by
  have := mrg_len hl
  unfold half
  rw [List.length_append, List.length_take, List.length_drop]
  omega
theorem half_mem {p : Nat} {x : S26} (h : x ∈ half t o p) : x ∈ mrg t o ∨ x ∈ t := by
  unfold half at h
  rcases List.mem_append.1 h with h | h
  · exact Or.inl (List.mem_of_mem_take h)
  · exact Or.inr (List.mem_of_mem_drop h)
theorem half_okt (p : Nat) : okt (half t o p) = true := by
  have h := half_len ho ho' hl hn hn' p
  obtain ⟨h1, h2⟩ := okt_len ho
  refine okt_of (by omega) (by omega) fun x hx => ?_
  rcases half_mem ho ho' hl hn hn' hx with hx | hx
  · exact okt_may (mrg_okt ho ho' hl) _ hx
  · exact okt_may ho _ hx
theorem half_nn (p : Nat) : nn (half t o p) := by
  intro x hx
  rcases half_mem ho ho' hl hn hn' hx with hx | hx
  · exact mrg_nn hn hn' _ hx
  · exact hn _ hx
theorem half_at (p : Nat) (h : p < t.length) (h' : p < (half t o p).length) : (half t o p)[p] = t[p] := by
  have := mrg_len hl
  unfold half at h' ⊢
  rw [List.getElem_append_right (by rw [List.length_take]; omega)]
  simp only [List.length_take, List.getElem_drop]
  congr 1
  omega
theorem half_step (p : Nat) (h : p < t.length) : (half t o p).set p (jn t[p] (o[p]'(by omega))) = half t o (p + 1) := by
  have q := mrg_len hl
  unfold half
  rw [List.set_append_right _ _ (by rw [List.length_take]; omega), List.length_take, Nat.min_eq_left (by omega), Nat.sub_self, List.drop_eq_getElem_cons h, List.set_cons_zero, List.take_succ_eq_append_getElem (by omega), mrg_at t o p (by omega) h (by omega), List.append_assoc]
  rfl
theorem half_same (p : Nat) (h : p < t.length) (hj : jn t[p] (o[p]'(by omega)) = t[p]) : half t o p = half t o (p + 1) := by
  have h' : p < (half t o p).length := by rw [half_len ho ho' hl hn hn']; exact h
  have e := half_at ho ho' hl hn hn' p h h'
  rw [← half_step ho ho' hl hn hn' p h, hj, ← e, List.set_getElem_self]
theorem behind_l0 : ∀ (d p K : Nat) (pre : List Int), p + d = t.length → pre.length ≤ p → (∀ v ∈ pre, v < (p : Int)) → 2 * d + 200 ≤ K →
    tattlelaw06_TableBehind.l0 K o (pre ++ plcs (bhd o) (t.drop p) p) (mrg t o) (half t o p) (pre.length : Int) = some true
  | 0, p, K, pre, hp, hpl, hpv, hK => by
    obtain ⟨K, rfl⟩ : ∃ m, K = m + 1 := ⟨K - 1, by omega⟩
    have q := mrg_len hl
    have hlen := okt_len ho
    have hh : half t o p = mrg t o := by
      unfold half
      rw [List.take_of_length_le (by omega), List.drop_of_length_le (by omega), List.append_nil]
    have em := mrg_okt ho ho' hl
    have eb : plcs (bhd o) (mrg t o) 0 = [] := by rw [mrg_comm ho ho' hl]; exact bhd_left ho' ho hl.symm
    have es := same_eq K (mrg t o) (mrg t o) (by simp [maxLen]; omega) (by omega)
    rw [decide_eq_true rfl] at es
    rw [List.drop_of_length_le (by omega), show plcs (bhd o) [] p = [] from rfl, List.append_nil, hh, tattlelaw06_TableBehind.l0, if_neg (by omega), behind_eq em ho' (by omega), Option.bind_some, es, Option.bind_some, if_pos rfl, eb, if_pos (by rfl), if_pos rfl, behind_awake]
    rfl
  | d + 1, p, K, pre, hp, hpl, hpv, hK => by
    have hlt : p < t.length := by omega
    have hlo : p < o.length := by omega
    have hlen := okt_len ho
    have ml := okt_may ho _ (List.getElem_mem hlt)
    have mo := okt_may ho' _ (List.getElem_mem hlo)
    have eb : bhd o p t[p] = bts o[p] t[p] := by unfold bhd; rw [btk_eq, rd_at o p hlo]
    rw [List.drop_eq_getElem_cons hlt, plcs, eb]
    by_cases hb : bts o[p] t[p] = true
    · obtain ⟨K, rfl⟩ : ∃ m, K = m + 2 := ⟨K - 2, by omega⟩
      have hj : jn t[p] o[p] = o[p] := by unfold jn; rw [if_pos hb]
      have hne : o[p] ≠ t[p] := by
        intro q
        rw [q] at hb
        have := (bts_iff ml ml).1 hb
        exact this (le_refl _)
      have hh : p < (half t o p).length := by rw [half_len ho ho' hl hn hn']; exact hlt
      have ea : table_Apply.f K (half t o p) (p : Int) o[p].f0 o[p].f1 = some _ := apply_ok K (half_okt ho ho' hl hn hn' p) (half_nn ho ho' hl hn hn' p) p hh (k := o[p]) mo (by omega)
      rw [half_at ho ho' hl hn hn' p hlt hh, if_neg (by rw [hj]; exact hne), half_step ho ho' hl hn hn' p hlt] at ea
      have hlp := plcs_length (bhd o) (t.drop (p + 1)) (p + 1)
      rw [List.length_drop] at hlp
      rw [if_pos hb]
      generalize hr : plcs (bhd o) (t.drop (p + 1)) (p + 1) = r at hlp
      have hrd : rd (pre ++ (p : Int) :: r) (pre.length : Int) = (p : Int) := by simp [rd]
      have hll : (pre ++ (p : Int) :: r).length = pre.length + r.length + 1 := by simp; omega
      have HW := Lib.hid (w64 pre.length maxLen (by simp [maxLen]; omega) (Nat.le_refl _))
      have hj2 : tattlelaw06_TableBehind.j2 (K + 1) o (pre ++ (p : Int) :: r) (mrg t o) (half t o p) (pre.length : Int) false = some true := by
        have ih := behind_l0 d (p + 1) K (pre ++ [(p : Int)]) (by omega) (by rw [List.length_append]; simp; omega) (by
          intro v hv
          rcases List.mem_append.1 hv with hv | hv
          · have := hpv v hv; omega
          · rw [List.mem_singleton.1 hv]; omega) (by omega)
        rw [hr, List.append_assoc, List.singleton_append, List.length_append, List.length_singleton] at ih
        rw [tattlelaw06_TableBehind.j2, if_neg (by decide), if_pos (by omega), if_pos (by rw [hll]; omega), hrd, if_pos (by omega), if_pos (by omega), rd_at o p hlo, ea, Option.bind_some, if_pos rfl, if_pos rfl, HW.out]
        exact ih
      rw [tattlelaw06_TableBehind.l0, if_pos (by rw [hll]; omega), if_pos (by omega), hrd, if_neg (by omega), if_neg (by omega)]
      by_cases h0 : pre.length = 0
      · rw [if_neg (by omega)]
        exact hj2
      · have HW' := Lib.hid (w64p pre.length (by omega) (by simp [maxLen]; omega))
        have hrd' : rd (pre ++ (p : Int) :: r) ((pre.length - 1 : Nat) : Int) < (p : Int) := by
          have hi : pre.length - 1 < pre.length := by omega
          have : rd (pre ++ (p : Int) :: r) ((pre.length - 1 : Nat) : Int) = pre[pre.length - 1] := by
            simp only [rd, Int.toNat_natCast]
            rw [List.getD_eq_getElem?_getD, List.getElem?_append_left hi, List.getElem?_eq_getElem hi]
            rfl
          rw [this]
          exact hpv _ (List.getElem_mem hi)
        rw [if_pos (by omega), HW'.out, if_pos (by omega), if_pos (by rw [hll]; omega), decide_eq_false (by omega)]
        exact hj2
    · have hj : jn t[p] o[p] = t[p] := by unfold jn; rw [if_neg hb]
      rw [if_neg hb, half_same ho ho' hl hn hn' p hlt hj]
      exact behind_l0 d (p + 1) K pre (by omega) (by omega) (fun v hv => by have := hpv v hv; omega) (by omega)
end
theorem TableBehind : tattlelaw06_TableBehind.Pure := by
  intro l0 l1 h0 h1
  obtain ⟨_, _, hok0⟩ := h0
  obtain ⟨_, _, hok1⟩ := h1
  have n0 : nn (few l0) := fun x hx => (u64_wf (hok0 x (few_mem hx)).1).1
  have n1 : nn (few l1) := fun x hx => (u64_wf (hok1 x (few_mem hx)).1).1
  obtain ⟨K, hK⟩ : ∃ K : Nat, 400 ≤ K := ⟨400, Nat.le_refl _⟩
  refine ⟨K + 1, ?_⟩
  unfold tattlelaw06_TableBehind.f
  rw [few_eq, few_eq, Option.bind_some, Option.bind_some]
  generalize few l0 = a at *
  generalize few l1 = b at *
  by_cases h : okt a = true ∧ okt b = true ∧ a.length = b.length
  · obtain ⟨ha, hb, hl⟩ := h
    have hlen := okt_len ha
    rw [behind_eq ha hb hl, Option.bind_some, merge_ok (K + 1) ha hb hl n0 (by omega), Option.bind_some, if_pos rfl, show (((0 : Int) != 0)) = false from rfl, tattlelaw06_TableBehind.j0, if_neg (by decide)]
    have := behind_l0 ha hb hl n0 n1 a.length 0 K [] (by omega) (Nat.le_refl _) (by simp) (by omega)
    rw [List.drop_zero, List.nil_append] at this
    have e : half a b 0 = a := by unfold half; rw [List.take_zero, List.nil_append, List.drop_zero]
    rw [e] at this
    exact this
  · rw [behind_bad h, Option.bind_some, merge_bad (K + 1) h (by omega), Option.bind_some, if_neg (by decide), tattlelaw06_TableBehind.j0, if_pos rfl, if_pos rfl, behind_awake]
    rfl
end Go.Proofs.Ytjamociekniepaa.Pure
