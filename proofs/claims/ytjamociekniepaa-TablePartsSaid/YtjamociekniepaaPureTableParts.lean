/- TableParts, over lists alone: the printed function answers true at every input. -/
import Derived.Test.YtjamociekniepaaAw28
import Derived.Test.YtjamociekniepaaFnx0
import Derived.Test.YtjamociekniepaaFnx15
import Derived.Test.YtjamociekniepaaFnx20
import Derived.Test.YtjamociekniepaaSayTableParts
import Derived.Test.YtjamociekniepaaTab3
namespace Go.Proofs.Ytjamociekniepaa.Pure
open Go.RowKit Go.Proofs.Ytjamociekniepaa.Fn Go.Proofs.YtjamociekniepaaW.PrintWords Go.Proofs.YtjamociekniepaaW.PrintMore Go.Proofs.Ytjamociekniepaa.Know Go.Proofs.Ytjamociekniepaa.Tab
theorem parts_awake : tattlelaw06_awakeT.f = some true := rfl
section
variable {t : List S26} (ho : okt t = true) (hnn : nn t) (m : Nat) (hm : m < t.length) (hx : t[m].f0 < 18446744073709551615)
include ho hnn hm
theorem parts_leave (K : Nat) (hK : 200 ≤ K) : table_Apply.f K t (m : Int) t[m].f0 3 = some (t.set m ⟨t[m].f0, 3⟩, t[m].f1 != 3, 0) := by
  have hmem : t[m] ∈ t := List.getElem_mem hm
  have hmay := okt_may ho _ hmem
  have e : table_Apply.f K t (m : Int) t[m].f0 3 = some (if jn t[m] ⟨t[m].f0, 3⟩ = t[m] then (t, false, 0) else (t.set m (jn t[m] ⟨t[m].f0, 3⟩), true, 0)) :=
    apply_ok K ho hnn m hm (k := ⟨t[m].f0, 3⟩) rfl (by omega)
  rw [e]
  have hb : 0 ≤ t[m].f1 ∧ t[m].f1 ≤ 3 := by
    unfold may at hmay
    rw [Bool.and_eq_true, decide_eq_true_eq, decide_eq_true_eq] at hmay
    exact hmay
  have mk : may (⟨t[m].f0, 3⟩ : S26) = true := rfl
  by_cases hs : t[m].f1 = 3
  · have e2 : (⟨t[m].f0, 3⟩ : S26) = t[m] := ext26 rfl hs.symm
    rw [e2, jn_idem, if_pos rfl, List.set_getElem_self, hs]
    rfl
  · have e2 : jn t[m] ⟨t[m].f0, 3⟩ = ⟨t[m].f0, 3⟩ := by
      unfold jn
      rw [if_pos (bts_true mk hmay _)]
      unfold le
      simp only
      omega
    rw [e2, if_neg (fun q => hs (by rw [← q])), show (t[m].f1 != 3) = true by simpa using hs]
include hx
theorem parts_j3 (K : Nat) (hK : 200 ≤ K) : tattlelaw06_TableParts.j3 (K + 1) t (m : Int) (t.set m ⟨t[m].f0, 3⟩) false = some true := by
  have hmem : t[m] ∈ t := List.getElem_mem hm
  have hlen := okt_len ho
  have ho' := okt_set ho m (x := ⟨t[m].f0, 3⟩) rfl
  have hn' := nn_set hnn m (x := ⟨t[m].f0, 3⟩) (hnn t[m] hmem)
  have hl : m < (t.set m ⟨t[m].f0, 3⟩).length := by rw [List.length_set]; exact hm
  have h0 := hnn _ hmem
  have mk : may (⟨t[m].f0 + 1, 0⟩ : S26) = true := rfl
  have mk3 : may (⟨t[m].f0, 3⟩ : S26) = true := rfl
  have e : table_Apply.f K (t.set m ⟨t[m].f0, 3⟩) (m : Int) (t[m].f0 + 1) 0 = some _ := apply_ok K ho' hn' m hl (k := ⟨t[m].f0 + 1, 0⟩) mk (by omega)
  rw [List.getElem_set_self] at e
  have e2 : jn (⟨t[m].f0, 3⟩ : S26) ⟨t[m].f0 + 1, 0⟩ = ⟨t[m].f0 + 1, 0⟩ := by
    unfold jn
    rw [if_pos (bts_true mk mk3 _)]
    unfold le
    simp only
    omega
  rw [e2, if_neg (by intro q; injection q with q1 q2; cases q2), List.set_set] at e
  have ho2 := okt_set ho m (x := ⟨t[m].f0 + 1, 0⟩) rfl
  have hl2 : m < (t.set m ⟨t[m].f0 + 1, 0⟩).length := by rw [List.length_set]; exact hm
  have hlen2 := plcs_length (fun _ x => upk x) (t.set m ⟨t[m].f0 + 1, 0⟩) 0
  rw [List.length_set] at hlen2
  rw [tattlelaw06_TableParts.j3, if_neg (by decide), if_pos (by omega), if_pos (by omega), rd_at t m hm, u64_in _ h0 hx, e, Option.bind_some]
  simp only [if_true]
  rw [up_eq ho2, Option.bind_some, many_eq K _ _ (by simp [maxLen]; omega) (by omega), Option.bind_some, count_plcs _ _ m hl2, List.getElem_set_self, if_pos (by rfl)]
  rfl
theorem parts_j1 (K : Nat) (hK : 200 ≤ K) : tattlelaw06_TableParts.j1 (K + 3) t (m : Int) false = some true := by
  have hlen := okt_len ho
  have ho' := okt_set ho m (x := ⟨t[m].f0, 3⟩) rfl
  have hl : m < (t.set m ⟨t[m].f0, 3⟩).length := by rw [List.length_set]; exact hm
  have b1 := plcs_length (fun _ x => upk x) (t.set m ⟨t[m].f0, 3⟩) 0
  have b2 := plcs_length (oth (-1)) (t.set m ⟨t[m].f0, 3⟩) 0
  have b3 := plcs_length (oth (m : Int)) t 0
  rw [List.length_set] at b1 b2
  rw [tattlelaw06_TableParts.j1, if_neg (by decide), if_pos (by omega), if_pos (by omega), rd_at t m hm, parts_leave ho hnn m hm (K + 2) (by omega), Option.bind_some]
  simp only [if_true, bne_self_eq_false]
  rw [tattlelaw06_TableParts.j2, if_neg (by decide), up_eq ho', Option.bind_some, many_eq (K + 1) _ _ (by simp [maxLen]; omega) (by omega), Option.bind_some, count_plcs _ _ m hl, List.getElem_set_self, show upk (⟨t[m].f0, 3⟩ : S26) = false from rfl]
  rw [if_neg Bool.false_ne_true, if_pos (by rfl)]
  rw [others_eq ho', Option.bind_some, many_eq (K + 1) _ _ (by simp [maxLen]; omega) (by omega), Option.bind_some, count_plcs _ _ m hl, List.getElem_set_self, show oth (-1) m (⟨t[m].f0, 3⟩ : S26) = false by unfold oth; simp]
  rw [if_neg Bool.false_ne_true, if_pos (by rfl)]
  rw [others_eq ho, Option.bind_some, many_eq (K + 1) _ _ (by simp [maxLen]; omega) (by omega), Option.bind_some, count_plcs _ _ m hm, show oth (m : Int) m t[m] = false by unfold oth; simp]
  rw [if_neg Bool.false_ne_true]
  exact parts_j3 ho hnn m hm hx K hK
end
theorem TableParts : tattlelaw06_TableParts.Pure := by
  intro l0 a1 h0 ha
  obtain ⟨_, _, hok⟩ := h0
  obtain ⟨ha0, ha1⟩ := u8_wf ha
  have hnn : nn (few l0) := fun x hx => (u64_wf (hok x (few_mem hx)).1).1
  have hu : ∀ x ∈ few l0, x.f0 ≤ 18446744073709551615 := fun x hx => (u64_wf (hok x (few_mem hx)).1).2
  obtain ⟨K, hK⟩ : ∃ K : Nat, 400 ≤ K := ⟨400, Nat.le_refl _⟩
  refine ⟨K + 4, ?_⟩
  unfold tattlelaw06_TableParts.f
  rw [few_eq, Option.bind_some, tcheck_eq (K + 4) _ (by omega), Option.bind_some]
  generalize few l0 = t at *
  by_cases ho : okt t = true
  · rw [if_pos ho, if_pos rfl]
    have hlen := okt_len ho
    have hw : wrap64 a1 = a1 := by unfold wrap64; omega
    obtain ⟨m, hm, hml⟩ := tmod_nat (wrap64 a1) t.length (by omega) (by omega)
    have hm' : m < t.length := by omega
    rw [tattlelaw06_TableParts.j0, hm, show ((t.length : Int) == 0) = false by simp; intro q; rw [q] at hlen; simp at hlen, if_neg (by decide), if_neg (by omega), if_pos (by omega), if_pos (by omega), rd_at t m hm']
    by_cases hx : t[m].f0 = 18446744073709551615
    · rw [if_pos hx, parts_awake]; rfl
    · have hx' : t[m].f0 < 18446744073709551615 := by have := hu _ (List.getElem_mem hm'); omega
      have hj := parts_j1 ho hnn m hm' hx' K (by omega)
      rw [if_neg hx, up_eq ho, Option.bind_some, lowest_eq ho, Option.bind_some]
      unfold low
      rcases fst_plcs upk t 0 with ⟨j, r, hf, hp⟩ | ⟨hf, hp⟩
      · rw [hf, hp]
        simp only
        rw [if_neg (by simp), if_pos trivial, if_pos (by simp), show ((j : Int) != rd ((j : Int) :: r) 0) = false by simp [rd]]
        exact hj
      · rw [hf, hp]
        simp only
        rw [if_neg (by decide), if_neg (by decide)]
        exact hj
  · rw [if_neg ho, if_neg (by decide), tattlelaw06_TableParts.j0, if_pos rfl, parts_awake]; rfl
end Go.Proofs.Ytjamociekniepaa.Pure
