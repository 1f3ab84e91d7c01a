/- TableNodes, over lists alone: the printed function answers true at every input. -/
import Derived.Test.YtjamociekniepaaAw28
import Derived.Test.YtjamociekniepaaFnx0
import Derived.Test.YtjamociekniepaaFnx15
import Derived.Test.YtjamociekniepaaFnx16
import Derived.Test.YtjamociekniepaaFnx21
import Derived.Test.YtjamociekniepaaFnx22
import Derived.Test.YtjamociekniepaaSayTableNodes
import Derived.Test.YtjamociekniepaaTab3
namespace Go.Proofs.Ytjamociekniepaa.Pure
open Go.RowKit Go.Proofs.Ytjamociekniepaa.Fn Go.Proofs.YtjamociekniepaaW.PrintWords Go.Proofs.YtjamociekniepaaW.PrintMore Go.Proofs.Ytjamociekniepaa.Know Go.Proofs.Ytjamociekniepaa.Tab
theorem nodes_awake : tattlelaw06_awakeT.f = some true := rfl
/-- So many are dead, the others alive. -/
def dea (i e : Nat) : List S26 := List.replicate i ⟨0, 2⟩ ++ List.replicate e z26
theorem dea_len (i e : Nat) : (dea i e).length = i + e := by simp [dea]
theorem dea_mem {i e : Nat} {x : S26} (h : x ∈ dea i e) : x = ⟨0, 2⟩ ∨ x = z26 := by
  unfold dea at h
  rcases List.mem_append.1 h with h | h
  · exact Or.inl (List.eq_of_mem_replicate h)
  · exact Or.inr (List.eq_of_mem_replicate h)
theorem dea_okt {i e : Nat} (h1 : 1 ≤ i + e) (h2 : i + e ≤ 64) : okt (dea i e) = true := by
  refine okt_of (by rw [dea_len]; exact h1) (by rw [dea_len]; exact h2) fun x hx => ?_
  rcases dea_mem hx with rfl | rfl <;> rfl
theorem dea_nn (i e : Nat) : nn (dea i e) := by
  intro x hx
  rcases dea_mem hx with rfl | rfl <;> decide
theorem dea_up (i e : Nat) : (plcs (fun _ x => upk x) (dea i e) 0).length = e := by
  unfold dea
  rw [plcs_append, plcs_none _ (List.replicate i _) 0 (fun j hj => by rw [List.getElem_replicate]; rfl), List.nil_append, plcs_all _ _ _ (fun j hj => by rw [List.getElem_replicate]; rfl), List.length_replicate]
theorem dea_low (i e : Nat) : low (dea i (e + 1)) = ((i : Int), 0) := by
  have h := fstp_snoc upk z26 (List.replicate i ⟨0, 2⟩) (List.replicate e z26) 0 (by rw [List.any_eq_false]; intro x hx; rw [List.eq_of_mem_replicate hx]; decide) rfl
  rw [List.length_replicate, Nat.zero_add] at h
  unfold low dea
  rw [List.replicate_succ, h]
theorem dea_end (i : Nat) : low (dea i 0) = (0, 6) := by
  have h := fstp_none upk (List.replicate i ⟨0, 2⟩) 0 (by rw [List.any_eq_false]; intro x hx; rw [List.eq_of_mem_replicate hx]; decide)
  unfold low dea
  rw [List.replicate_zero, List.append_nil, h]
theorem dea_set (i e : Nat) : (dea i (e + 1)).set i ⟨0, 2⟩ = dea (i + 1) e := by
  unfold dea
  rw [List.set_append_right _ _ (by rw [List.length_replicate]; exact Nat.le_refl _), List.length_replicate, Nat.sub_self, List.replicate_succ, List.set_cons_zero, List.replicate_succ', List.append_assoc]
  rfl
/-- How many others there are. -/
theorem oth_len (me : Int) : ∀ (l : List S26) (i : Nat), (∀ x ∈ l, x.f1 ≠ 3) → ((plcs (oth me) l i).length : Int) = (l.length : Int) - (if (i : Int) ≤ me ∧ me < (i : Int) + (l.length : Int) then 1 else 0)
  | [], i, _ => by
    rw [plcs, if_neg (by simp)]
    simp
  | x :: l, i, h => by
    have ih := oth_len me l (i + 1) fun y hy => h y (by simp [hy])
    have h3 : (x.f1 != 3) = true := by simpa using h x (by simp)
    rw [plcs]
    unfold oth at ih ⊢
    by_cases q : (i : Int) = me
    · rw [if_neg (by rw [q]; simp), ih, List.length_cons, if_neg (by omega), if_pos (by omega)]
      omega
    · rw [if_pos (by rw [h3]; simpa using q), List.length_cons, List.length_cons]
      by_cases q2 : (i : Int) ≤ me ∧ me < (i : Int) + ((l.length + 1 : Nat) : Int)
      · rw [if_pos q2]
        rw [if_pos (by omega)] at ih
        omega
      · rw [if_neg q2]
        rw [if_neg (by omega)] at ih
        omega
theorem nodes_l0 (n : Nat) (hn1 : 1 ≤ n) (hn : n ≤ 64) : ∀ (e i K : Nat), i + e = n → 2 * e + 200 ≤ K → tattlelaw06_TableNodes.l0 K (n : Int) (dea i e) (i : Int) = some true
  | 0, i, K, hi, hK => by
    obtain ⟨K, rfl⟩ : ∃ m, K = m + 1 := ⟨K - 1, by omega⟩
    have ho := dea_okt (i := i) (e := 0) (by omega) (by omega)
    have hl := oth_len (-1) (dea i 0) 0 fun x hx => by rcases dea_mem hx with rfl | rfl <;> decide
    rw [if_neg (by omega), dea_len] at hl
    rw [tattlelaw06_TableNodes.l0, if_neg (by omega), lowest_eq ho, Option.bind_some, dea_end, if_pos rfl, others_eq ho, Option.bind_some, if_pos (by rw [hl]; omega), nodes_awake]
    rfl
  | e + 1, i, K, hi, hK => by
    obtain ⟨K, rfl⟩ : ∃ m, K = m + 2 := ⟨K - 2, by omega⟩
    have ho := dea_okt (i := i) (e := e + 1) (by omega) (by omega)
    have ho' := dea_okt (i := i + 1) (e := e) (by omega) (by omega)
    have hlt : i < (dea i (e + 1)).length := by rw [dea_len]; omega
    have hat : (dea i (e + 1))[i] = z26 := by
      simp [dea]
    have ea : table_Apply.f K (dea i (e + 1)) (i : Int) 0 2 = some _ := apply_ok K ho (dea_nn _ _) i hlt (k := ⟨0, 2⟩) rfl (by omega)
    rw [hat, show jn z26 ⟨0, 2⟩ = ⟨0, 2⟩ from rfl, if_neg (by decide), dea_set] at ea
    have w1 : wrap64 ((wrap64 ((n : Int) - (i : Int))) - 1) = (e : Int) := by unfold wrap64; omega
    rw [tattlelaw06_TableNodes.l0, if_pos (by omega), lowest_eq ho, Option.bind_some, dea_low, if_pos rfl, show ((i : Int) != (i : Int)) = false by simp, tattlelaw06_TableNodes.j2, if_neg (by decide), ea, Option.bind_some, if_pos rfl, if_pos rfl, up_eq ho', Option.bind_some, w1, if_pos (by rw [dea_up]), w64 i n (by omega) (by simp [maxLen]; omega)]
    exact nodes_l0 n hn1 hn e (i + 1) K (by omega) (by omega)
theorem TableNodes : tattlelaw06_TableNodes.Pure := by
  intro a0 a1 h0 h1
  obtain ⟨h00, h01⟩ := u8_wf h0
  obtain ⟨h10, h11⟩ := u8_wf h1
  obtain ⟨m, hm, hm64⟩ := tmod_nat a0 64 (by omega) (by omega)
  obtain ⟨n, hn⟩ : ∃ n : Nat, n = m + 1 := ⟨_, rfl⟩
  have hw : wrap64 (1 + (wrap64 (Int.tmod a0 64))) = (n : Int) := by rw [hm]; unfold wrap64; omega
  have hw1 : wrap64 a1 = a1 := by unfold wrap64; omega
  have hn1 : 1 ≤ n := by omega
  have hn64 : n ≤ 64 := by omega
  obtain ⟨K, hK⟩ : ∃ K : Nat, 400 ≤ K := ⟨400, Nat.le_refl _⟩
  refine ⟨K + 1, ?_⟩
  unfold tattlelaw06_TableNodes.f
  rw [hw, hw1]
  have enew : table_New.f (n : Int) = some (dea 0 n, 0) := by
    unfold table_New.f
    rw [if_neg (by omega), if_neg (by omega), if_pos (by omega), if_pos (by rw [Int.toNat_natCast]; omega), Int.toNat_natCast]
    rfl
  have ho := dea_okt (i := 0) (e := n) (by omega) (by omega)
  have hl := oth_len a1 (dea 0 n) 0 fun x hx => by rcases dea_mem hx with rfl | rfl <;> decide
  rw [dea_len, Nat.zero_add] at hl
  have eone : tattlelaw06_one.f (decide (a1 < (n : Int))) = some (if a1 < (n : Int) then 1 else 0) := by
    unfold tattlelaw06_one.f
    by_cases q : a1 < (n : Int)
    · rw [decide_eq_true q, if_pos rfl, if_pos q]
    · rw [decide_eq_false q, if_neg (by decide), if_neg q]
  have hb : (((plcs (oth a1) (dea 0 n) 0).length : Int) != wrap64 ((n : Int) - (if a1 < (n : Int) then 1 else 0))) = false := by
    rw [hl]
    by_cases q : a1 < (n : Int)
    · rw [if_pos q, if_pos (by omega), show wrap64 ((n : Int) - 1) = (n : Int) - 1 by unfold wrap64; omega]
      simp
    · rw [if_neg q, if_neg (by omega), show wrap64 ((n : Int) - 0) = (n : Int) - 0 by unfold wrap64; omega]
      simp
  rw [enew, Option.bind_some, if_pos rfl, up_eq ho, Option.bind_some, if_pos (by rw [dea_up]), others_eq ho, Option.bind_some, eone, Option.bind_some, hb, tattlelaw06_TableNodes.j0, if_neg (by decide)]
  exact nodes_l0 n hn1 hn64 n 0 K (by omega) (by omega)
end Go.Proofs.Ytjamociekniepaa.Pure
