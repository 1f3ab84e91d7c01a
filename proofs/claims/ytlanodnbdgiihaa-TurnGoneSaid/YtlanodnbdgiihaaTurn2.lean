/- turn.Next as a whole; an order asked one by one. -/
import Derived.Test.YtlanodnbdgiihaaFnx13
import Derived.Test.YtlanodnbdgiihaaFnx14
import Derived.Test.YtlanodnbdgiihaaTurn
namespace Go.Proofs.Ytlanodnbdgiihaa.Dice
open Go.RowKit Go.Proofs.Ytlanodnbdgiihaa.Fn Go.Proofs.YtlanodnbdgiihaaW.PrintWords Go.Proofs.YtlanodnbdgiihaaW.PrintMore

theorem next_eq (k : Nat) (hk : 300 ≤ k) (L : ByteArray) (hL : L.size ≤ 1000000) (p : Int) (hp : mayd L p) (l : List Int) (hl : l.length ≤ 65) (h0 : 0 < l.length) (hs : nodesok l = true) (tl : List Int) (at_ : Nat) (ht : tl.length ≤ 65) (ha : at_ ≤ tl.length) (hd : distd tl = true) :
    turn_Next.f k tl (at_ : Int) L p l = some ((nxt L tl at_ p l).1, (nxt L tl at_ p l).2.1, (nxt L tl at_ p l).2.2.1, L, (nxt L tl at_ p l).2.2.2, 0) := by
  have hc : turn_Check.f tl (at_ : Int) = some 0 := by
    unfold turn_Check.f turn_distinct.f
    rw [hd, Option.bind_some, if_pos rfl, if_neg (by omega), if_neg (by omega)]
  have hdl : (tl.drop at_).length = tl.length - at_ := List.length_drop
  obtain ⟨k, rfl⟩ : ∃ m, k = m + 1 := ⟨k - 1, by omega⟩
  have hn := next_l0 L hL p hp l hl h0 hs tl at_ ht ha (tl.drop at_).length 0 k (by omega) (fun m hm => by omega) (by omega)
  unfold turn_Next.f
  rw [hc, Option.bind_some, if_pos rfl, nodes_eq l (by omega) _ (by omega), if_pos hs, Option.bind_some, if_pos rfl, check_eq, if_pos hp, Option.bind_some]
  rw [turn_Next.j0, if_neg (by decide), if_neg (by omega), if_pos (by omega), if_pos (by omega), Option.bind_some]
  rw [show ((at_ : Int)).toNat = at_ by omega]
  exact hn
theorem distd_perm {a b : List Int} (h : a.Perm b) (hb : distd b = true) : distd a = true := by
  unfold distd at *
  rw [Bool.and_eq_true, decide_eq_true_eq, decide_eq_true_eq] at *
  exact ⟨fun x hx => hb.1 x (h.mem_iff.1 hx), h.nodup_iff.2 hb.2⟩
/-- At the end of a turn: the dice's order. -/
theorem nxt_end (L : ByteArray) (tl : List Int) (p : Int) (l : List Int) : nxt L tl tl.length p l = ((shf L (l.length - 1) l p).1.getD 0 0, (shf L (l.length - 1) l p).1, 1, (shf L (l.length - 1) l p).2) := by
  unfold nxt
  rw [List.drop_length, if_neg (by simp)]
/-- Within an order whose next is a node. -/
theorem nxt_in (L : ByteArray) (tl : List Int) (i : Nat) (p : Int) (l : List Int) (hi : i < tl.length) (hm : tl.getD i 0 ∈ l) : nxt L tl i p l = (tl.getD i 0, tl, ((i + 1 : Nat) : Int), p) := by
  have hlen : 0 < (tl.drop i).length := by rw [List.length_drop]; omega
  have h0 : (tl.drop i)[0] = tl.getD i 0 := by simp [hi]
  have hf : (tl.drop i).findIdx (fun x => decide (x ∈ l)) = 0 := by
    rw [List.findIdx_eq hlen]
    exact ⟨by rw [h0]; exact decide_eq_true hm, fun j hj => by omega⟩
  unfold nxt
  rw [hf, if_pos hlen]
  simp [hi]
end Go.Proofs.Ytlanodnbdgiihaa.Dice
