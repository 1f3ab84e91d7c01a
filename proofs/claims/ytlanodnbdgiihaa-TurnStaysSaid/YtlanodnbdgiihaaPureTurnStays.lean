/- TurnStays, over numbers and lists alone: the printed function answers true at every input. -/
import Derived.Test.YtlanodnbdgiihaaFnx0
import Derived.Test.YtlanodnbdgiihaaFnx19
import Derived.Test.YtlanodnbdgiihaaFnx20
import Derived.Test.YtlanodnbdgiihaaFnx4
import Derived.Test.YtlanodnbdgiihaaSayTurnStays
import Derived.Test.YtlanodnbdgiihaaTurn4
namespace Go.Proofs.Ytlanodnbdgiihaa.Pure
open Go.RowKit Go.Proofs.Ytlanodnbdgiihaa.Fn Go.Proofs.YtlanodnbdgiihaaW.PrintWords Go.Proofs.YtlanodnbdgiihaaW.PrintMore Go.Proofs.Ytlanodnbdgiihaa.Dice

theorem distd_drop {l : List Int} (i : Nat) (h : distd l = true) : distd (l.drop i) = true := by
  unfold distd at *
  rw [Bool.and_eq_true, decide_eq_true_eq, decide_eq_true_eq] at *
  exact ⟨fun x hx => h.1 x (List.mem_of_mem_drop hx), h.2.sublist (List.drop_sublist i l)⟩
theorem okt_vt {L : ByteArray} {l tl : List Int} {at_ : Nat} {p : Int} (h : Vt L l tl at_ p) : okt tl (at_ : Int) = true := by
  have := h.at_le
  unfold okt
  rw [h.dis, Bool.true_and, decide_eq_true_eq]
  omega
theorem TurnStays : tattlelaw08_TurnStays.Pure := by
  intro t0 at0 L0 p l0 _ _ _ _ _
  obtain ⟨L, hL, hsz⟩ := few_eq L0 p
  obtain ⟨l, hl, hll⟩ := few8_all l0
  obtain ⟨tl, ht, htl⟩ := few8_all t0
  obtain ⟨K, hK⟩ : ∃ K, 3000 ≤ K := ⟨3000, Nat.le_refl _⟩
  refine ⟨K + 1, ?_⟩
  unfold tattlelaw08_TurnStays.f
  rw [ht, Option.bind_some, hL, Option.bind_some, hl, Option.bind_some, tcheck_eq, Option.bind_some]
  simp only
  by_cases hc : okt tl at0 = true
  · obtain ⟨hd, ha, hb⟩ := okt_at hc
    obtain ⟨at_, rfl⟩ := Int.eq_ofNat_of_zero_le ha
    have hdl : (tl.drop at_).length = tl.length - at_ := List.length_drop
    have hcap : ([] : List Int).length + tl.length < 17592186044416 := by simp; omega
    have hsame : tattleref02_Same.f (K + 1) tl ([] ++ tl) = some true := by rw [List.nil_append, same_eq (K + 1) tl tl (by omega) (by omega), decide_eq_true rfl]
    have hc0 : okt (tl.drop at_) 0 = true := by
      unfold okt
      rw [distd_drop at_ hd, Bool.true_and, decide_eq_true_eq]
      omega
    rw [if_pos hc, if_pos rfl, Option.bind_some, if_pos hcap, Int.toNat_natCast]
    by_cases hg : nodesok l = true ∧ mayd L p ∧ l.length ≠ 0
    · obtain ⟨hs, hp, h0⟩ := hg
      obtain ⟨n, x, atx, px, h1, h2, _, h4, h5, h6⟩ := next_step (K + 1) (by omega) L (by omega) p l hll (by omega) hs tl at_ ⟨htl, by omega, hd, hp⟩
      obtain ⟨m, y, aty, py, k1, k2, _, k4, k5, k6⟩ := next_step (K + 1) (by omega) L (by omega) p l hll (by omega) hs (tl.drop at_) 0 ⟨by omega, by omega, distd_drop at_ hd, hp⟩
      have hr : rest l (tl.drop at_) 0 = rest l tl at_ := rfl
      rw [hr] at k6
      have hnp : n = m ∧ px = py := by
        rcases h6 with ⟨h7, h8, _, _⟩ | ⟨h7, h8, h9, _, _⟩
        · rcases k6 with ⟨k7, k8, _, _⟩ | ⟨k7, _, _, _, _⟩
          · rw [h7, List.cons.injEq] at k7
            exact ⟨k7.1, by rw [h8, k8]⟩
          · rw [h7] at k7
            cases k7
        · rcases k6 with ⟨k7, _, _, _⟩ | ⟨k7, k8, k9, _, _⟩
          · rw [h7] at k7
            cases k7
          · rw [h8, List.cons.injEq] at k8
            exact ⟨k8.1, by rw [h9, k9]⟩
      obtain ⟨rfl, rfl⟩ := hnp
      have hxl := h2.len
      have hxa := h2.at_le
      have z : wrap64 ((atx : Int) - 1) = ((atx - 1 : Nat) : Int) := by rw [w64_id _ (by omega) (by omega)]; omega
      rw [h1, Option.bind_some, if_pos ha, if_pos hb]
      rw [show ((0 : Nat) : Int) = 0 from rfl] at k1
      rw [k1, Option.bind_some]
      simp only
      rw [if_pos trivial, if_neg (by simp), if_pos trivial, hsame, Option.bind_some, tattlelaw08_TurnStays.j0, if_neg (by decide), if_pos rfl, tcheck_eq, okt_vt h2, Option.bind_some, if_pos rfl, if_pos rfl, tcheck_eq, okt_vt k2, Option.bind_some, if_pos rfl, if_pos rfl, if_pos (by omega), if_pos (by omega), z, if_pos (by omega), if_pos (by omega), rd_nat, if_pos h5]
      rfl
    · have h1 := next_all (K + 1) (by omega) L (by omega) p l hll tl (at_ : Int) htl
      have k1 := next_all (K + 1) (by omega) L (by omega) p l hll (tl.drop at_) 0 (by omega)
      have hn : ∃ e : Int, e ≠ 0 ∧ nres L p l tl (at_ : Int) = (0, tl, (at_ : Int), L, p, e) ∧ nres L p l (tl.drop at_) 0 = (0, tl.drop at_, 0, L, p, e) := by
        unfold nres
        by_cases h : nodesok l = true ∧ mayd L p
        · have h0 : l.length = 0 := Decidable.byContradiction fun q => hg ⟨h.1, h.2, q⟩
          exact ⟨6, by decide, by rw [if_pos ⟨hc, h⟩, if_pos h0], by rw [if_pos ⟨hc0, h⟩, if_pos h0]⟩
        · exact ⟨1, by decide, by rw [if_neg (fun q => h q.2)], by rw [if_neg (fun q => h q.2)]⟩
      obtain ⟨e, he, hn1, hn2⟩ := hn
      have hs2 : tattleref08_Same.f K tl (at_ : Int) tl (at_ : Int) = some true := by
        unfold tattleref08_Same.f
        rw [if_pos rfl, same_eq K tl tl (by omega) (by omega), Option.bind_some, decide_eq_true rfl]
      rw [h1, hn1, Option.bind_some, if_pos ha, if_pos hb, k1, hn2, Option.bind_some]
      simp only
      rw [if_pos trivial, if_neg (by simp), if_pos trivial, hsame, Option.bind_some, tattlelaw08_TurnStays.j0, if_neg (by decide), if_neg he, hs2, Option.bind_some, if_pos rfl, if_pos (by simp)]
      rfl
  · rw [if_neg hc, if_neg (by decide)]
    rfl
end Go.Proofs.Ytlanodnbdgiihaa.Pure
