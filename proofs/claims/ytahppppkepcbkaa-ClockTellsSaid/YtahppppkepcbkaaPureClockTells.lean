/- ClockTells, over numbers and lists alone: the printed function answers true at every input. -/
import Derived.Test.YtahppppkepcbkaaAw16
import Derived.Test.YtahppppkepcbkaaFnx0
import Derived.Test.YtahppppkepcbkaaFnx15
import Derived.Test.YtahppppkepcbkaaFnx17
import Derived.Test.YtahppppkepcbkaaFnx18
import Derived.Test.YtahppppkepcbkaaSayClockTells
import Derived.Test.YtahppppkepcbkaaClock3
namespace Go.Proofs.Ytahppppkepcbkaa.Pure
open Go.RowKit Go.Proofs.Ytahppppkepcbkaa.Fn Go.Proofs.YtahppppkepcbkaaW.PrintWords Go.Proofs.YtahppppkepcbkaaW.PrintMore Go.Proofs.Ytahppppkepcbkaa.Gua Go.Proofs.Ytahppppkepcbkaa.Clk Go.Proofs.Ytahppppkepcbkaa.Clo
theorem check_eq (a0 : Int) (l : List S87) : clock_Check.f a0 l = some (if playok a0 l = true then 0 else 1) := by
  unfold clock_Check.f clock_played.f
  cases hp : playok a0 l with
  | true => rw [if_pos rfl, Option.bind_some]; rfl
  | false => rw [if_neg (by decide), Option.bind_some]; rfl
theorem tells_j4 (K : Nat) (hK : 1000000 ≤ K) (n : Nat) (L l0 : List S87) (d r a4 a5 a6 : Int) (hn : n ≤ 4) (hL : L.length ≤ 24) (hp : playok (n : Int) L = true) (hb : bnd d r) :
    tattlelaw04_ClockTells.j4 (K + 1) L ((farl (n : Int) L d r : Nat) : Int) false (n : Int) l0 d r a4 a5 a6 = some true := by
  have haw : tattlelaw04_awakeT.f = some true := rfl
  obtain ⟨f1, f2, f3⟩ := far_spec (pnd L) (pwh L) d r n L.length hb.1
  have hfe : far (pnd L) (pwh L) d r n L.length = farl (n : Int) L d r := by unfold farl; rw [Int.toNat_natCast]
  rw [hfe] at f1 f2 f3
  have hok := (playok_iff.1 hp).2
  have hw : ∀ m, m ≤ L.length → ∀ i, i < (L.take m).length → pwh (L.take m) i = 0 ∨ pwh (L.take m) i = 1 ∨ pwh (L.take m) i = 2 := by
    intro m hm i hi
    rw [List.length_take] at hi
    rw [(take_at L m i (by omega)).2]
    exact (okb_at _ _ hok (show i < L.length by omega)).2.2.2
  have hr : ∀ m, m ≤ L.length → tattleref04_Near.f K (n : Int) (L.take m) d r = some (decide (∀ t, t ≤ m → nearAt (pnd L) (pwh L) d r n t = true)) := by
    intro m hm
    have hl : (L.take m).length = m := by rw [List.length_take]; omega
    rw [rnear_eq (hw m hm) (by omega) hb hn K hK, Option.some.injEq, Bool.eq_iff_iff, rnear_iff, decide_eq_true_eq, hl]
    constructor
    · intro h t ht
      rw [← nearAt_congr d r n (fun i hi => take_at L m i (by omega))]
      exact h t ht
    · intro h t ht
      rw [nearAt_congr d r n (fun i hi => take_at L m i (by omega))]
      exact h t ht
  generalize farl (n : Int) L d r = k at *
  rw [tattlelaw04_ClockTells.j4, if_neg (by decide), if_pos (by omega), if_pos (by omega), Int.toNat_natCast, hr k f1, Option.bind_some, decide_eq_true f2, if_pos rfl]
  by_cases hk : k = L.length
  · rw [if_pos (by omega), haw]
    rfl
  · rcases f3 with f3 | f3
    · exact absurd f3 hk
    · rw [if_neg (by omega), w64_succ k (by omega), if_pos (by omega), if_pos (by omega), show (k : Int) + 1 = ((k + 1 : Nat) : Int) by omega, Int.toNat_natCast, hr (k + 1) (by omega), Option.bind_some, decide_eq_false (fun h => by rw [h (k + 1) (Nat.le_refl _)] at f3; cases f3), if_neg (by decide), haw]
      rfl
theorem tells_j3 (K : Nat) (hK : 1000000 ≤ K) (n : Nat) (L l0 : List S87) (d r a4 a5 a6 : Int) (hn : n ≤ 4) (hL : L.length ≤ 24) (hp : playok (n : Int) L = true) :
    tattlelaw04_ClockTells.j3 (K + 2) L (decide (bnd d r) && decide (farl (n : Int) L d r = L.length)) (if bnd d r then 0 else 1) (if bnd d r then ((farl (n : Int) L d r : Nat) : Int) else 0) (if bnd d r then 0 else 1) (n : Int) l0 d r a4 a5 a6 = some true := by
  have haw : tattlelaw04_awakeT.f = some true := rfl
  have hok := (playok_iff.1 hp).2
  rw [tattlelaw04_ClockTells.j3, rbound_eq, Option.bind_some]
  by_cases hb : bnd d r
  · rw [decide_eq_true hb, if_pos rfl, if_pos hb, if_pos hb, rnear_eq (fun i hi => (okb_at _ _ hok hi).2.2.2) (by omega) hb hn _ (by omega), Option.bind_some, Bool.true_and]
    have e : decide (farl (n : Int) L d r = L.length) = rnear n L d r := by
      have hall := near_all (a0 := (n : Int)) (l := L) (d := d) (r := r) hb.1
      rw [Int.toNat_natCast] at hall
      rw [Bool.eq_iff_iff, decide_eq_true_eq, rnear_iff, hall]
    have f1 := (far_spec (pnd L) (pwh L) d r n L.length hb.1).1
    have hfe : far (pnd L) (pwh L) d r n L.length = farl (n : Int) L d r := by unfold farl; rw [Int.toNat_natCast]
    rw [hfe] at f1
    rw [e, bne_self_eq_false, if_neg (by decide), if_pos rfl, if_pos rfl, if_neg (by omega), decide_eq_false (by omega)]
    exact tells_j4 K hK n L l0 d r a4 a5 a6 hn hL hp hb
  · rw [decide_eq_false hb, if_neg (by decide), if_neg hb, if_neg hb, Bool.false_and, if_neg (by decide), if_pos rfl, if_pos rfl, if_pos rfl, haw]
    rfl
theorem tells_j2 (K : Nat) (hK : 1000000 ≤ K) (n : Nat) (L l0 : List S87) (d r x p q : Int) (hn : n ≤ 4) (hL : L.length ≤ 24) (hp : playok (n : Int) L = true) (b : Bool) (hbq : b = !decide (plc (n : Int) L x p q)) (t e : Int)
    (hte : (t, e) = if plc (n : Int) L x p q then (if upf (pnd L) (pwh L) x p.toNat q.toNat = true then (tk (pnd L) (pwh L) x q.toNat - tk (pnd L) (pwh L) x p.toNat, 0) else (0, 7)) else ((0 : Int), (1 : Int))) :
    tattlelaw04_ClockTells.j2 (K + 3) L t e (decide (bnd d r) && decide (farl (n : Int) L d r = L.length)) (if bnd d r then 0 else 1) (if bnd d r then ((farl (n : Int) L d r : Nat) : Int) else 0) (if bnd d r then 0 else 1) b (n : Int) l0 d r x p q = some true := by
  have hj3 := tells_j3 K hK n L l0 d r x p q hn hL hp
  have hok := (playok_iff.1 hp).2
  rw [tattlelaw04_ClockTells.j2]
  by_cases hc : plc (n : Int) L x p q
  · rw [if_pos hc] at hte
    rw [decide_eq_true hc] at hbq
    subst hbq
    rw [if_neg (by decide)]
    obtain ⟨c1, c2, c3, c4, c5⟩ := hc
    obtain ⟨P, rfl⟩ := Int.eq_ofNat_of_zero_le c3
    obtain ⟨Q, rfl⟩ := Int.eq_ofNat_of_zero_le (show 0 ≤ q by omega)
    rw [Int.toNat_natCast, Int.toNat_natCast] at hte
    rw [rticks_eq (fun i hi => (okb_at _ _ hok hi).2.2.2) (by omega) x (show P ≤ Q by omega) (by omega) _ (by omega), Option.bind_some]
    cases hu : upf (pnd L) (pwh L) x P Q with
    | true =>
      rw [hu, if_pos rfl] at hte
      obtain ⟨rfl, rfl⟩ := Prod.mk.inj hte
      simp only [if_true]
      exact hj3
    | false =>
      rw [hu, if_neg (by decide)] at hte
      obtain ⟨rfl, rfl⟩ := Prod.mk.inj hte
      simp only [Bool.false_eq_true, if_false, if_true]
      exact hj3
  · rw [if_neg hc] at hte
    rw [decide_eq_false hc] at hbq
    subst hbq
    obtain ⟨rfl, rfl⟩ := Prod.mk.inj hte
    rw [if_pos (by decide), if_pos rfl, if_pos rfl]
    exact hj3
theorem tells_j1 (K : Nat) (hK : 6000000 ≤ K) (N : Int) (L l0 : List S87) (d r x p q : Int) (hN : N ≤ 4 ∨ 64 < N) (hL : L.length ≤ 24 ∨ L.length = 401) :
    tattlelaw04_ClockTells.j1 (K + 4) L N l0 d r x p q = some true := by
  have haw : tattlelaw04_awakeT.f = some true := rfl
  rw [tattlelaw04_ClockTells.j1, ticks_eq _ _ _ _ _ _ (by omega), Option.bind_some, clock_near_eq _ _ _ _ _ (by omega), Option.bind_some, far_eq _ _ _ _ _ (by omega), Option.bind_some, check_eq, Option.bind_some, may_eq _ _ _ (by omega), Option.bind_some]
  cases hp : playok N L with
  | false =>
    rw [if_neg (by decide), Option.bind_some, if_neg (c := (false : Bool) = true) (by decide), if_neg (c := false = true ∧ plc N L x p q) (fun q => by cases q.1), if_neg (c := false = true ∧ bnd d r) (fun q => by cases q.1), if_neg (c := false = true ∧ bnd d r) (fun q => by cases q.1)]
    simp only
    rw [if_pos trivial, if_pos trivial, if_neg (by decide), if_pos trivial, if_pos trivial, if_pos trivial, haw]
    rfl
  | true =>
    obtain ⟨⟨g1, g2, g3⟩, hok⟩ := playok_iff.1 hp
    obtain ⟨n, rfl⟩ := Int.eq_ofNat_of_zero_le (show 0 ≤ N by omega)
    have key : ∀ b, b = !decide (plc (n : Int) L x p q) → tattlelaw04_ClockTells.j2 (K + 3) L (if true = true ∧ plc (n : Int) L x p q then (if upf (pnd L) (pwh L) x p.toNat q.toNat = true then (tk (pnd L) (pwh L) x q.toNat - tk (pnd L) (pwh L) x p.toNat, 0) else (0, 7)) else ((0 : Int), (1 : Int))).1 (if true = true ∧ plc (n : Int) L x p q then (if upf (pnd L) (pwh L) x p.toNat q.toNat = true then (tk (pnd L) (pwh L) x q.toNat - tk (pnd L) (pwh L) x p.toNat, 0) else (0, 7)) else ((0 : Int), (1 : Int))).2
        (if true = true ∧ bnd d r then (decide (farl (n : Int) L d r = L.length), (0 : Int)) else (false, 1)).1 (if true = true ∧ bnd d r then (decide (farl (n : Int) L d r = L.length), (0 : Int)) else (false, 1)).2 (if true = true ∧ bnd d r then (((farl (n : Int) L d r : Nat) : Int), (0 : Int)) else (0, 1)).1 (if true = true ∧ bnd d r then (((farl (n : Int) L d r : Nat) : Int), (0 : Int)) else (0, 1)).2 b (n : Int) l0 d r x p q = some true := by
      intro b hb
      obtain ⟨te, hte⟩ : ∃ te : Int × Int, te = if plc (n : Int) L x p q then (if upf (pnd L) (pwh L) x p.toNat q.toNat = true then (tk (pnd L) (pwh L) x q.toNat - tk (pnd L) (pwh L) x p.toNat, 0) else (0, 7)) else ((0 : Int), (1 : Int)) := ⟨_, rfl⟩
      have h := tells_j2 K (by omega) n L l0 d r x p q (by omega) (by omega) hp b hb te.1 te.2 hte
      subst hte
      by_cases hbn : bnd d r
      · rw [decide_eq_true hbn, if_pos hbn, if_pos hbn, Bool.true_and] at h
        rw [if_pos (show true = true ∧ bnd d r from ⟨rfl, hbn⟩), if_pos (show true = true ∧ bnd d r from ⟨rfl, hbn⟩)]
        by_cases hc : plc (n : Int) L x p q
        · rw [if_pos hc] at h
          rw [if_pos (show true = true ∧ plc (n : Int) L x p q from ⟨rfl, hc⟩)]
          exact h
        · rw [if_neg hc] at h
          rw [if_neg (show ¬(true = true ∧ plc (n : Int) L x p q) from fun q => hc q.2)]
          exact h
      · rw [decide_eq_false hbn, if_neg hbn, if_neg hbn, Bool.false_and] at h
        rw [if_neg (show ¬(true = true ∧ bnd d r) from fun q => hbn q.2), if_neg (show ¬(true = true ∧ bnd d r) from fun q => hbn q.2)]
        by_cases hc : plc (n : Int) L x p q
        · rw [if_pos hc] at h
          rw [if_pos (show true = true ∧ plc (n : Int) L x p q from ⟨rfl, hc⟩)]
          exact h
        · rw [if_neg hc] at h
          rw [if_neg (show ¬(true = true ∧ plc (n : Int) L x p q) from fun q => hc q.2)]
          exact h
    rw [if_pos (c := (true : Bool) = true) rfl, if_neg (by decide), Option.bind_some, if_pos (c := (true : Bool) = true) rfl]
    by_cases c1 : x < 0
    · rw [if_pos c1]
      exact key true (by rw [decide_eq_false (fun h => by have := h.1; omega)]; rfl)
    · rw [if_neg c1]
      by_cases c2 : x ≥ (n : Int)
      · rw [if_pos c2]
        exact key true (by rw [decide_eq_false (fun h => by have := h.2.1; omega)]; rfl)
      · rw [if_neg c2]
        by_cases c3 : p < 0
        · rw [if_pos c3]
          exact key true (by rw [decide_eq_false (fun h => by have := h.2.2.1; omega)]; rfl)
        · rw [if_neg c3]
          by_cases c4 : p > q
          · rw [if_pos c4]
            exact key true (by rw [decide_eq_false (fun h => by have := h.2.2.2.1; omega)]; rfl)
          · rw [if_neg c4]
            refine key _ ?_
            by_cases c5 : q > (L.length : Int)
            · rw [decide_eq_true c5, decide_eq_false (fun h => by have := h.2.2.2.2; omega)]
              rfl
            · rw [decide_eq_false c5, decide_eq_true (show plc (n : Int) L x p q from ⟨by omega, by omega, by omega, by omega, by omega⟩)]
              rfl
theorem ClockTells : tattlelaw04_ClockTells.Pure := by
  intro a0 l0 d r x p q _ _ _ _ _ _ _
  obtain ⟨K, hK⟩ : ∃ K, 6000000 ≤ K := ⟨6000000, Nat.le_refl _⟩
  refine ⟨K + 5, ?_⟩
  unfold tattlelaw04_ClockTells.f
  rw [few_eq _ _ (by omega), Option.bind_some]
  have hlen := few_len l0
  generalize few l0 = L at *
  by_cases h1 : a0 > 4
  · rw [if_pos h1, tattlelaw04_ClockTells.j0]
    by_cases h2 : a0 ≤ 64
    · rw [decide_eq_true h2, if_pos rfl]
      exact tells_j1 K hK 4 L l0 d r x p q (by omega) hlen
    · rw [decide_eq_false h2, if_neg (by decide)]
      exact tells_j1 K hK a0 L l0 d r x p q (by omega) hlen
  · rw [if_neg h1, tattlelaw04_ClockTells.j0, if_neg (by decide)]
    exact tells_j1 K hK a0 L l0 d r x p q (by omega) hlen
end Go.Proofs.Ytahppppkepcbkaa.Pure
