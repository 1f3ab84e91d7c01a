/- ClockCovers, over numbers and lists alone: the printed function answers true at every input. -/
import Derived.Test.YtahppppkepcbkaaAw16
import Derived.Test.YtahppppkepcbkaaFnx0
import Derived.Test.YtahppppkepcbkaaFnx11
import Derived.Test.YtahppppkepcbkaaSayClockCovers
import Derived.Test.YtahppppkepcbkaaClock2
namespace Go.Proofs.Ytahppppkepcbkaa.Pure
open Go.RowKit Go.Proofs.Ytahppppkepcbkaa.Fn Go.Proofs.YtahppppkepcbkaaW.PrintWords Go.Proofs.YtahppppkepcbkaaW.PrintMore Go.Proofs.Ytahppppkepcbkaa.Gua Go.Proofs.Ytahppppkepcbkaa.Clk Go.Proofs.Ytahppppkepcbkaa.Clo
/-- Clocks are near, and a term's guard. -/
structure Cov (n : Nat) (L : List S87) (d r : Int) (t g : Nat) : Prop where
  n4 : n ≤ 4
  len : L.length ≤ 24
  play : playok (n : Int) L = true
  bnd : bnd d r
  near : ∀ q, q ≤ L.length → nearAt (pnd L) (pwh L) d r n q = true
  guard : ∀ x, x < g → many (t : Int) d r x = false
  term : t ≤ 255
theorem cover {n : Nat} {L : List S87} {d r : Int} {t g : Nat} (h : Cov n L d r t g) {a b p q : Nat} (ha : a < n) (hb : b < n) (hab : a ≠ b) (hpq : p ≤ q) (hq : q ≤ L.length)
    (ua : upf (pnd L) (pwh L) (a : Int) p q = true) (ub : upf (pnd L) (pwh L) (b : Int) p q = true) (hx : tk (pnd L) (pwh L) (a : Int) q - tk (pnd L) (pwh L) (a : Int) p < (g : Int)) : ¬tk (pnd L) (pwh L) (b : Int) q - tk (pnd L) (pwh L) (b : Int) p ≥ (t : Int) := by
  have ht : two (pnd L) (pwh L) d r (a : Int) (b : Int) p q = true := by
    by_cases e : b < a
    · exact (nearAt_iff _ _ d r n q).1 (h.near q hq) a b p ha e hpq
    · rw [two_comm]
      exact (nearAt_iff _ _ d r n q).1 (h.near q hq) b a p hb (by omega) hpq
  unfold two at ht
  rw [ua, ub, Bool.or_eq_true, decide_eq_true_eq] at ht
  have h1 := tk_mono (pnd L) (pwh L) (a : Int) p (q - p)
  rw [show p + (q - p) = q by omega] at h1
  rcases ht with ht | ht
  · cases ht
  · have h0 : 0 ≤ tk (pnd L) (pwh L) (a : Int) q - tk (pnd L) (pwh L) (a : Int) p := by omega
    generalize tk (pnd L) (pwh L) (a : Int) q - tk (pnd L) (pwh L) (a : Int) p = x at *
    generalize tk (pnd L) (pwh L) (b : Int) q - tk (pnd L) (pwh L) (b : Int) p = y at *
    clear h1
    obtain ⟨X, rfl⟩ := Int.eq_ofNat_of_zero_le h0
    have hg := h.guard X (by omega)
    rw [many_not] at hg
    intro hy
    have hd0 := h.bnd.1
    have hq0 : 0 ≤ (X : Int) / r := Int.ediv_nonneg (by omega) (by have := h.bnd.2.2.1; omega)
    have hlt : (X : Int) < y := by omega
    rw [Int.max_eq_right (by omega), Int.min_eq_left (by omega)] at ht
    omega
section
variable {n : Nat} {L : List S87} {d r : Int} {t g : Nat} (h : Cov n L d r t g) (l0 : List S87) (a4 a5 a6 : Int)
include h
theorem cov_l3 (a b p : Nat) (ha : a < n) (hb : b < n) (G : Nat) (hn : ∀ F, G ≤ F → tattlelaw04_ClockCovers.l2 F (t : Int) L (g : Int) (a : Int) (b : Int) (wrap64 ((p : Int) + 1)) (n : Int) l0 d r a4 a5 a6 = some true) :
    ∀ (m q F : Nat), q + m = L.length + 1 → p ≤ q → G + m + 2 ≤ F → tattlelaw04_ClockCovers.l3 F (t : Int) L (g : Int) (a : Int) (b : Int) (p : Int) (q : Int) (n : Int) l0 d r a4 a5 a6 = some true
  | 0, q, F, hq, hp, hF => by
    obtain ⟨F, rfl⟩ : ∃ q, F = q + 1 := ⟨F - 1, by omega⟩
    rw [tattlelaw04_ClockCovers.l3, if_neg (by omega)]
    exact hn F (by omega)
  | m + 1, q, F, hq, hp, hF => by
    obtain ⟨F, rfl⟩ : ∃ q, F = q + 1 := ⟨F - 1, by omega⟩
    have hlen := h.len
    have ih := cov_l3 a b p ha hb G hn m (q + 1) F (by omega) (by omega) (by omega)
    rw [show ((q + 1 : Nat) : Int) = (q : Int) + 1 by omega] at ih
    rw [tattlelaw04_ClockCovers.l3, if_pos (by omega), w64_succ q (by omega), ticks_eq _ _ _ _ _ _ (by omega), Option.bind_some, ticks_eq _ _ _ _ _ _ (by omega), Option.bind_some,
      if_pos (show playok (n : Int) L = true ∧ plc (n : Int) L (a : Int) (p : Int) (q : Int) from ⟨h.play, by omega, by omega, by omega, by omega, by omega⟩),
      if_pos (show playok (n : Int) L = true ∧ plc (n : Int) L (b : Int) (p : Int) (q : Int) from ⟨h.play, by omega, by omega, by omega, by omega, by omega⟩), Int.toNat_natCast, Int.toNat_natCast]
    by_cases hab : (a : Int) = (b : Int)
    · rw [if_pos hab]; exact ih
    · rw [if_neg hab]
      cases ua : upf (pnd L) (pwh L) (a : Int) p q with
      | false => simp only [Bool.false_eq_true, if_false]; rw [if_neg (by decide)]; exact ih
      | true =>
        cases ub : upf (pnd L) (pwh L) (b : Int) p q with
        | false => simp only [Bool.false_eq_true, if_false, if_true]; rw [if_neg (by decide)]; exact ih
        | true =>
          simp only [if_true]
          by_cases hx : tk (pnd L) (pwh L) (a : Int) q - tk (pnd L) (pwh L) (a : Int) p < (g : Int)
          · have ht := h.term
            rw [if_pos hx, w64_nat t (by omega), if_neg (cover h ha hb (by omega) hp (by omega) ua ub hx)]
            exact ih
          · rw [if_neg hx]; exact ih
theorem cov_l2 (a b : Nat) (ha : a < n) (hb : b < n) (G : Nat) (hn : ∀ F, G ≤ F → tattlelaw04_ClockCovers.l1 F (t : Int) L (g : Int) (a : Int) (wrap64 ((b : Int) + 1)) (n : Int) l0 d r a4 a5 a6 = some true) :
    ∀ (m p F : Nat), p + m = L.length + 1 → G + 100 * m + 2 ≤ F → tattlelaw04_ClockCovers.l2 F (t : Int) L (g : Int) (a : Int) (b : Int) (p : Int) (n : Int) l0 d r a4 a5 a6 = some true
  | 0, p, F, hp, hF => by
    obtain ⟨F, rfl⟩ : ∃ q, F = q + 1 := ⟨F - 1, by omega⟩
    rw [tattlelaw04_ClockCovers.l2, if_neg (by omega)]
    exact hn F (by omega)
  | m + 1, p, F, hp, hF => by
    obtain ⟨F, rfl⟩ : ∃ q, F = q + 1 := ⟨F - 1, by omega⟩
    have hlen := h.len
    rw [tattlelaw04_ClockCovers.l2, if_pos (by omega)]
    refine cov_l3 h l0 a4 a5 a6 a b p ha hb (G + 100 * m + 2) (fun F' hF' => ?_) (m + 1) p F (by omega) (Nat.le_refl _) (by omega)
    rw [w64_succ p (by omega), show (p : Int) + 1 = ((p + 1 : Nat) : Int) by omega]
    exact cov_l2 a b ha hb G hn m (p + 1) F' (by omega) hF'
theorem cov_l1 (a : Nat) (ha : a < n) (G : Nat) (hn : ∀ F, G ≤ F → tattlelaw04_ClockCovers.l0 F (t : Int) L (g : Int) (wrap64 ((a : Int) + 1)) (n : Int) l0 d r a4 a5 a6 = some true) :
    ∀ (m b F : Nat), b + m = n → G + 10000 * m + 2 ≤ F → tattlelaw04_ClockCovers.l1 F (t : Int) L (g : Int) (a : Int) (b : Int) (n : Int) l0 d r a4 a5 a6 = some true
  | 0, b, F, hb, hF => by
    obtain ⟨F, rfl⟩ : ∃ q, F = q + 1 := ⟨F - 1, by omega⟩
    rw [tattlelaw04_ClockCovers.l1, if_neg (by omega)]
    exact hn F (by omega)
  | m + 1, b, F, hb, hF => by
    obtain ⟨F, rfl⟩ : ∃ q, F = q + 1 := ⟨F - 1, by omega⟩
    have hlen := h.len
    have hn4 := h.n4
    rw [tattlelaw04_ClockCovers.l1, if_pos (by omega)]
    refine cov_l2 h l0 a4 a5 a6 a b ha (by omega) (G + 10000 * m + 2) (fun F' hF' => ?_) (L.length + 1) 0 F (by omega) (by omega)
    rw [w64_succ b (by omega), show (b : Int) + 1 = ((b + 1 : Nat) : Int) by omega]
    exact cov_l1 a ha G hn m (b + 1) F' (by omega) hF'
theorem cov_l0 : ∀ (m a F : Nat), a + m = n → 50000 * m + 2 ≤ F → tattlelaw04_ClockCovers.l0 F (t : Int) L (g : Int) (a : Int) (n : Int) l0 d r a4 a5 a6 = some true
  | 0, a, F, ha, hF => by
    obtain ⟨F, rfl⟩ : ∃ q, F = q + 1 := ⟨F - 1, by omega⟩
    have haw : tattlelaw04_awakeT.f = some true := rfl
    rw [tattlelaw04_ClockCovers.l0, if_neg (by omega), haw]
    rfl
  | m + 1, a, F, ha, hF => by
    obtain ⟨F, rfl⟩ : ∃ q, F = q + 1 := ⟨F - 1, by omega⟩
    have hn4 := h.n4
    rw [tattlelaw04_ClockCovers.l0, if_pos (by omega)]
    refine cov_l1 h l0 a4 a5 a6 a (by omega) (50000 * m + 2) (fun F' hF' => ?_) n 0 F (by omega) (by omega)
    rw [w64_succ a (by omega), show (a : Int) + 1 = ((a + 1 : Nat) : Int) by omega]
    exact cov_l0 m (a + 1) F' (by omega) hF'
end
theorem ClockCovers : tattlelaw04_ClockCovers.Pure := by
  intro a0 l0 d r a4 a5 a6 term _ _ _ _ _ _ _ hm
  have haw : tattlelaw04_awakeT.f = some true := rfl
  replace hm := u8_wf hm
  obtain ⟨t, rfl⟩ := Int.eq_ofNat_of_zero_le hm.1
  obtain ⟨K, hK⟩ : ∃ K, 6000000 ≤ K := ⟨6000000, Nat.le_refl _⟩
  refine ⟨K + 2, ?_⟩
  have hbad : ∀ L, tattlelaw04_ClockCovers.j0 (K + 2) (t : Int) L true a0 l0 d r a4 a5 a6 = some true := fun L => by
    rw [tattlelaw04_ClockCovers.j0, if_pos rfl, haw]
    rfl
  unfold tattlelaw04_ClockCovers.f
  rw [few_eq _ _ (by omega), Option.bind_some]
  have hlen := few_len l0
  generalize few l0 = L at *
  by_cases h1 : a0 < 1
  · rw [if_pos h1]; exact hbad _
  rw [if_neg h1]
  by_cases h2 : a0 > 4
  · rw [if_pos h2]; exact hbad _
  rw [if_neg h2]
  by_cases h3 : (L.length : Int) > 24
  · rw [decide_eq_true h3]; exact hbad _
  have hj : ∀ g, tattlelaw04_ClockCovers.j1 (K + 1) (t : Int) L g true a0 l0 d r a4 a5 a6 = some true := fun g => by
    rw [tattlelaw04_ClockCovers.j1, if_pos rfl, haw]
    rfl
  rw [decide_eq_false h3, tattlelaw04_ClockCovers.j0, if_neg (by decide), clock_near_eq _ _ _ _ _ (by omega), Option.bind_some, w64_nat t (by omega), guard_eq, Option.bind_some]
  by_cases hp : playok a0 L = true ∧ bnd d r
  · rw [if_pos hp]
    simp only
    rw [if_pos trivial]
    by_cases hg : tok (t : Int) ∧ bnd d r
    · rw [if_pos hg, if_pos hg, if_pos rfl]
      by_cases hn : farl a0 L d r = L.length
      · rw [decide_eq_true hn]
        obtain ⟨n, rfl⟩ := Int.eq_ofNat_of_zero_le (show 0 ≤ a0 by omega)
        have hall := (near_all hp.2.1).1 hn
        rw [Int.toNat_natCast] at hall
        rw [tattlelaw04_ClockCovers.j1, if_neg (by decide)]
        have hc : Cov n L d r t (gua (t : Int) d r) := ⟨by omega, by omega, hp.1, hp.2, hall, (gua_spec hg.1 hg.2).2.2, by omega⟩
        have hl := cov_l0 hc l0 a4 a5 a6 n 0 K (by omega) (by omega)
        rw [Int.natCast_zero] at hl
        exact hl
      · rw [decide_eq_false hn]
        exact hj _
    · rw [if_neg hg, if_neg hg, if_neg (by decide)]
      exact hj _
  · rw [if_neg hp]
    simp only
    rw [if_neg (by decide)]
    exact hj _
end Go.Proofs.Ytahppppkepcbkaa.Pure
