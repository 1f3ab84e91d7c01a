/- ClockSplits, over numbers and lists alone: the printed function answers true at every input. -/
import Derived.Test.YtahppppkepcbkaaAw16
import Derived.Test.YtahppppkepcbkaaFnx0
import Derived.Test.YtahppppkepcbkaaFnx13
import Derived.Test.YtahppppkepcbkaaFnx14
import Derived.Test.YtahppppkepcbkaaFnx5
import Derived.Test.YtahppppkepcbkaaSayClockSplits
import Derived.Test.YtahppppkepcbkaaClock2
namespace Go.Proofs.Ytahppppkepcbkaa.Pure
open Go.RowKit Go.Proofs.Ytahppppkepcbkaa.Fn Go.Proofs.YtahppppkepcbkaaW.PrintWords Go.Proofs.YtahppppkepcbkaaW.PrintMore Go.Proofs.Ytahppppkepcbkaa.Gua Go.Proofs.Ytahppppkepcbkaa.Clk Go.Proofs.Ytahppppkepcbkaa.Clo
theorem splits_near (a0 mid : Int) (L : List S87) (hL : L.length ≤ 24) (hm : 0 ≤ mid ∧ mid ≤ 255) (F : Nat) (hF : 6000000 ≤ F) :
    clock_Near.f F a0 L (L.length : Int) (wrap64 (1 + (wrap64 mid))) = some (if playok a0 L = true then (true, 0) else (false, 1)) := by
  rw [w64_id mid (by omega) (by omega), w64_id (1 + mid) (by omega) (by omega), clock_near_eq _ _ _ _ _ hF]
  have hb : bnd (L.length : Int) (1 + mid) := ⟨by omega, by omega, by omega, by omega⟩
  by_cases hp : playok a0 L = true
  · have hn : farl a0 L (L.length : Int) (1 + mid) = L.length := (near_all (by omega)).2 (fun t ht => nearAt_len _ _ _ (by omega) (by omega))
    rw [if_pos ⟨hp, hb⟩, if_pos hp, decide_eq_true hn]
  · rw [if_neg (fun q => hp q.1), if_neg hp]
theorem splits_j1 (K : Nat) (hK : 6000000 ≤ K) (a0 d r x p q mid : Int) (l0 L : List S87) (hL : L.length ≤ 24) (hm : 0 ≤ mid ∧ mid ≤ 255) : tattlelaw04_ClockSplits.j1 (K + 1) mid L false a0 l0 d r x p q = some true := by
  have haw : tattlelaw04_awakeT.f = some true := rfl
  rw [tattlelaw04_ClockSplits.j1, if_neg (by decide), splits_near a0 mid L hL hm K hK, Option.bind_some, may_eq _ _ _ (by omega), Option.bind_some]
  cases hp : playok a0 L with
  | true => simp only [if_true]; rw [if_pos (by decide), if_pos (by decide), haw]; rfl
  | false => rw [if_pos (by decide), if_pos (by decide), haw]; rfl
theorem ClockSplits : tattlelaw04_ClockSplits.Pure := by
  intro a0 l0 d r x p q mid _ _ _ _ _ hp0 hq0 hm
  have haw : tattlelaw04_awakeT.f = some true := rfl
  replace hm := u8_wf hm
  obtain ⟨K, hK⟩ : ∃ K, 6000000 ≤ K := ⟨6000000, Nat.le_refl _⟩
  refine ⟨K + 2, ?_⟩
  have hbad : ∀ L, tattlelaw04_ClockSplits.j0 (K + 2) mid L true a0 l0 d r x p q = some true := fun L => by
    rw [tattlelaw04_ClockSplits.j0, if_pos rfl, haw]
    rfl
  unfold tattlelaw04_ClockSplits.f
  rw [few_eq _ _ (by omega), Option.bind_some]
  have hlen := few_len l0
  generalize few l0 = L at *
  by_cases h2 : a0 > 4
  · rw [if_pos h2]; exact hbad _
  rw [if_neg h2]
  by_cases h3 : (L.length : Int) > 24
  · rw [decide_eq_true h3]; exact hbad _
  have hL : L.length ≤ 24 := by omega
  rw [decide_eq_false h3, tattlelaw04_ClockSplits.j0, if_neg (by decide), ticks_eq _ _ _ _ _ _ (by omega), Option.bind_some]
  have hrest : ((clock_Near.f (K + 1) a0 L (L.length : Int) (wrap64 (1 + (wrap64 mid)))).bind fun bt247 => ((tattleref04_May.f (K + 1) a0 L).bind fun t249 => (if (bt247.1 == t249) = true then (if ((bt247.2 == 0) == bt247.1) = true then ((tattlelaw04_awakeT.f).bind fun t250 => (some t250)) else (some false)) else (some false)))) = some true := by
    rw [splits_near a0 mid L hL hm _ (by omega), Option.bind_some, may_eq _ _ _ (by omega), Option.bind_some]
    cases hp : playok a0 L with
    | true => simp only [if_true]; rw [if_pos (by decide), if_pos (by decide), haw]; rfl
    | false => rw [if_pos (by decide), if_pos (by decide), haw]; rfl
  by_cases hc : playok a0 L = true ∧ plc a0 L x p q
  · rw [if_pos hc]
    by_cases hu : upf (pnd L) (pwh L) x p.toNat q.toNat = true
    · rw [if_pos hu]
      simp only
      rw [if_pos trivial]
      obtain ⟨hp, c1, c2, c3, c4, c5⟩ := hc
      obtain ⟨⟨g1, g2, g3⟩, hok⟩ := playok_iff.1 hp
      obtain ⟨P, rfl⟩ := Int.eq_ofNat_of_zero_le c3
      obtain ⟨Q, rfl⟩ := Int.eq_ofNat_of_zero_le (show 0 ≤ q by omega)
      obtain ⟨M, rfl⟩ := Int.eq_ofNat_of_zero_le hm.1
      have hml := Nat.mod_lt M (show 0 < Q - P + 1 by omega)
      rw [w64_sub P Q (by omega) (by omega), w64_succ (Q - P) (by omega), w64_nat M (by omega), tmod_nat, w64_add P _ (by omega) (by omega), if_neg (by omega)]
      generalize M % (Q - P + 1) = m at *
      rw [Int.toNat_natCast, Int.toNat_natCast] at *
      have hw : ∀ i, i < Q → pwh L i = 0 ∨ pwh L i = 1 ∨ pwh L i = 2 := fun i hi => (okb_at _ _ hok (show i < L.length by omega)).2.2.2
      have u1 : upf (pnd L) (pwh L) x P (P + m) = true := upf_to _ _ hw hu (by omega) (by omega)
      have u2 : upf (pnd L) (pwh L) x (P + m) Q = true := upf_from _ _ hu (by omega)
      have t1 := tk_rng (pnd L) (pwh L) x P
      have t2 := tk_rng (pnd L) (pwh L) x (P + m)
      have t3 := tk_rng (pnd L) (pwh L) x Q
      rw [ticks_eq _ _ _ _ _ _ (by omega), Option.bind_some, ticks_eq _ _ _ _ _ _ (by omega), Option.bind_some, Int.toNat_natCast, Int.toNat_natCast, Int.toNat_natCast,
        if_pos (show playok a0 L = true ∧ plc a0 L x (P : Int) ((P + m : Nat) : Int) from ⟨hp, c1, c2, by omega, by omega, by omega⟩), if_pos u1,
        if_pos (show playok a0 L = true ∧ plc a0 L x ((P + m : Nat) : Int) (Q : Int) from ⟨hp, c1, c2, by omega, by omega, by omega⟩), if_pos u2]
      simp only
      rw [if_pos trivial, if_pos trivial, w64_id _ (by omega) (by omega), show tk (pnd L) (pwh L) x (P + m) - tk (pnd L) (pwh L) x P + (tk (pnd L) (pwh L) x Q - tk (pnd L) (pwh L) x (P + m)) = tk (pnd L) (pwh L) x Q - tk (pnd L) (pwh L) x P by omega, bne_self_eq_false]
      exact splits_j1 K hK a0 d r x _ _ _ l0 L hL hm
    · rw [if_neg hu]
      simp only
      rw [if_neg (by decide)]
      exact hrest
  · rw [if_neg hc]
    simp only
    rw [if_neg (by decide)]
    exact hrest
end Go.Proofs.Ytahppppkepcbkaa.Pure
