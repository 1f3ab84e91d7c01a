/- ClockStays, over numbers and lists alone: the printed function answers true at every input. -/
import Derived.Test.YtahppppkepcbkaaAw16
import Derived.Test.YtahppppkepcbkaaFnx0
import Derived.Test.YtahppppkepcbkaaFnx8
import Derived.Test.YtahppppkepcbkaaSayClockStays
import Derived.Test.YtahppppkepcbkaaClock2
namespace Go.Proofs.Ytahppppkepcbkaa.Pure
open Go.RowKit Go.Proofs.Ytahppppkepcbkaa.Fn Go.Proofs.YtahppppkepcbkaaW.PrintWords Go.Proofs.YtahppppkepcbkaaW.PrintMore Go.Proofs.Ytahppppkepcbkaa.Gua Go.Proofs.Ytahppppkepcbkaa.Clk Go.Proofs.Ytahppppkepcbkaa.Clo
theorem stays_j1 (K : Nat) (hK : 6000000 ≤ K) (a0 d r a4 a5 a6 : Int) (more less : Nat) (l0 L : List S87) (hm : more ≤ 255) (hs : less ≤ 255) (hL : L.length ≤ 24) (hp : playok a0 L = true) (hb : bnd d r) (hd : d ≤ 1073741824) (hn : farl a0 L d r = L.length) :
    tattlelaw04_ClockStays.j1 (K + 1) (more : Int) (less : Int) L false a0 l0 d r a4 a5 a6 = some true := by
  have haw : tattlelaw04_awakeT.f = some true := rfl
  obtain ⟨d0, d1, r0, r1⟩ := hb
  have hall := (near_all (a0 := a0) (l := L) (d := d) (r := r) d0).1 hn
  have hml := Nat.mod_lt less (show 0 < L.length + 1 by omega)
  obtain ⟨q0, q1, q2⟩ := rest_rng r more ⟨r0, r1⟩
  rw [tattlelaw04_ClockStays.j1, if_neg (by decide), w64_nat less (by omega), w64_succ L.length (by omega), w64_nat more (by omega), w64_id (1 + (more : Int)) (by omega) (by omega), w64_id (d + (more : Int)) (by omega) (by omega), tmod_nat, q2, w64_id (1 + r % (1 + (more : Int))) (by omega) (by omega)]
  clear q2
  rw [if_neg (by omega), if_pos (by omega), if_pos (by omega), Int.toNat_natCast]
  generalize less % (L.length + 1) = m at *
  have hlt : (L.take m).length = m := by rw [List.length_take]; omega
  have n1 : farl a0 (L.take m) d r = (L.take m).length := (near_take d0 (by omega)).2 (fun t ht => hall t (by omega))
  have n2 : farl a0 L (d + (more : Int)) r = L.length := (near_all (by omega)).2 (fun t ht => nearAt_more _ _ (by omega) (Int.le_refl _) (by omega) (hall t ht))
  rw [clock_near_eq _ _ _ _ K hK, if_pos (show playok a0 (L.take m) = true ∧ bnd d r from ⟨playok_take (by omega) hp, d0, d1, r0, r1⟩), Option.bind_some, clock_near_eq _ _ _ _ K hK, if_pos (show playok a0 L = true ∧ bnd (d + (more : Int)) r from ⟨hp, by omega, by omega, r0, r1⟩), Option.bind_some, if_neg (by omega), clock_near_eq _ _ _ _ K hK, decide_eq_true n1, decide_eq_true n2]
  generalize r % (1 + (more : Int)) = s at *
  by_cases hr : 1 + s > r
  · rw [Option.bind_some, if_pos hr]
    simp only
    rw [if_pos trivial, if_pos trivial, if_pos trivial, if_pos trivial, if_pos trivial, haw]
    rfl
  · have n3 : farl a0 L d (1 + s) = L.length := (near_all d0).2 (fun t ht => nearAt_more _ _ (by omega) (by omega) (Int.le_refl _) (hall t ht))
    rw [if_pos (show playok a0 L = true ∧ bnd d (1 + s) from ⟨hp, d0, d1, by omega, by omega⟩), Option.bind_some, if_neg hr, decide_eq_true n3]
    simp only
    rw [if_pos trivial, if_pos trivial, if_pos trivial, if_pos trivial, if_pos trivial, if_pos trivial, haw]
    rfl
theorem ClockStays : tattlelaw04_ClockStays.Pure := by
  intro a0 l0 d r a4 a5 a6 more less _ _ _ _ _ _ _ hm hs
  have haw : tattlelaw04_awakeT.f = some true := rfl
  replace hm := u8_wf hm
  replace hs := u8_wf hs
  obtain ⟨more, rfl⟩ := Int.eq_ofNat_of_zero_le hm.1
  obtain ⟨less, rfl⟩ := Int.eq_ofNat_of_zero_le hs.1
  obtain ⟨K, hK⟩ : ∃ K, 6000000 ≤ K := ⟨6000000, Nat.le_refl _⟩
  refine ⟨K + 2, ?_⟩
  have hbad : ∀ L, tattlelaw04_ClockStays.j0 (K + 2) more less L true a0 l0 d r a4 a5 a6 = some true := fun L => by
    rw [tattlelaw04_ClockStays.j0, if_pos rfl, haw]
    rfl
  unfold tattlelaw04_ClockStays.f
  rw [few_eq _ _ (by omega), Option.bind_some]
  have hlen := few_len l0
  generalize few l0 = L at *
  by_cases h1 : a0 < 1
  · rw [if_pos h1]; exact hbad _
  rw [if_neg h1]
  by_cases h2 : a0 > 4
  · rw [if_pos h2]; exact hbad _
  rw [if_neg h2]
  by_cases h3 : (L.length : Int) > 24
  · rw [if_pos h3]; exact hbad _
  rw [if_neg h3, rbound_eq, Option.bind_some]
  by_cases hb : bnd d r
  · rw [decide_eq_true hb, if_pos rfl]
    by_cases hd : d > 1073741824
    · rw [decide_eq_true hd]; exact hbad _
    · have hj : ∀ L, tattlelaw04_ClockStays.j1 (K + 1) more less L true a0 l0 d r a4 a5 a6 = some true := fun L => by
        rw [tattlelaw04_ClockStays.j1, if_pos rfl, haw]
        rfl
      rw [decide_eq_false hd, tattlelaw04_ClockStays.j0, if_neg (by decide), clock_near_eq _ _ _ _ _ (by omega), Option.bind_some]
      by_cases hp : playok a0 L = true ∧ bnd d r
      · rw [if_pos hp]
        simp only
        rw [if_pos trivial]
        by_cases hn : farl a0 L d r = L.length
        · rw [decide_eq_true hn]
          exact stays_j1 K hK a0 d r a4 a5 a6 more less l0 L (by omega) (by omega) (by omega) hp.1 hb (by omega) hn
        · rw [decide_eq_false hn]
          exact hj _
      · rw [if_neg hp]
        simp only
        rw [if_neg (by decide)]
        exact hj _
  · rw [decide_eq_false hb, if_neg (by decide)]; exact hbad _
end Go.Proofs.Ytahppppkepcbkaa.Pure
