/- A heap of timers in memory: container/heap's up, Init, Push, Pop, and all, by hand. -/
import Derived.Test.YtahppppkepcbkaaFnx0
import Derived.Test.YtahppppkepcbkaaHq4
namespace Go.Proofs.Ytahppppkepcbkaa.Fn
open Go.RowKit Go.Proofs.YtahppppkepcbkaaW.PrintWords Go.Proofs.YtahppppkepcbkaaW.PrintLast Go.Proofs.YtahppppkepcbkaaW.PrintMore Go.Proofs.Ytahppppkepcbkaa.Tm
set_option linter.unusedVariables false
set_option linter.unusedSimpArgs false
set_option maxRecDepth 100000
theorem upw_stop {f : Nat} {l : List S52} : upw f 0 l = l := by
  cases f with
  | zero => rfl
  | succ f => rw [upw, if_pos rfl]
theorem upw_step {f j p : Nat} {l : List S52} (h : j ≠ 0) (hp : p = (j - 1) / 2) : upw (f + 1) j l = if lt (Tm.g l j) (Tm.g l p) = true then upw f p (swp l p j) else l := by
  subst hp
  rw [upw, if_neg h]
  rfl
set_option maxHeartbeats 1000000 in
theorem qup_any (w0 wA W : World) (bq g c m : Nat) (l : List S52) (hq : QW w0 wA W bq g (.slice (some ⟨g, 0, none⟩) m c) l) (j0 : Nat) (hm : m ≤ 300) (hj0 : j0 < m) :
    Calls Try.prog 67 #[.iface 94 (.pointer (some ⟨bq, 0, none⟩)), .int .i64 (j0 : Int)] W fun e W' => e = .returned (.tuple #[]) ∧ QW w0 wA W' bq g (.slice (some ⟨g, 0, none⟩) m c) (upw j0 j0 l) := by
  have HQ := Lib.hid hq
  clear hq
  go_enter Try.func67, Try.ntmps67
  go_wp2_with fail
  go_loopg [1] j0 (fun gg v1 wr => ∃ (j f : Nat) (l' : List S52), v1 = .int .i64 (j : Int) ∧ Aside0 (j < m) ∧ Aside0 (j ≤ gg) ∧ Aside0 (j ≤ f) ∧ Aside0 (upw f j l' = upw j0 j0 l) ∧ Aside0 (QW w0 wA wr bq g (.slice (some ⟨g, 0, none⟩) m c) l'))
  case atStart => exact ⟨j0, j0, l, rfl, ⟨hj0⟩, ⟨Nat.le_refl _⟩, ⟨Nat.le_refl _⟩, ⟨rfl⟩, ⟨HQ.out⟩⟩
  case round =>
    obtain ⟨j, f, l', rfl, a1, a2, a3, a4, a5⟩ := hrel
    have hjm := a1.out
    have hg0 : wr.cell? ⟨bq, 0, none⟩ = some (.slice (some ⟨g, 0, none⟩) m c) := (blk_cell a5.out.blk 0).trans rfl
    have hl0 := mLess wr bq _ _ _ hg0
    have hs0 := mSwap wr bq _ _ _ hg0
    clear hg0
    by_cases h0 : j = 0
    · subst h0
      have hw1 : wrap64 (((0 : Nat) : Int) - 1) = -1 := by unfold wrap64; omega
      go_wp2
      all_goals
        go_end0
        refine ⟨rfl, ?_⟩
        rw [← a4.out, upw_stop]
        exact a5.out
    · obtain ⟨f, rfl⟩ : ∃ f', f = f' + 1 := ⟨f - 1, by have := a3.out; omega⟩
      obtain ⟨p, hp⟩ : ∃ p, p = (j - 1) / 2 := ⟨_, rfl⟩
      have hdw := a4.out
      rw [upw_step h0 hp] at hdw
      have BP := Lib.hid (show p < m by omega)
      have HP := Lib.hid (show p < j by omega)
      have hd : Int.tdiv ((j : Int) - 1) 2 = (p : Int) := by
        rw [Int.tdiv_eq_ediv_of_nonneg (by omega), hp]
        omega
      have hpj : decide ((p : Int) = (j : Int)) = false := by simp; omega
      have hpj' : ((p : Int) == (j : Int)) = false := by simp; omega
      clear hp
      have hw1 : wrap64 ((j : Int) - 1) = (j : Int) - 1 := by unfold wrap64; omega
      have hw2 : wrap64 (p : Int) = (p : Int) := by unfold wrap64; have := BP.out; omega
      cases h4 : lt (Tm.g l' j) (Tm.g l' p) with
      | true =>
        rw [h4, if_pos rfl] at hdw
        have HD := Lib.hid hdw
        clear hdw
        go_wp2_with (first | (go_at_call 91; refine (qless_int w0 wA _ bq g c m l' a5.out (j : Int) (p : Int) j p rfl rfl a1.out BP.out).mono ?_; rintro e w2 ⟨rfl, hq2, hl2, hs2⟩; rw [h4]; have HQ2 := Lib.hid hq2; clear hq2) | (go_at_call 92; refine (qswap_int w0 wA _ bq g c m l' HQ2.out (p : Int) (j : Int) p j rfl rfl BP.out a1.out).mono ?_; rintro e w3 ⟨rfl, hq3, hl3, hs3⟩; have HQ3 := Lib.hid hq3; clear hq3))
        all_goals
          go_roundg p
          case measure => have := a2.out; have := HP.out; clear hw1 hw2; omega
          case rel => exact ⟨p, f, swp l' p j, rfl, ⟨BP.out⟩, ⟨Nat.le_refl _⟩, ⟨by have := a3.out; have := HP.out; clear hw1 hw2; omega⟩, ⟨HD.out⟩, ⟨HQ3.out⟩⟩
      | false =>
        rw [h4, if_neg Bool.false_ne_true] at hdw
        have HD := Lib.hid hdw
        clear hdw
        go_wp2_with (go_at_call 91; refine (qless_int w0 wA _ bq g c m l' a5.out (j : Int) (p : Int) j p rfl rfl a1.out BP.out).mono ?_; rintro e w2 ⟨rfl, hq2, hl2, hs2⟩; rw [h4]; have HQ2 := Lib.hid hq2; clear hq2)
        all_goals
          go_end0
          refine ⟨rfl, ?_⟩
          rw [← HD.out]
          exact HQ2.out
end Go.Proofs.Ytahppppkepcbkaa.Fn
