/- timer.Check, by hand: slices.IsSortedFunc over timer.compare. -/
import Derived.Test.YtahppppkepcbkaaFnx0
import Derived.Test.YtahppppkepcbkaaFnx21
import Derived.Test.YtahppppkepcbkaaHq
namespace Go.Proofs.Ytahppppkepcbkaa.Fn
open Go.RowKit Go.Proofs.YtahppppkepcbkaaW.PrintWords Go.Proofs.YtahppppkepcbkaaW.PrintLast Go.Proofs.YtahppppkepcbkaaW.PrintMore Go.Proofs.Ytahppppkepcbkaa.Tm
set_option linter.unusedVariables false
set_option linter.unusedSimpArgs false
set_option maxRecDepth 100000
/-- In order, place by place. -/
def srtB (l : List S52) : Bool := (List.range (l.length - 1)).all fun i => !lt (Tm.g l (i + 1)) (Tm.g l i)
def okl (l : List S52) : Bool := decide (l.length ≤ 256) && srtB l
def timer_Check.f (l0 : List (S52)) : Option (Int) := some (if okl l0 = true then 0 else 1)
set_option maxHeartbeats 1000000 in
theorem sorted_any (A : Option Addr) (c : Nat) (l : List S52) (w : World) (hr : Kd.C k52 w A l.length l) (hc : l.length ≤ c) (hm : l.length ≤ 1000) :
    Calls Try.prog 57 #[.slice A l.length c, .func (.func 51) #[] #[]] w fun e w' => e = .returned (.bool (srtB l)) ∧ Below w.heap.size w w' := by
  have hu52 := Try.underlying52
  have HR := Lib.hid hr
  have hw0 : wrap64 ((l.length : Int) - 1) = (l.length : Int) - 1 := by unfold wrap64; omega
  clear hr
  go_enter Try.func57, Try.ntmps57
  go_wp2_with fail
  go_loopg [5] l.length (fun gg v5 wr => ∃ i : Int, v5 = .int .i64 i ∧ Aside0 (-1 ≤ i ∧ i < l.length) ∧ Aside0 (i ≤ gg) ∧ Aside0 (∀ j : Nat, i ≤ (j : Int) → j + 1 < l.length → lt (Tm.g l (j + 1)) (Tm.g l j) = false) ∧ Aside0 (Below w.heap.size w wr))
  case atStart => exact ⟨(l.length : Int) - 1, by first | rfl | go_num, ⟨by omega⟩, ⟨by omega⟩, ⟨fun j h1 h2 => absurd h2 (by omega)⟩, ⟨Below.refl _ w⟩⟩
  case round =>
    obtain ⟨i, rfl, a1, a2, a3, a4⟩ := hrel
    have hi1 := a1.out
    by_cases h0 : 0 < i
    · obtain ⟨k, rfl⟩ : ∃ k : Nat, i = ((k + 1 : Nat) : Int) := ⟨(i - 1).toNat, by omega⟩
      have hkl : k + 1 < l.length := by omega
      have BK := Lib.hid hkl
      obtain ⟨ad, rfl, hx0, hx1, hx2, hx3⟩ := at_T52 (Kd.C_below HR.out a4.out) ((k + 1 : Nat) : Int) (by omega) (by omega)
      obtain ⟨ad', e', hy0, hy1, hy2, hy3⟩ := at_T52 (Kd.C_below HR.out a4.out) (k : Int) (by omega) (by omega)
      cases e'
      rw [Int.toNat_natCast, rd_g] at hx0 hx1 hx2 hx3 hy0 hy1 hy2 hy3
      have hcm := compare_eq 10 (Tm.g l (k + 1)) (Tm.g l k) (Nat.le_refl _)
      have hlt : lt (Tm.g l (k + 1)) (Tm.g l k) = decide (tcmp (Tm.g l (k + 1)) (Tm.g l k) < 0) := by unfold lt; exact (decide_eq_decide.2 (tcmp_lt _ _)).symm
      have HC := Lib.hid hcm
      have HLT := Lib.hid hlt
      clear hcm hlt
      have hki : ((k + 1 : Nat) : Int) - 1 = (k : Int) := by omega
      have hw1 : wrap64 (((k + 1 : Nat) : Int) - 1) = (k : Int) := by unfold wrap64; omega
      have hw2 : wrap64 ((k : Int) + 1 - 1) = (k : Int) := by unfold wrap64; omega
      have hw3 : wrap64 (k : Int) = (k : Int) := by unfold wrap64; omega
      have hb1 : (k : Int) < (l.length : Int) := by omega
      have hb2 : k < l.length := by omega
      have hb3 : 0 ≤ (k : Int) + 1 := by omega
      have hw4 : IntKind.i64.wrap (k : Int) = (k : Int) := by rw [IntKind.wrap_i64]; omega
      have hb4 : (k : Int) + 1 < (l.length : Int) := by omega
      generalize hgx : Tm.g l (k + 1) = x at *
      generalize hgy : Tm.g l k = y at *
      have HX := Lib.hid hgx
      have HY := Lib.hid hgy
      clear hgx hgy
      obtain ⟨x0, x1, x2, x3⟩ := x
      obtain ⟨y0, y1, y2, y3⟩ := y
      generalize htc : tcmp (⟨x0, x1, x2, x3⟩ : S52) ⟨y0, y1, y2, y3⟩ = n at *
      have hdr := a4.out.drew
      have HDR := Lib.hid hdr
      clear htc hdr
      by_cases hn : n < 0
      · have hl : lt (⟨x0, x1, x2, x3⟩ : S52) ⟨y0, y1, y2, y3⟩ = true := by rw [HLT.out]; exact decide_eq_true hn
        have HF := Lib.hid (show srtB l = false by
          unfold srtB
          rw [List.all_eq_false]
          exact ⟨k, by rw [List.mem_range]; have := BK.out; omega, by rw [HX.out, HY.out, hl]; decide⟩)
        have c1 : decide (n < 0) = true := decide_eq_true hn
        clear hl
        go_wp2_with fail
        go_region_with (go_at_call 51; refine (timer_compare.calls 10 _ _ _ _ _ _ _ _ _ _ HC.out).mono ?_; rintro e w1 ⟨rfl, hb⟩; have HB := Lib.hid (HDR.out.trans (hb.mono HDR.out.size)); clear hb)
        all_goals go_wp2
        all_goals
          go_ret
          exact ⟨by rw [HF.out]; rfl, HB.out⟩
      · have hl : lt (⟨x0, x1, x2, x3⟩ : S52) ⟨y0, y1, y2, y3⟩ = false := by rw [HLT.out]; exact decide_eq_false hn
        have HL := Lib.hid hl
        have c1 : decide (n < 0) = false := decide_eq_false hn
        clear hl
        go_wp2_with fail
        go_region_with (go_at_call 51; refine (timer_compare.calls 10 _ _ _ _ _ _ _ _ _ _ HC.out).mono ?_; rintro e w1 ⟨rfl, hb⟩; have HB := Lib.hid (HDR.out.trans (hb.mono HDR.out.size)); clear hb)
        all_goals go_wp2
        all_goals
          go_roundg k
          case measure => have := a2.out; omega
          case rel =>
            refine ⟨(k : Int), by first | rfl | go_num | (simp; done), ⟨by have := BK.out; omega⟩, ⟨by omega⟩, ⟨?_⟩, ⟨HB.out⟩⟩
            intro j h1 h2
            by_cases q : j = k
            · subst q; rw [HX.out, HY.out]; exact HL.out
            · exact a3.out j (by omega) h2
    · have HF := Lib.hid (show srtB l = true by
        unfold srtB
        rw [List.all_eq_true]
        intro j hj
        rw [List.mem_range] at hj
        rw [a3.out j (by omega) (by omega)]
        rfl)
      have c1 : decide (0 < i) = false := decide_eq_false h0
      go_wp2
      all_goals
        go_ret
        exact ⟨by rw [HF.out]; rfl, a4.out⟩
set_option maxHeartbeats 400000 in
theorem timer_Check.calls (A0 : Option Addr) (c0 : Nat) (l0 : List (S52)) (r : Int) (w : World) (hr0 : Kd.C k52 w A0 l0.length l0) (hc0 : l0.length ≤ c0) (h : timer_Check.f l0 = some r) :
    Calls Try.prog 32 #[.slice A0 l0.length c0] w fun e w' => e = .returned (.int .i64 r) ∧ Below w.heap.size w w' := by
  obtain rfl := Option.some.inj h
  clear h
  have HR := Lib.hid hr0
  clear hr0
  by_cases hm : 256 < l0.length
  · have c1 : decide ((256 : Int) < (l0.length : Int)) = true := by simp; omega
    have he : (if okl l0 = true then (0 : Int) else 1) = 1 := by unfold okl; rw [decide_eq_false (by omega)]; rfl
    rw [he]
    go_enter Try.func32, Try.ntmps32
    go_wp2
    all_goals
      go_ret
      exact ⟨rfl, Below.refl _ w⟩
  · have c1 : decide ((256 : Int) < (l0.length : Int)) = false := by simp; omega
    have he : (if okl l0 = true then (0 : Int) else 1) = (if srtB l0 = true then 0 else 1) := by unfold okl; rw [decide_eq_true (by omega), Bool.true_and]
    rw [he]
    have HM := Lib.hid (show l0.length ≤ 1000 by omega)
    clear he hm
    cases hs : srtB l0 with
    | true =>
      go_enter Try.func32, Try.ntmps32
      go_wp2_with (go_at_call 57; refine (sorted_any A0 c0 l0 _ HR.out hc0 HM.out).mono ?_; rintro e w1 ⟨rfl, hb⟩; rw [hs]; have HB := Lib.hid hb; clear hb)
      all_goals
        go_ret
        exact ⟨rfl, HB.out⟩
    | false =>
      go_enter Try.func32, Try.ntmps32
      go_wp2_with (go_at_call 57; refine (sorted_any A0 c0 l0 _ HR.out hc0 HM.out).mono ?_; rintro e w1 ⟨rfl, hb⟩; rw [hs]; have HB := Lib.hid hb; clear hb)
      all_goals
        go_ret
        exact ⟨rfl, HB.out⟩
end Go.Proofs.Ytahppppkepcbkaa.Fn
