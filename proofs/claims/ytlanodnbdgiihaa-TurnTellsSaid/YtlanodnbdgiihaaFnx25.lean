-- Written by program (a turned copy of the kit's print) for this seat: functions, contracts. Lean checks it.
import Derived.Test.YtlanodnbdgiihaaFnx0
import Derived.Test.YtlanodnbdgiihaaFnx1
import Derived.Test.YtlanodnbdgiihaaFnx2
import Derived.Test.YtlanodnbdgiihaaFnx13
import Derived.Test.YtlanodnbdgiihaaFnx14
import Derived.Test.YtlanodnbdgiihaaFnx19
import Derived.Test.YtlanodnbdgiihaaFnx22
import Derived.Test.YtlanodnbdgiihaaFnx23
import Derived.Test.YtlanodnbdgiihaaFnx24
import Derived.Test.YtlanodnbdgiihaaAw30
namespace Go.Proofs.Ytlanodnbdgiihaa.Fn
open Go.RowKit Go.Proofs.YtlanodnbdgiihaaW.PrintWords Go.Proofs.YtlanodnbdgiihaaW.PrintLast Go.Proofs.YtlanodnbdgiihaaW.PrintMore
attribute [local go_sem] max2_int min2_int max_two min_two max_three min_three max_four min_four   -- for this text's walks alone
set_option linter.unusedVariables false
set_option linter.unusedSimpArgs false

attribute [local go_sem high] eqA23
/-! ### tattlelaw08_TurnTells: function 13 -/
def tattlelaw08_TurnTells.f (k : Nat) (l0_0 : List Int) (a0_1 : Int) (a1_0 : ByteArray) (a1_1 : Int) (l2 : List Int) : Option (Bool) := (tattlelaw08_Few.f l0_0).bind fun t663 => ((tattlelaw02_Few.f a1_0 a1_1).bind fun bt666 => ((tattlelaw08_Few.f l2).bind fun t668 => ((turn_Next.f k t663 a0_1 bt666.1 bt666.2 t668).bind fun bt671 => ((tattleref08_Next.f k t663 a0_1 bt666.1 bt666.2 t668).bind fun bt681 => (if bt671.1 = bt681.1 then ((tattleref08_Same.f k bt671.2.1 bt671.2.2.1 bt681.2.1 bt681.2.2.1).bind fun t691 => (if t691 = true then (if (bt671.2.2.2.1.toList == bt681.2.2.2.1.toList && (bt671.2.2.2.2.1 == bt681.2.2.2.2.1)) = true then (if bt671.2.2.2.2.2 = bt681.2.2.2.2.2 then ((turn_Check.f t663 a0_1).bind fun t692 => ((tattleref08_May.f k t663 a0_1).bind fun t693 => (if ((t692 == 0) == t693) = true then ((turn_Nodes.f k t668).bind fun t694 => ((tattleref08_Nodes.f k t668).bind fun t695 => (if ((t694 == 0) == t695) = true then ((turn_Same.f k t663 a0_1 bt671.2.1 bt671.2.2.1).bind fun t696 => ((tattleref08_Same.f k t663 a0_1 bt671.2.1 bt671.2.2.1).bind fun t697 => (if (t696 == t697) = true then ((tattlelaw08_awakeT.f).bind fun t698 => (some t698)) else (some false)))) else (some false)))) else (some false)))) else (some false)) else (some false)) else (some false))) else (some false))))))
theorem tattlelaw08_TurnTells.mono : ∀ a0 a1 a2 a3 a4 k, LeO (tattlelaw08_TurnTells.f k a0 a1 a2 a3 a4) (tattlelaw08_TurnTells.f (k + 1) a0 a1 a2 a3 a4) := by
  intro a0 a1 a2 a3 a4 k
  unfold tattlelaw08_TurnTells.f
  repeat' first
      | (with_reducible exact tattleref08_May.mono _ _ _)
      | (with_reducible exact tattleref08_Next.mono _ _ _ _ _ _)
      | (with_reducible exact tattleref08_Nodes.mono _ _)
      | (with_reducible exact tattleref08_Same.mono _ _ _ _ _)
      | (with_reducible exact turn_Next.mono _ _ _ _ _ _)
      | (with_reducible exact turn_Nodes.mono _ _)
      | (with_reducible exact turn_Same.mono _ _ _ _ _)
      | (with_reducible exact LeO.refl _)
      | (with_reducible exact LeO.none _)
      | (with_reducible refine LeO.ite ?_ ?_)
      | (with_reducible refine LeO.bind ?_ (fun _ => ?_))
      | exact tattleref08_May.mono _ _ _
      | exact tattleref08_Next.mono _ _ _ _ _ _
      | exact tattleref08_Nodes.mono _ _
      | exact tattleref08_Same.mono _ _ _ _ _
      | exact turn_Next.mono _ _ _ _ _ _
      | exact turn_Nodes.mono _ _
      | exact turn_Same.mono _ _ _ _ _
      | exact LeO.none _
      | refine LeO.ite ?_ ?_
      | refine LeO.bind ?_ (fun _ => ?_)
def tattlelaw08_TurnTells.T1 : Bool × List (List Nat × List Nat) := (true, [([], []), ([0], [0]), ([1], [1]), ([], []), ([3, 2], [3]), ([], []), ([5, 4], [5]), ([0, 1, 2], []), ([7, 2, 6, 0, 1, 2], [2, 7]), ([4, 8, 0, 1, 2, 3, 4, 7, 8], [4]), ([6, 9, 0, 1, 2, 3, 4, 5, 6, 7, 8, 9], [5, 6])])
def tattlelaw08_TurnTells.B1 : List Nat := [0, 1, 3, 0, 15, 0, 63, 7, 255, 511, 1023]
theorem tattlelaw08_TurnTells.tab1 : rtab .any (opsOf Try.f13 1) = tattlelaw08_TurnTells.T1 := by kernel_rfl
theorem tattlelaw08_TurnTells.bits1 : waitsOk tattlelaw08_TurnTells.T1.2 tattlelaw08_TurnTells.B1 = true := by kernel_rfl
def tattlelaw08_TurnTells.T4 : Bool × List (List Nat × List Nat) := (true, [([], []), ([], []), ([0, 1], [0, 1]), ([2], [2]), ([3], [3]), ([3], [3]), ([4, 5, 3, 3], [3, 4, 5]), ([3, 6], [3, 6]), ([7, 6], [7]), ([8], [8]), ([8], [8]), ([9, 10, 8], [8, 9, 10]), ([8, 11], [8, 11]), ([12, 8], [12]), ([13], [13]), ([13], [13]), ([14, 15, 13], [13, 14, 15]), ([13, 16], [13, 16]), ([17, 13], [17]), ([18], [18]), ([19, 18, 18], [18, 19]), ([20, 18], [18, 20]), ([18], [18]), ([22, 20, 18], [18, 22]), ([21, 23, 18], [18, 21, 23]), ([18, 24], [18, 24]), ([25, 23], [25]), ([26], [26]), ([27, 26, 26], [26, 27]), ([28, 26], [26, 28]), ([26], [26]), ([30, 28, 26], [26, 30]), ([29, 31, 26], [26, 29, 31]), ([26, 32], [26, 32]), ([33, 31], [33]), ([34], [34]), ([34], [34]), ([35, 36, 34, 34], [34, 35, 36]), ([34], [34]), ([34], [34]), ([38, 39, 37, 34], [34, 38, 39]), ([37, 40, 34], [34, 37, 40]), ([34, 41], [34, 41]), ([42, 40], [42]), ([43, 43], [43]), ([43, 44], [43, 44]), ([45, 44, 0, 1, 2, 3, 4, 5, 6, 7, 8, 9, 10, 11, 12, 13, 14, 15, 16, 17, 18, 19, 20, 21, 22, 23, 24, 25, 26, 27, 28, 29, 30, 31, 32, 33, 34, 35, 36, 37, 38, 39, 40, 41, 42, 43, 44, 45], [45])])
def tattlelaw08_TurnTells.B4 : List Nat := [0, 0, 3, 7, 15, 15, 63, 127, 255, 511, 511, 2047, 4095, 8191, 16383, 16383, 65535, 131071, 262143, 524287, 1048575, 2097151, 524287, 6291455, 16777215, 33554431, 67108863, 134217727, 268435455, 536870911, 134217727, 1610612735, 4294967295, 8589934591, 17179869183, 34359738367, 34359738367, 137438953471, 34359738367, 34359738367, 1099511627775, 2199023255551, 4398046511103, 8796093022207, 17592186044415, 35184372088831, 70368744177663]
theorem tattlelaw08_TurnTells.tab4 : rtab .any (opsOf Try.f13 4) = tattlelaw08_TurnTells.T4 := by kernel_rfl
theorem tattlelaw08_TurnTells.bits4 : waitsOk tattlelaw08_TurnTells.T4.2 tattlelaw08_TurnTells.B4 = true := by kernel_rfl
set_option maxHeartbeats 8000000 in
set_option maxRecDepth 100000 in
theorem tattlelaw08_TurnTells.calls (k : Nat) (A0_0 : Option Addr) (c0_0 : Nat) (l0_0 : List Int) (a0_1 : Int) (a1_0 : ByteArray) (a1_1 : Int) (A2 : Option Addr) (c2 : Nat) (l2 : List Int) (r : Bool) (w : World) (hr0_0 : Kd.C (Kd.int .i64) w A0_0 l0_0.length l0_0) (hc0_0 : l0_0.length ≤ c0_0) (hr2 : Kd.C (Kd.int .i64) w A2 l2.length l2) (hc2 : l2.length ≤ c2) (hrt : Aside0 (r = true)) (h : tattlelaw08_TurnTells.f k l0_0 a0_1 a1_0 a1_1 l2 = some r) :
    Calls Try.prog 13 #[.agg #[.slice A0_0 l0_0.length c0_0, .int .i64 a0_1], .agg #[.string a1_0, .int .i64 a1_1], .slice A2 l2.length c2] w fun e w' => e = .returned (.bool r) ∧ Below w.heap.size w w' := by
  have hu49 := Try.underlying49
  have hu23 := Try.underlying23
  have HR0_0 := Aside0.mk hr0_0
  have HC0_0 := Aside0.mk hc0_0
  clear hr0_0 hc0_0
  have HR2 := Aside0.mk hr2
  have HC2 := Aside0.mk hc2
  clear hr2 hc2
  have HB := Aside0.mk (Below.refl w.heap.size w)
  have H : ((tattlelaw08_Few.f l0_0).bind fun t663 => ((tattlelaw02_Few.f a1_0 a1_1).bind fun bt666 => ((tattlelaw08_Few.f l2).bind fun t668 => ((turn_Next.f k t663 a0_1 bt666.1 bt666.2 t668).bind fun bt671 => ((tattleref08_Next.f k t663 a0_1 bt666.1 bt666.2 t668).bind fun bt681 => (if bt671.1 = bt681.1 then ((tattleref08_Same.f k bt671.2.1 bt671.2.2.1 bt681.2.1 bt681.2.2.1).bind fun t691 => (if t691 = true then (if (bt671.2.2.2.1.toList == bt681.2.2.2.1.toList && (bt671.2.2.2.2.1 == bt681.2.2.2.2.1)) = true then (if bt671.2.2.2.2.2 = bt681.2.2.2.2.2 then ((turn_Check.f t663 a0_1).bind fun t692 => ((tattleref08_May.f k t663 a0_1).bind fun t693 => (if ((t692 == 0) == t693) = true then ((turn_Nodes.f k t668).bind fun t694 => ((tattleref08_Nodes.f k t668).bind fun t695 => (if ((t694 == 0) == t695) = true then ((turn_Same.f k t663 a0_1 bt671.2.1 bt671.2.2.1).bind fun t696 => ((tattleref08_Same.f k t663 a0_1 bt671.2.1 bt671.2.2.1).bind fun t697 => (if (t696 == t697) = true then ((tattlelaw08_awakeT.f).bind fun t698 => (some t698)) else (some false)))) else (some false)))) else (some false)))) else (some false)) else (some false)) else (some false))) else (some false))))))) = some r := h
  clear h
  replace H := Option.bind_eq_some_iff.mp H
  obtain ⟨t663, A40, H⟩ := H
  replace H : ((tattlelaw02_Few.f a1_0 a1_1).bind fun bt666 => ((tattlelaw08_Few.f l2).bind fun t668 => ((turn_Next.f k t663 a0_1 bt666.1 bt666.2 t668).bind fun bt671 => ((tattleref08_Next.f k t663 a0_1 bt666.1 bt666.2 t668).bind fun bt681 => (if bt671.1 = bt681.1 then ((tattleref08_Same.f k bt671.2.1 bt671.2.2.1 bt681.2.1 bt681.2.2.1).bind fun t691 => (if t691 = true then (if (bt671.2.2.2.1.toList == bt681.2.2.2.1.toList && (bt671.2.2.2.2.1 == bt681.2.2.2.2.1)) = true then (if bt671.2.2.2.2.2 = bt681.2.2.2.2.2 then ((turn_Check.f t663 a0_1).bind fun t692 => ((tattleref08_May.f k t663 a0_1).bind fun t693 => (if ((t692 == 0) == t693) = true then ((turn_Nodes.f k t668).bind fun t694 => ((tattleref08_Nodes.f k t668).bind fun t695 => (if ((t694 == 0) == t695) = true then ((turn_Same.f k t663 a0_1 bt671.2.1 bt671.2.2.1).bind fun t696 => ((tattleref08_Same.f k t663 a0_1 bt671.2.1 bt671.2.2.1).bind fun t697 => (if (t696 == t697) = true then ((tattlelaw08_awakeT.f).bind fun t698 => (some t698)) else (some false)))) else (some false)))) else (some false)))) else (some false)) else (some false)) else (some false))) else (some false)))))) = some r := H
  have A4 := Aside0.mk A40
  clear A40
  replace H := Option.bind_eq_some_iff.mp H
  obtain ⟨⟨t666, t667⟩, A50, H⟩ := H
  replace H : ((tattlelaw08_Few.f l2).bind fun t668 => ((turn_Next.f k t663 a0_1 t666 t667 t668).bind fun bt671 => ((tattleref08_Next.f k t663 a0_1 t666 t667 t668).bind fun bt681 => (if bt671.1 = bt681.1 then ((tattleref08_Same.f k bt671.2.1 bt671.2.2.1 bt681.2.1 bt681.2.2.1).bind fun t691 => (if t691 = true then (if (bt671.2.2.2.1.toList == bt681.2.2.2.1.toList && (bt671.2.2.2.2.1 == bt681.2.2.2.2.1)) = true then (if bt671.2.2.2.2.2 = bt681.2.2.2.2.2 then ((turn_Check.f t663 a0_1).bind fun t692 => ((tattleref08_May.f k t663 a0_1).bind fun t693 => (if ((t692 == 0) == t693) = true then ((turn_Nodes.f k t668).bind fun t694 => ((tattleref08_Nodes.f k t668).bind fun t695 => (if ((t694 == 0) == t695) = true then ((turn_Same.f k t663 a0_1 bt671.2.1 bt671.2.2.1).bind fun t696 => ((tattleref08_Same.f k t663 a0_1 bt671.2.1 bt671.2.2.1).bind fun t697 => (if (t696 == t697) = true then ((tattlelaw08_awakeT.f).bind fun t698 => (some t698)) else (some false)))) else (some false)))) else (some false)))) else (some false)) else (some false)) else (some false))) else (some false))))) = some r := H
  have A5 := Aside0.mk A50
  clear A50
  replace H := Option.bind_eq_some_iff.mp H
  obtain ⟨t668, A60, H⟩ := H
  replace H : ((turn_Next.f k t663 a0_1 t666 t667 t668).bind fun bt671 => ((tattleref08_Next.f k t663 a0_1 t666 t667 t668).bind fun bt681 => (if bt671.1 = bt681.1 then ((tattleref08_Same.f k bt671.2.1 bt671.2.2.1 bt681.2.1 bt681.2.2.1).bind fun t691 => (if t691 = true then (if (bt671.2.2.2.1.toList == bt681.2.2.2.1.toList && (bt671.2.2.2.2.1 == bt681.2.2.2.2.1)) = true then (if bt671.2.2.2.2.2 = bt681.2.2.2.2.2 then ((turn_Check.f t663 a0_1).bind fun t692 => ((tattleref08_May.f k t663 a0_1).bind fun t693 => (if ((t692 == 0) == t693) = true then ((turn_Nodes.f k t668).bind fun t694 => ((tattleref08_Nodes.f k t668).bind fun t695 => (if ((t694 == 0) == t695) = true then ((turn_Same.f k t663 a0_1 bt671.2.1 bt671.2.2.1).bind fun t696 => ((tattleref08_Same.f k t663 a0_1 bt671.2.1 bt671.2.2.1).bind fun t697 => (if (t696 == t697) = true then ((tattlelaw08_awakeT.f).bind fun t698 => (some t698)) else (some false)))) else (some false)))) else (some false)))) else (some false)) else (some false)) else (some false))) else (some false)))) = some r := H
  have A6 := Aside0.mk A60
  clear A60
  replace H := Option.bind_eq_some_iff.mp H
  obtain ⟨⟨t671, t672, t675, t676, t677, t678⟩, A70, H⟩ := H
  replace H : ((tattleref08_Next.f k t663 a0_1 t666 t667 t668).bind fun bt681 => (if t671 = bt681.1 then ((tattleref08_Same.f k t672 t675 bt681.2.1 bt681.2.2.1).bind fun t691 => (if t691 = true then (if (t676.toList == bt681.2.2.2.1.toList && (t677 == bt681.2.2.2.2.1)) = true then (if t678 = bt681.2.2.2.2.2 then ((turn_Check.f t663 a0_1).bind fun t692 => ((tattleref08_May.f k t663 a0_1).bind fun t693 => (if ((t692 == 0) == t693) = true then ((turn_Nodes.f k t668).bind fun t694 => ((tattleref08_Nodes.f k t668).bind fun t695 => (if ((t694 == 0) == t695) = true then ((turn_Same.f k t663 a0_1 t672 t675).bind fun t696 => ((tattleref08_Same.f k t663 a0_1 t672 t675).bind fun t697 => (if (t696 == t697) = true then ((tattlelaw08_awakeT.f).bind fun t698 => (some t698)) else (some false)))) else (some false)))) else (some false)))) else (some false)) else (some false)) else (some false))) else (some false))) = some r := H
  have A7 := Aside0.mk A70
  clear A70
  replace H := Option.bind_eq_some_iff.mp H
  obtain ⟨⟨t681, t682, t685, t686, t687, t688⟩, A80, H⟩ := H
  replace H : (if t671 = t681 then ((tattleref08_Same.f k t672 t675 t682 t685).bind fun t691 => (if t691 = true then (if (t676.toList == t686.toList && (t677 == t687)) = true then (if t678 = t688 then ((turn_Check.f t663 a0_1).bind fun t692 => ((tattleref08_May.f k t663 a0_1).bind fun t693 => (if ((t692 == 0) == t693) = true then ((turn_Nodes.f k t668).bind fun t694 => ((tattleref08_Nodes.f k t668).bind fun t695 => (if ((t694 == 0) == t695) = true then ((turn_Same.f k t663 a0_1 t672 t675).bind fun t696 => ((tattleref08_Same.f k t663 a0_1 t672 t675).bind fun t697 => (if (t696 == t697) = true then ((tattlelaw08_awakeT.f).bind fun t698 => (some t698)) else (some false)))) else (some false)))) else (some false)))) else (some false)) else (some false)) else (some false))) else (some false)) = some r := H
  have A8 := Aside0.mk A80
  clear A80
  by_cases c9 : t671 = t681
  · rw [if_pos c9] at H
    have c9b0 : (t671 == t681) = true := beq_iff_eq.mpr c9
    have c9b1 : (t671 != t681) = false := bne_eq_false_iff_eq.mpr c9
    clear c9
    replace H := Option.bind_eq_some_iff.mp H
    obtain ⟨t691, A100, H⟩ := H
    replace H : (if t691 = true then (if (t676.toList == t686.toList && (t677 == t687)) = true then (if t678 = t688 then ((turn_Check.f t663 a0_1).bind fun t692 => ((tattleref08_May.f k t663 a0_1).bind fun t693 => (if ((t692 == 0) == t693) = true then ((turn_Nodes.f k t668).bind fun t694 => ((tattleref08_Nodes.f k t668).bind fun t695 => (if ((t694 == 0) == t695) = true then ((turn_Same.f k t663 a0_1 t672 t675).bind fun t696 => ((tattleref08_Same.f k t663 a0_1 t672 t675).bind fun t697 => (if (t696 == t697) = true then ((tattlelaw08_awakeT.f).bind fun t698 => (some t698)) else (some false)))) else (some false)))) else (some false)))) else (some false)) else (some false)) else (some false)) = some r := H
    have A10 := Aside0.mk A100
    clear A100
    by_cases c11 : t691 = true
    · subst c11
      have H1 : (if (t676.toList == t686.toList && (t677 == t687)) = true then (if t678 = t688 then ((turn_Check.f t663 a0_1).bind fun t692 => ((tattleref08_May.f k t663 a0_1).bind fun t693 => (if ((t692 == 0) == t693) = true then ((turn_Nodes.f k t668).bind fun t694 => ((tattleref08_Nodes.f k t668).bind fun t695 => (if ((t694 == 0) == t695) = true then ((turn_Same.f k t663 a0_1 t672 t675).bind fun t696 => ((tattleref08_Same.f k t663 a0_1 t672 t675).bind fun t697 => (if (t696 == t697) = true then ((tattlelaw08_awakeT.f).bind fun t698 => (some t698)) else (some false)))) else (some false)))) else (some false)))) else (some false)) else (some false)) = some r := by rw [if_pos rfl] at H; exact H
      clear H
      have H := H1
      clear H1
      by_cases c12 : (t676.toList == t686.toList && (t677 == t687)) = true
      · rw [if_pos c12] at H
        have c12b0 : (t676.toList == t686.toList && (t677 == t687)) = true := c12
        (try (have c12b1 : decide (t676.toList = t686.toList && (t677 == t687)) = true := by simpa using c12))
        (try (have c12b2 : (t676.toList == t686.toList && (t677 == t687)) = true := by simpa using c12))
        clear c12
        by_cases c13 : t678 = t688
        · rw [if_pos c13] at H
          have c13b0 : (t678 == t688) = true := beq_iff_eq.mpr c13
          have c13b1 : (t678 != t688) = false := bne_eq_false_iff_eq.mpr c13
          clear c13
          replace H := Option.bind_eq_some_iff.mp H
          obtain ⟨t692, A140, H⟩ := H
          replace H : ((tattleref08_May.f k t663 a0_1).bind fun t693 => (if ((t692 == 0) == t693) = true then ((turn_Nodes.f k t668).bind fun t694 => ((tattleref08_Nodes.f k t668).bind fun t695 => (if ((t694 == 0) == t695) = true then ((turn_Same.f k t663 a0_1 t672 t675).bind fun t696 => ((tattleref08_Same.f k t663 a0_1 t672 t675).bind fun t697 => (if (t696 == t697) = true then ((tattlelaw08_awakeT.f).bind fun t698 => (some t698)) else (some false)))) else (some false)))) else (some false))) = some r := H
          have A14 := Aside0.mk A140
          clear A140
          replace H := Option.bind_eq_some_iff.mp H
          obtain ⟨t693, A150, H⟩ := H
          replace H : (if ((t692 == 0) == t693) = true then ((turn_Nodes.f k t668).bind fun t694 => ((tattleref08_Nodes.f k t668).bind fun t695 => (if ((t694 == 0) == t695) = true then ((turn_Same.f k t663 a0_1 t672 t675).bind fun t696 => ((tattleref08_Same.f k t663 a0_1 t672 t675).bind fun t697 => (if (t696 == t697) = true then ((tattlelaw08_awakeT.f).bind fun t698 => (some t698)) else (some false)))) else (some false)))) else (some false)) = some r := H
          have A15 := Aside0.mk A150
          clear A150
          by_cases c16 : ((t692 == 0) == t693) = true
          · rw [if_pos c16] at H
            have c16b0 : ((t692 == 0) == t693) = true := c16
            (try (have c16b1 : decide ((t692 == 0) = t693) = true := by simpa using c16))
            (try (have c16b2 : ((t692 == 0) == t693) = true := by simpa using c16))
            clear c16
            replace H := Option.bind_eq_some_iff.mp H
            obtain ⟨t694, A170, H⟩ := H
            replace H : ((tattleref08_Nodes.f k t668).bind fun t695 => (if ((t694 == 0) == t695) = true then ((turn_Same.f k t663 a0_1 t672 t675).bind fun t696 => ((tattleref08_Same.f k t663 a0_1 t672 t675).bind fun t697 => (if (t696 == t697) = true then ((tattlelaw08_awakeT.f).bind fun t698 => (some t698)) else (some false)))) else (some false))) = some r := H
            have A17 := Aside0.mk A170
            clear A170
            replace H := Option.bind_eq_some_iff.mp H
            obtain ⟨t695, A180, H⟩ := H
            replace H : (if ((t694 == 0) == t695) = true then ((turn_Same.f k t663 a0_1 t672 t675).bind fun t696 => ((tattleref08_Same.f k t663 a0_1 t672 t675).bind fun t697 => (if (t696 == t697) = true then ((tattlelaw08_awakeT.f).bind fun t698 => (some t698)) else (some false)))) else (some false)) = some r := H
            have A18 := Aside0.mk A180
            clear A180
            by_cases c19 : ((t694 == 0) == t695) = true
            · rw [if_pos c19] at H
              have c19b0 : ((t694 == 0) == t695) = true := c19
              (try (have c19b1 : decide ((t694 == 0) = t695) = true := by simpa using c19))
              (try (have c19b2 : ((t694 == 0) == t695) = true := by simpa using c19))
              clear c19
              replace H := Option.bind_eq_some_iff.mp H
              obtain ⟨t696, A200, H⟩ := H
              replace H : ((tattleref08_Same.f k t663 a0_1 t672 t675).bind fun t697 => (if (t696 == t697) = true then ((tattlelaw08_awakeT.f).bind fun t698 => (some t698)) else (some false))) = some r := H
              have A20 := Aside0.mk A200
              clear A200
              replace H := Option.bind_eq_some_iff.mp H
              obtain ⟨t697, A210, H⟩ := H
              replace H : (if (t696 == t697) = true then ((tattlelaw08_awakeT.f).bind fun t698 => (some t698)) else (some false)) = some r := H
              have A21 := Aside0.mk A210
              clear A210
              by_cases c22 : (t696 == t697) = true
              · rw [if_pos c22] at H
                have c22b0 : (t696 == t697) = true := c22
                (try (have c22b1 : decide (t696 = t697) = true := by simpa using c22))
                (try (have c22b2 : (t696 == t697) = true := by simpa using c22))
                clear c22
                replace H := Option.bind_eq_some_iff.mp H
                obtain ⟨t698, A230, H⟩ := H
                replace H : (some t698) = some r := H
                have A23 := Aside0.mk A230
                clear A230
                obtain rfl := Option.some.inj H
                go_enter Try.func13, Try.ntmps13
                try go_wp2_with (first | ((with_reducible refine gate_dst (N := 3) rfl ?_); refine box_event ?hg (N := 3) ?hd (cs := #[.slice A0_0 l0_0.length c0_0, .int .i64 a0_1]) (t := 49) ?hr ?_; (case hd => rfl); (case hg => rfl); (case hr => first | (go_simp; done) | (go_simp; rfl)); intro gb661 hg w24 hbox hb; have n0_ := Aside0.mk (below_step (by repeat (first | (with_reducible first | exact HB.out | apply below_alloc | apply pw_below_drewN | apply below_drew1) | exact HB.out)) hb); have n1_ := Aside0.mk (hbox); have n2_ := Aside0.mk ((by rw [hg]; exact (below_size (by repeat (first | (with_reducible first | exact HB.out | apply below_alloc | apply pw_below_drewN | apply below_drew1) | exact HB.out))) : w.heap.size ≤ gb661)); have n3_ := Aside0.mk ((by rw [hg]; exact (below_size (by repeat (first | (with_reducible first | exact HB.out | apply below_alloc | apply pw_below_drewN | apply below_drew1) | exact HB.out))) : w.heap.size ≤ gb661)); clear HB; have HB := n0_; have BK661 := n1_; have GW661 := n2_; have GE661 := n3_; clear n0_ n1_ n2_ n3_; clear hb hbox hg) | ((with_reducible refine gate_dst (N := 4) rfl ?_); refine box_event ?hg (N := 4) ?hd (cs := #[.string a1_0, .int .i64 a1_1]) (t := 23) ?hr ?_; (case hd => rfl); (case hg => rfl); (case hr => first | (go_simp; done) | (go_simp; rfl)); intro gb662 hg w25 hbox hb; have n0_ := Aside0.mk (blk_below (g := gb661) (o := .cells #[.slice A0_0 l0_0.length c0_0, .int .i64 a0_1] 49 (0, 0)) (by (with_reducible repeat (first | refine blk_drewN ?_ _ | refine blk_drew ?_ | refine blk_alloc ?_ _)); exact BK661.out) hb); have n1_ := Aside0.mk (below_step (by repeat (first | (with_reducible first | exact HB.out | apply below_alloc | apply pw_below_drewN | apply below_drew1 | refine below_set ?_ GE661.out) | exact HB.out)) hb); have n2_ := Aside0.mk (hbox); have n3_ := Aside0.mk ((by rw [hg]; exact (below_size (by repeat (first | (with_reducible first | exact HB.out | apply below_alloc | apply pw_below_drewN | apply below_drew1 | refine below_set ?_ GE661.out) | exact HB.out))) : w.heap.size ≤ gb662)); have n4_ := Aside0.mk ((by rw [hg]; exact (below_size (by repeat (first | (with_reducible first | exact HB.out | apply below_alloc | apply pw_below_drewN | apply below_drew1 | refine below_set ?_ GE661.out) | exact HB.out))) : w.heap.size ≤ gb662)); have n5_ := Aside0.mk ((by rw [hg]; exact Nat.ne_of_lt (blk_lt (g := gb661) (o := .cells #[.slice A0_0 l0_0.length c0_0, .int .i64 a0_1] 49 (0, 0)) (by (with_reducible repeat (first | refine blk_drewN ?_ _ | refine blk_drew ?_ | refine blk_alloc ?_ _)); exact BK661.out)) : gb661 ≠ gb662)); have n6_ := Aside0.mk ((by rw [hg]; exact Nat.ne_of_gt (blk_lt (g := gb661) (o := .cells #[.slice A0_0 l0_0.length c0_0, .int .i64 a0_1] 49 (0, 0)) (by (with_reducible repeat (first | refine blk_drewN ?_ _ | refine blk_drew ?_ | refine blk_alloc ?_ _)); exact BK661.out)) : gb662 ≠ gb661)); clear BK661; clear HB; have BK661 := n0_; have HB := n1_; have BK662 := n2_; have GW662 := n3_; have GE662 := n4_; have NB661_662 := n5_; have NB662_661 := n6_; clear n0_ n1_ n2_ n3_ n4_ n5_ n6_; clear hb hbox hg))
                have n0_ := Aside0.mk (blk_drew BK661.out)
                have n1_ := Aside0.mk (blk_drew BK662.out)
                have n2_ := Aside0.mk (below_drew1 HB.out)
                clear BK661
                clear BK662
                clear HB
                have BK661 := n0_
                have BK662 := n1_
                have HB := n2_
                clear n0_ n1_ n2_
                refine start_ (n := 11) (S := fun w' => w'.cell? ⟨gb661, 0, none⟩ = some (.slice A0_0 l0_0.length c0_0) ∧ w'.cell? ⟨gb661, 1, none⟩ = some (.int .i64 a0_1) ∧ w'.cell? ⟨gb662, 0, none⟩ = some (.string a1_0) ∧ w'.cell? ⟨gb662, 1, none⟩ = some (.int .i64 a1_1)) (ds := [8, 9]) #[false, false, false, false, false, false, false, false, false, false, false] (by kernel_rfl) rfl rfl ⟨(blk_cell BK661.out 0).trans rfl, (blk_cell BK661.out 1).trans rfl, (blk_cell BK662.out 0).trans rfl, (blk_cell BK662.out 1).trans rfl⟩ (fun hHeld => ?_); refine with_tabW tattlelaw08_TurnTells.tab1 tattlelaw08_TurnTells.bits1 (fun HT_ HW_ => ?_)
                generalize w25.drew = w26 at BK661 BK662 HB hHeld ⊢
                refine pure_ (i := 0) (N := some 15) (v := ?_) (a' := ?_) #[true, false, false, false, false, false, false, false, false, false, false] rfl rfl (any_of HT_.out (by kernel_rfl)) (fun _ _ _ h => h) (Or.inl ⟨by rfl, ?_⟩) ?_ ?_
                rotate_left
                · intro w'
                  go_simp
                  with_reducible rfl
                rotate_left
                · simp only [Act.put, List.setIfInBounds_toArray, List.set_cons_zero, List.set_cons_succ, i64_w, i32_w]
                  rfl
                refine pure_ (i := 5) (N := some 20) (v := ?_) (a' := ?_) #[true, false, false, false, false, true, false, false, false, false, false] rfl rfl (any_of HT_.out (by kernel_rfl)) (fun _ _ _ h => h) (Or.inl ⟨by rfl, ?_⟩) ?_ ?_
                rotate_left
                · intro w'
                  go_simp
                  with_reducible rfl
                rotate_left
                · simp only [Act.put, List.setIfInBounds_toArray, List.set_cons_zero, List.set_cons_succ, i64_w, i32_w]
                  rfl
                refine take_ (i := 1) (N := some 16) (v := ?_) (a' := ?_) #[true, true, false, false, false, true, false, false, false, false, false] rfl rfl (take_ofW HT_.out HW_.out (by kernel_rfl)) (fun _ _ _ h => h) (Or.inl ⟨by rfl, ?_⟩) hHeld ?_ ?_
                rotate_left
                · rintro w' ⟨s0, s1, s2, s3⟩
                  go_simp
                  with_reducible rfl
                rotate_left
                · simp only [Act.put, List.setIfInBounds_toArray, List.set_cons_zero, List.set_cons_succ, i64_w, i32_w]
                  rfl
                refine take_ (i := 3) (N := some 18) (v := ?_) (a' := ?_) #[true, true, false, true, false, true, false, false, false, false, false] rfl rfl (take_ofW HT_.out HW_.out (by kernel_rfl)) (fun _ _ _ h => h) (Or.inl ⟨by rfl, ?_⟩) hHeld ?_ ?_
                rotate_left
                · rintro w' ⟨s0, s1, s2, s3⟩
                  go_simp
                  with_reducible rfl
                rotate_left
                · simp only [Act.put, List.setIfInBounds_toArray, List.set_cons_zero, List.set_cons_succ, i64_w, i32_w]
                  rfl
                refine one_ (i := 2) (N := some 17) #[true, true, true, true, false, true, false, false, false, false, false] rfl rfl (one_of HT_.out (by kernel_rfl)) (by decide) (fun K hK => ?_)
                refine goes_ Try.func27 (by kernel_rfl) rfl #[.slice A0_0 l0_0.length c0_0] (by rfl) rfl rfl (by (try simp only [List.map_toArray, List.map_cons, List.map_nil]); first | done | rfl | (simp only [List.length_drop, List.length_take]; rfl)) ?_
                with_reducible refine (tattlelaw08_Few.calls (fun k_ => k_ < w.heap.size) _ _ l0_0 t663 _ ?side1 A4.out).mono ?_
                (case side1 => exact Kd.V_mk HC0_0.out (Kd.F_below (Kd.C_F (Kd.heap_int .i64) HR0_0.out) (by repeat (first | (with_reducible first | exact HB.out | apply below_alloc | apply pw_below_drewN | apply below_drew1 | refine below_set ?_ GE661.out | refine below_set ?_ GE662.out) | exact HB.out))))
                rintro e w27 ⟨v664, rfl, ho0, hb⟩
                refine ⟨_, rfl, ?_⟩
                have n0_ := Aside0.mk (Kd.V_lower (Kd.V_mono (ok' := fun k_ => k_ ≠ gb661 ∧ k_ ≠ gb662) ho0 (fun k_ hk_ => ⟨Or.elim hk_ (fun hs_ => fun e_ => Nat.not_le.2 hs_ (by rw [e_]; exact GW661.out)) (fun hn_ => (Kd.freshB (g := gb661) (o := .cells #[.slice A0_0 l0_0.length c0_0, .int .i64 a0_1] 49 (0, 0)) (by (with_reducible repeat (first | refine blk_drewN ?_ _ | refine blk_drew ?_ | refine blk_alloc ?_ _)); exact BK661.out) k_ hn_)), Or.elim hk_ (fun hs_ => fun e_ => Nat.not_le.2 hs_ (by rw [e_]; exact GW662.out)) (fun hn_ => (Kd.freshB (g := gb662) (o := .cells #[.string a1_0, .int .i64 a1_1] 23 (0, 0)) (by (with_reducible repeat (first | refine blk_drewN ?_ _ | refine blk_drew ?_ | refine blk_alloc ?_ _)); exact BK662.out) k_ hn_))⟩)) (below_size (by repeat (first | (with_reducible first | exact HB.out | apply below_alloc | apply pw_below_drewN | apply below_drew1 | refine below_set ?_ GE661.out | refine below_set ?_ GE662.out) | exact HB.out))))
                have n1_ := Aside0.mk (blk_below (g := gb661) (o := .cells #[.slice A0_0 l0_0.length c0_0, .int .i64 a0_1] 49 (0, 0)) (by (with_reducible repeat (first | refine blk_drewN ?_ _ | refine blk_drew ?_ | refine blk_alloc ?_ _)); exact BK661.out) hb)
                have n2_ := Aside0.mk (blk_below (g := gb662) (o := .cells #[.string a1_0, .int .i64 a1_1] 23 (0, 0)) (by (with_reducible repeat (first | refine blk_drewN ?_ _ | refine blk_drew ?_ | refine blk_alloc ?_ _)); exact BK662.out) hb)
                have n3_ := Aside0.mk (below_step (by repeat (first | (with_reducible first | exact HB.out | apply below_alloc | apply pw_below_drewN | apply below_drew1 | refine below_set ?_ GE661.out | refine below_set ?_ GE662.out) | exact HB.out)) hb)
                clear BK661
                clear BK662
                clear HB
                have HO665 := n0_
                have BK661 := n1_
                have BK662 := n2_
                have HB := n3_
                clear n0_ n1_ n2_ n3_
                (try clear hb)
                (try clear hb2)
                (try clear hk)
                (try clear hi)
                (try clear ho0)
                refine hK.out _ _ ⟨(blk_cell BK661.out 0).trans rfl, (blk_cell BK661.out 1).trans rfl, (blk_cell BK662.out 0).trans rfl, (blk_cell BK662.out 1).trans rfl⟩ (fun hHeld => ?_)
                clear hK K
                refine norm_ (a' := ?_) ?_ ?_
                rotate_left
                · show Act.put _ (some 17) _ = _
                  simp only [Act.put, List.setIfInBounds_toArray, List.set_cons_zero, List.set_cons_succ, i64_w, i32_w]
                  rfl
                refine pure_ (i := 7) (N := some 22) (v := ?_) (a' := ?_) #[true, true, true, true, false, true, false, true, false, false, false] rfl rfl (any_of HT_.out (by kernel_rfl)) (fun _ _ _ h => h) (Or.inl ⟨by rfl, ?_⟩) ?_ ?_
                rotate_left
                · intro w'
                  go_simp
                  with_reducible rfl
                rotate_left
                · simp only [Act.put, List.setIfInBounds_toArray, List.set_cons_zero, List.set_cons_succ, i64_w, i32_w]
                  rfl
                refine one_ (i := 4) (N := some 19) #[true, true, true, true, true, true, false, true, false, false, false] rfl rfl (one_of HT_.out (by kernel_rfl)) (by decide) (fun K hK => ?_)
                refine goes_ Try.func14 (by kernel_rfl) rfl #[.agg #[.string a1_0, .int .i64 a1_1]] (by rfl) rfl rfl (by (try simp only [List.map_toArray, List.map_cons, List.map_nil]); first | done | rfl | (simp only [List.length_drop, List.length_take]; rfl)) ?_
                with_reducible refine (tattlelaw02_Few.calls a1_0 a1_1 t666 t667 _ A5.out).mono ?_
                rintro e w28 ⟨rfl, hb⟩
                refine ⟨_, rfl, ?_⟩
                have n0_ := Aside0.mk (Kd.V_below (by (with_reducible repeat (first | apply Kd.V_alloc | apply Kd.V_drewN | apply Kd.V_drew)); exact HO665.out) hb)
                have n1_ := Aside0.mk (blk_below (g := gb661) (o := .cells #[.slice A0_0 l0_0.length c0_0, .int .i64 a0_1] 49 (0, 0)) (by (with_reducible repeat (first | refine blk_drewN ?_ _ | refine blk_drew ?_ | refine blk_alloc ?_ _)); exact BK661.out) hb)
                have n2_ := Aside0.mk (blk_below (g := gb662) (o := .cells #[.string a1_0, .int .i64 a1_1] 23 (0, 0)) (by (with_reducible repeat (first | refine blk_drewN ?_ _ | refine blk_drew ?_ | refine blk_alloc ?_ _)); exact BK662.out) hb)
                have n3_ := Aside0.mk (below_step (by repeat (first | (with_reducible first | exact HB.out | apply below_alloc | apply pw_below_drewN | apply below_drew1 | refine below_set ?_ GE661.out | refine below_set ?_ GE662.out) | exact HB.out)) hb)
                clear HO665
                clear BK661
                clear BK662
                clear HB
                have HO665 := n0_
                have BK661 := n1_
                have BK662 := n2_
                have HB := n3_
                clear n0_ n1_ n2_ n3_
                (try clear hb)
                (try clear hb2)
                (try clear hk)
                (try clear hi)
                refine hK.out _ _ ⟨(blk_cell BK661.out 0).trans rfl, (blk_cell BK661.out 1).trans rfl, (blk_cell BK662.out 0).trans rfl, (blk_cell BK662.out 1).trans rfl⟩ (fun hHeld => ?_)
                clear hK K
                refine norm_ (a' := ?_) ?_ ?_
                rotate_left
                · show Act.put _ (some 19) _ = _
                  simp only [Act.put, List.setIfInBounds_toArray, List.set_cons_zero, List.set_cons_succ, i64_w, i32_w]
                  rfl
                refine one_ (i := 6) (N := some 21) #[true, true, true, true, true, true, true, true, false, false, false] rfl rfl (one_of HT_.out (by kernel_rfl)) (by decide) (fun K hK => ?_)
                refine goes_ Try.func27 (by kernel_rfl) rfl #[.slice A2 l2.length c2] (by rfl) rfl rfl (by (try simp only [List.map_toArray, List.map_cons, List.map_nil]); first | done | rfl | (simp only [List.length_drop, List.length_take]; rfl)) ?_
                with_reducible refine (tattlelaw08_Few.calls (fun k_ => k_ < w.heap.size) _ _ l2 t668 _ ?side1 A6.out).mono ?_
                (case side1 => exact Kd.V_mk HC2.out (Kd.F_below (Kd.C_F (Kd.heap_int .i64) HR2.out) (by repeat (first | (with_reducible first | exact HB.out | apply below_alloc | apply pw_below_drewN | apply below_drew1 | refine below_set ?_ GE661.out | refine below_set ?_ GE662.out) | exact HB.out))))
                rintro e w29 ⟨v669, rfl, ho0, hb⟩
                refine ⟨_, rfl, ?_⟩
                have n0_ := Aside0.mk (Kd.V_below (by (with_reducible repeat (first | apply Kd.V_alloc | apply Kd.V_drewN | apply Kd.V_drew)); exact HO665.out) hb)
                have n1_ := Aside0.mk (Kd.V_lower (Kd.V_mono (ok' := fun k_ => k_ ≠ gb661 ∧ k_ ≠ gb662) ho0 (fun k_ hk_ => ⟨Or.elim hk_ (fun hs_ => fun e_ => Nat.not_le.2 hs_ (by rw [e_]; exact GW661.out)) (fun hn_ => (Kd.freshB (g := gb661) (o := .cells #[.slice A0_0 l0_0.length c0_0, .int .i64 a0_1] 49 (0, 0)) (by (with_reducible repeat (first | refine blk_drewN ?_ _ | refine blk_drew ?_ | refine blk_alloc ?_ _)); exact BK661.out) k_ hn_)), Or.elim hk_ (fun hs_ => fun e_ => Nat.not_le.2 hs_ (by rw [e_]; exact GW662.out)) (fun hn_ => (Kd.freshB (g := gb662) (o := .cells #[.string a1_0, .int .i64 a1_1] 23 (0, 0)) (by (with_reducible repeat (first | refine blk_drewN ?_ _ | refine blk_drew ?_ | refine blk_alloc ?_ _)); exact BK662.out) k_ hn_))⟩)) (below_size (by repeat (first | (with_reducible first | exact HB.out | apply below_alloc | apply pw_below_drewN | apply below_drew1 | refine below_set ?_ GE661.out | refine below_set ?_ GE662.out) | exact HB.out))))
                have n2_ := Aside0.mk (blk_below (g := gb661) (o := .cells #[.slice A0_0 l0_0.length c0_0, .int .i64 a0_1] 49 (0, 0)) (by (with_reducible repeat (first | refine blk_drewN ?_ _ | refine blk_drew ?_ | refine blk_alloc ?_ _)); exact BK661.out) hb)
                have n3_ := Aside0.mk (blk_below (g := gb662) (o := .cells #[.string a1_0, .int .i64 a1_1] 23 (0, 0)) (by (with_reducible repeat (first | refine blk_drewN ?_ _ | refine blk_drew ?_ | refine blk_alloc ?_ _)); exact BK662.out) hb)
                have n4_ := Aside0.mk (below_step (by repeat (first | (with_reducible first | exact HB.out | apply below_alloc | apply pw_below_drewN | apply below_drew1 | refine below_set ?_ GE661.out | refine below_set ?_ GE662.out) | exact HB.out)) hb)
                clear HO665
                clear BK661
                clear BK662
                clear HB
                have HO665 := n0_
                have HO670 := n1_
                have BK661 := n2_
                have BK662 := n3_
                have HB := n4_
                clear n0_ n1_ n2_ n3_ n4_
                (try clear hb)
                (try clear hb2)
                (try clear hk)
                (try clear hi)
                (try clear ho0)
                obtain ⟨Ao30, co30, eo30⟩ := Kd.V_slice HO665.out
                (first | subst eo30 | (injection eo30 with f1_ f2_ f3_; have f4_ := f1_.symm; have f5_ := f3_.symm; clear f1_ f2_ f3_; subst f4_; subst f5_))
                refine hK.out _ _ ⟨(blk_cell BK661.out 0).trans rfl, (blk_cell BK661.out 1).trans rfl, (blk_cell BK662.out 0).trans rfl, (blk_cell BK662.out 1).trans rfl⟩ (fun hHeld => ?_)
                clear hK K
                refine norm_ (a' := ?_) ?_ ?_
                rotate_left
                · show Act.put _ (some 21) _ = _
                  simp only [Act.put, List.setIfInBounds_toArray, List.set_cons_zero, List.set_cons_succ, i64_w, i32_w]
                  rfl
                refine last_ (i := 8) (N := none) #[true, true, true, true, true, true, true, true, true, false, false] rfl rfl (one_of HT_.out (by kernel_rfl)) (by decide) (fun K hK => ?_)
                have hs31 : w29.cell? ⟨gb661, 0, none⟩ = some (.slice A0_0 l0_0.length c0_0) := (blk_cell BK661.out 0).trans rfl
                have hfs31 := blk_frozen BK661.out 0
                have hns31_1 := NB662_661.out
                have hms31_1 := NB661_662.out
                refine skip_ (w1 := ?_) (by rfl) rfl ?_ ?_
                rotate_left
                · go_simp
                  rfl
                refine hK.out _ _ ?_
                clear hK K
                refine last_ (i := 9) (N := none) #[true, true, true, true, true, true, true, true, true, true, false] rfl rfl (one_of HT_.out (by kernel_rfl)) (by decide) (fun K hK => ?_)
                have hs32 : w29.cell? ⟨gb662, 0, none⟩ = some (.string a1_0) := (blk_cell BK662.out 0).trans rfl
                have hfs32 := blk_frozen BK662.out 0
                have hns32_0 := NB661_662.out
                have hms32_0 := NB662_661.out
                have hs33 : w29.cell? ⟨gb662, 1, none⟩ = some (.int .i64 a1_1) := (blk_cell BK662.out 1).trans rfl
                have hfs33 := blk_frozen BK662.out 1
                have hns33_0 := NB661_662.out
                have hms33_0 := NB662_661.out
                refine skip_ (w1 := ?_) (by rfl) rfl ?_ ?_
                rotate_left
                · go_simp
                  rfl
                refine hK.out _ _ ?_
                clear hK K
                refine pure_ (i := 10) (N := some 2) (v := ?_) (a' := ?_) #[true, true, true, true, true, true, true, true, true, true, true] rfl rfl (any_of HT_.out (by kernel_rfl)) (fun _ _ _ h => h) (Or.inl ⟨by rfl, ?_⟩) ?_ ?_
                rotate_left
                · intro w'
                  go_simp
                  with_reducible rfl
                rotate_left
                · simp only [Act.put, List.setIfInBounds_toArray, List.set_cons_zero, List.set_cons_succ, i64_w, i32_w]
                  rfl
                refine done_ (done_of HT_.out (by kernel_rfl)) ?_
                have n0_ : Aside0 (Kd.V (Kd.int .i64) 3 (((w29.setCell ⟨gb661, 0, none⟩ (.slice Ao30 t663.length co30)).setCell ⟨gb662, 0, none⟩ (.string t666)).setCell ⟨gb662, 1, none⟩ (.int .i64 t667)) w.heap.size (fun k_ => k_ ≠ gb661 ∧ k_ ≠ gb662) (.slice Ao30 t663.length co30) t663) := ⟨by (with_reducible repeat (first | apply Kd.V_alloc | apply Kd.V_drewN | apply Kd.V_drew)); exact Kd.V_mono (Kd.V_far (p := ⟨gb662, 1, none⟩) (Kd.V_far (p := ⟨gb662, 0, none⟩) (Kd.V_far (p := ⟨gb661, 0, none⟩) (Kd.V_mono (Kd.V_mono HO665.out (fun k_ hk => (⟨hk, hk.1⟩ : _ ∧ k_ ≠ gb661))) (fun k_ hk => (⟨hk, hk.1.2⟩ : _ ∧ k_ ≠ gb662))) (fun _ hk => hk.1.2) (.slice Ao30 t663.length co30)) (fun _ hk => hk.2) (.string t666)) (fun _ hk => hk.2) (.int .i64 t667)) (fun _ hk => ⟨hk.1.1.1, hk.1.1.2⟩)⟩
                have n1_ : Aside0 (Kd.V (Kd.int .i64) 3 (((w29.setCell ⟨gb661, 0, none⟩ (.slice Ao30 t663.length co30)).setCell ⟨gb662, 0, none⟩ (.string t666)).setCell ⟨gb662, 1, none⟩ (.int .i64 t667)) w.heap.size (fun k_ => k_ ≠ gb661 ∧ k_ ≠ gb662) v669 t668) := ⟨by (with_reducible repeat (first | apply Kd.V_alloc | apply Kd.V_drewN | apply Kd.V_drew)); exact Kd.V_mono (Kd.V_far (p := ⟨gb662, 1, none⟩) (Kd.V_far (p := ⟨gb662, 0, none⟩) (Kd.V_far (p := ⟨gb661, 0, none⟩) (Kd.V_mono (Kd.V_mono HO670.out (fun k_ hk => (⟨hk, hk.1⟩ : _ ∧ k_ ≠ gb661))) (fun k_ hk => (⟨hk, hk.1.2⟩ : _ ∧ k_ ≠ gb662))) (fun _ hk => hk.1.2) (.slice Ao30 t663.length co30)) (fun _ hk => hk.2) (.string t666)) (fun _ hk => hk.2) (.int .i64 t667)) (fun _ hk => ⟨hk.1.1.1, hk.1.1.2⟩)⟩
                have n2_ : Aside0 ((((w29.setCell ⟨gb661, 0, none⟩ (.slice Ao30 t663.length co30)).setCell ⟨gb662, 0, none⟩ (.string t666)).setCell ⟨gb662, 1, none⟩ (.int .i64 t667)).heap[gb661]? = some (.cells #[.slice Ao30 t663.length co30, .int .i64 a0_1] 49 (0, 0))) := ⟨by (with_reducible repeat (first | refine blk_drewN ?_ _ | refine blk_drew ?_ | refine blk_alloc ?_ _)); refine blk_far ?_ NB661_662.out _; (with_reducible repeat (first | refine blk_drewN ?_ _ | refine blk_drew ?_ | refine blk_alloc ?_ _)); refine blk_far ?_ NB661_662.out _; (with_reducible repeat (first | refine blk_drewN ?_ _ | refine blk_drew ?_ | refine blk_alloc ?_ _)); refine blk_put (cs := #[.slice A0_0 l0_0.length c0_0, .int .i64 a0_1]) ?_ 0 _ rfl; (with_reducible repeat (first | refine blk_drewN ?_ _ | refine blk_drew ?_ | refine blk_alloc ?_ _)); exact BK661.out⟩
                have n3_ : Aside0 ((((w29.setCell ⟨gb661, 0, none⟩ (.slice Ao30 t663.length co30)).setCell ⟨gb662, 0, none⟩ (.string t666)).setCell ⟨gb662, 1, none⟩ (.int .i64 t667)).heap[gb662]? = some (.cells #[.string t666, .int .i64 t667] 23 (0, 0))) := ⟨by (with_reducible repeat (first | refine blk_drewN ?_ _ | refine blk_drew ?_ | refine blk_alloc ?_ _)); refine blk_put (cs := #[.string t666, .int .i64 a1_1]) ?_ 1 _ rfl; (with_reducible repeat (first | refine blk_drewN ?_ _ | refine blk_drew ?_ | refine blk_alloc ?_ _)); refine blk_put (cs := #[.string a1_0, .int .i64 a1_1]) ?_ 0 _ rfl; (with_reducible repeat (first | refine blk_drewN ?_ _ | refine blk_drew ?_ | refine blk_alloc ?_ _)); refine blk_far ?_ NB662_661.out _; (with_reducible repeat (first | refine blk_drewN ?_ _ | refine blk_drew ?_ | refine blk_alloc ?_ _)); exact BK662.out⟩
                have n4_ : Aside0 (Below w.heap.size w (((w29.setCell ⟨gb661, 0, none⟩ (.slice Ao30 t663.length co30)).setCell ⟨gb662, 0, none⟩ (.string t666)).setCell ⟨gb662, 1, none⟩ (.int .i64 t667))) := ⟨by repeat (first | (with_reducible first | exact HB.out | apply below_alloc | apply pw_below_drewN | apply below_drew1 | refine below_set ?_ GE661.out | refine below_set ?_ GE662.out) | exact HB.out)⟩
                (try clear HO665)
                (try clear HO670)
                (try clear BK661)
                (try clear BK662)
                (try clear HB)
                generalize (((w29.setCell ⟨gb661, 0, none⟩ (.slice Ao30 t663.length co30)).setCell ⟨gb662, 0, none⟩ (.string t666)).setCell ⟨gb662, 1, none⟩ (.int .i64 t667)) = w34 at n0_ n1_ n2_ n3_ n4_ ⊢
                have HO665 := n0_
                have HO670 := n1_
                have BK661 := n2_
                have BK662 := n3_
                have HB := n4_
                clear n0_ n1_ n2_ n3_ n4_
                have hnb35 := NB661_662.out
                have hnc35 := NB662_661.out
                have hcz36_0 : w34.cell? ⟨gb661, 0, none⟩ = some (.slice Ao30 t663.length co30) := (blk_cell BK661.out 0).trans rfl
                have hcz36_1 : w34.cell? ⟨gb661, 1, none⟩ = some (.int .i64 a0_1) := (blk_cell BK661.out 1).trans rfl
                have hfz36_0 := blk_frozen BK661.out 0
                have hfz36_1 := blk_frozen BK661.out 1
                have hcz37_0 : w34.cell? ⟨gb662, 0, none⟩ = some (.string t666) := (blk_cell BK662.out 0).trans rfl
                have hcz37_1 : w34.cell? ⟨gb662, 1, none⟩ = some (.int .i64 t667) := (blk_cell BK662.out 1).trans rfl
                have hfz37_0 := blk_frozen BK662.out 0
                have hfz37_1 := blk_frozen BK662.out 1
                obtain ⟨Ao38, co38, eo38⟩ := Kd.V_slice HO670.out
                subst eo38
                try go_wp2_with (first | ((with_reducible refine gate_callee (f := 31) rfl ?_); refine goesL_ (some 27) rfl rfl Try.func31 (by kernel_rfl) rfl #[.agg #[.slice Ao30 t663.length co30, .int .i64 a0_1], .agg #[.string t666, .int .i64 t667], .slice Ao38 t668.length co38] rfl (by (try simp only [List.map_toArray, List.map_cons, List.map_nil]); first | done | rfl | (simp only [List.length_drop, List.length_take]; rfl)) ?_; (with_reducible refine (turn_Next.calls k (fun k_ => (k_ ≠ gb661 ∧ k_ ≠ gb662)) _ _ t663 a0_1 t666 t667 _ _ t668 t671 t672 t675 t676 t677 t678 _ ?side1 ?side2 ?side3 A7.out).mono ?_); (case side1 => exact HO665.out); (case side2 => repeat (first | exact (Kd.V_reads' HO670.out).2.2 | (with_reducible refine Kd.C_alloc ?_ _) | (with_reducible refine Kd.C_drewN ?_ _) | (with_reducible refine Kd.C_drew ?_))); (case side3 => exact (Kd.V_reads' HO670.out).2.1); rintro e w39 ⟨v673, rfl, ho0, hb⟩; refine ⟨_, rfl, ?_⟩; have n0_ := Aside0.mk (Kd.V_below (by (with_reducible repeat (first | apply Kd.V_alloc | apply Kd.V_drewN | apply Kd.V_drew)); exact HO665.out) hb); have n1_ := Aside0.mk (Kd.V_below (by (with_reducible repeat (first | apply Kd.V_alloc | apply Kd.V_drewN | apply Kd.V_drew)); exact HO670.out) hb); have n2_ := Aside0.mk (Kd.V_lower (Kd.V_mono (ok' := fun k_ => k_ ≠ gb661 ∧ k_ ≠ gb662) ho0 (fun k_ hk_ => ⟨Or.elim hk_ (fun hs_ => hs_.1) (fun hn_ => (Kd.freshB (g := gb661) (o := .cells #[.slice Ao30 t663.length co30, .int .i64 a0_1] 49 (0, 0)) (by (with_reducible repeat (first | refine blk_drewN ?_ _ | refine blk_drew ?_ | refine blk_alloc ?_ _)); exact BK661.out) k_ hn_)), Or.elim hk_ (fun hs_ => hs_.2) (fun hn_ => (Kd.freshB (g := gb662) (o := .cells #[.string t666, .int .i64 t667] 23 (0, 0)) (by (with_reducible repeat (first | refine blk_drewN ?_ _ | refine blk_drew ?_ | refine blk_alloc ?_ _)); exact BK662.out) k_ hn_))⟩)) (below_size (by repeat (first | (with_reducible first | exact HB.out | apply below_alloc | apply pw_below_drewN | apply below_drew1 | refine below_set ?_ GE661.out | refine below_set ?_ GE662.out) | exact HB.out)))); have n3_ := Aside0.mk (blk_below (g := gb661) (o := .cells #[.slice Ao30 t663.length co30, .int .i64 a0_1] 49 (0, 0)) (by (with_reducible repeat (first | refine blk_drewN ?_ _ | refine blk_drew ?_ | refine blk_alloc ?_ _)); exact BK661.out) hb); have n4_ := Aside0.mk (blk_below (g := gb662) (o := .cells #[.string t666, .int .i64 t667] 23 (0, 0)) (by (with_reducible repeat (first | refine blk_drewN ?_ _ | refine blk_drew ?_ | refine blk_alloc ?_ _)); exact BK662.out) hb); have n5_ := Aside0.mk (below_step (by repeat (first | (with_reducible first | exact HB.out | apply below_alloc | apply pw_below_drewN | apply below_drew1 | refine below_set ?_ GE661.out | refine below_set ?_ GE662.out) | exact HB.out)) hb); clear HO665; clear HO670; clear BK661; clear BK662; clear HB; have HO665 := n0_; have HO670 := n1_; have HO674 := n2_; have BK661 := n3_; have BK662 := n4_; have HB := n5_; clear n0_ n1_ n2_ n3_ n4_ n5_; (try clear hb); (try clear hb2); (try clear hk); (try clear hi); (try clear ho0)) | ((with_reducible refine gate_dst (N := 8) rfl ?_); refine box_event ?hg (N := 8) ?hd (cs := #[.slice none 0 0, .int .i64 0]) (t := 49) ?hr ?_; (case hd => rfl); (case hg => rfl); (case hr => first | (go_simp; done) | (go_simp; rfl)); intro gb679 hg w40 hbox hb; have n0_ := Aside0.mk (Kd.V_below (Kd.V_elderB (by (with_reducible repeat (first | apply Kd.V_alloc | apply Kd.V_drewN | apply Kd.V_drew)); exact HO665.out) gb679 (Nat.le_of_eq hg.symm)) hb); have n1_ := Aside0.mk (Kd.V_below (Kd.V_elderB (by (with_reducible repeat (first | apply Kd.V_alloc | apply Kd.V_drewN | apply Kd.V_drew)); exact HO670.out) gb679 (Nat.le_of_eq hg.symm)) hb); have n2_ := Aside0.mk (Kd.V_below (Kd.V_elderB (by (with_reducible repeat (first | apply Kd.V_alloc | apply Kd.V_drewN | apply Kd.V_drew)); exact HO674.out) gb679 (Nat.le_of_eq hg.symm)) hb); have n3_ := Aside0.mk (blk_below (g := gb661) (o := .cells #[.slice Ao30 t663.length co30, .int .i64 a0_1] 49 (0, 0)) (by (with_reducible repeat (first | refine blk_drewN ?_ _ | refine blk_drew ?_ | refine blk_alloc ?_ _)); exact BK661.out) hb); have n4_ := Aside0.mk (blk_below (g := gb662) (o := .cells #[.string t666, .int .i64 t667] 23 (0, 0)) (by (with_reducible repeat (first | refine blk_drewN ?_ _ | refine blk_drew ?_ | refine blk_alloc ?_ _)); exact BK662.out) hb); have n5_ := Aside0.mk (below_step (by repeat (first | (with_reducible first | exact HB.out | apply below_alloc | apply pw_below_drewN | apply below_drew1 | refine below_set ?_ GE661.out | refine below_set ?_ GE662.out) | exact HB.out)) hb); have n6_ := Aside0.mk (hbox); have n7_ := Aside0.mk ((by rw [hg]; exact (below_size (by repeat (first | (with_reducible first | exact HB.out | apply below_alloc | apply pw_below_drewN | apply below_drew1 | refine below_set ?_ GE661.out | refine below_set ?_ GE662.out) | exact HB.out))) : w.heap.size ≤ gb679)); have n8_ := Aside0.mk ((by rw [hg]; exact (below_size (by repeat (first | (with_reducible first | exact HB.out | apply below_alloc | apply pw_below_drewN | apply below_drew1 | refine below_set ?_ GE661.out | refine below_set ?_ GE662.out) | exact HB.out))) : w.heap.size ≤ gb679)); have n9_ := Aside0.mk ((by rw [hg]; exact Nat.ne_of_lt (blk_lt (g := gb661) (o := .cells #[.slice Ao30 t663.length co30, .int .i64 a0_1] 49 (0, 0)) (by (with_reducible repeat (first | refine blk_drewN ?_ _ | refine blk_drew ?_ | refine blk_alloc ?_ _)); exact BK661.out)) : gb661 ≠ gb679)); have n10_ := Aside0.mk ((by rw [hg]; exact Nat.ne_of_gt (blk_lt (g := gb661) (o := .cells #[.slice Ao30 t663.length co30, .int .i64 a0_1] 49 (0, 0)) (by (with_reducible repeat (first | refine blk_drewN ?_ _ | refine blk_drew ?_ | refine blk_alloc ?_ _)); exact BK661.out)) : gb679 ≠ gb661)); have n11_ := Aside0.mk ((by rw [hg]; exact Nat.ne_of_lt (blk_lt (g := gb662) (o := .cells #[.string t666, .int .i64 t667] 23 (0, 0)) (by (with_reducible repeat (first | refine blk_drewN ?_ _ | refine blk_drew ?_ | refine blk_alloc ?_ _)); exact BK662.out)) : gb662 ≠ gb679)); have n12_ := Aside0.mk ((by rw [hg]; exact Nat.ne_of_gt (blk_lt (g := gb662) (o := .cells #[.string t666, .int .i64 t667] 23 (0, 0)) (by (with_reducible repeat (first | refine blk_drewN ?_ _ | refine blk_drew ?_ | refine blk_alloc ?_ _)); exact BK662.out)) : gb679 ≠ gb662)); clear HO665; clear HO670; clear HO674; clear BK661; clear BK662; clear HB; have HO665 := n0_; have HO670 := n1_; have HO674 := n2_; have BK661 := n3_; have BK662 := n4_; have HB := n5_; have BK679 := n6_; have GW679 := n7_; have GE679 := n8_; have NB661_679 := n9_; have NB679_661 := n10_; have NB662_679 := n11_; have NB679_662 := n12_; clear n0_ n1_ n2_ n3_ n4_ n5_ n6_ n7_ n8_ n9_ n10_ n11_ n12_; clear hb hbox hg) | ((with_reducible refine gate_dst (N := 9) rfl ?_); refine box_event ?hg (N := 9) ?hd (cs := #[.string (⟨#[]⟩ : ByteArray), .int .i64 0]) (t := 23) ?hr ?_; (case hd => rfl); (case hg => rfl); (case hr => first | (go_simp; done) | (go_simp; rfl)); intro gb680 hg w41 hbox hb; have n0_ := Aside0.mk (Kd.V_below (Kd.V_elderB (by (with_reducible repeat (first | apply Kd.V_alloc | apply Kd.V_drewN | apply Kd.V_drew)); exact HO665.out) gb680 (Nat.le_of_eq hg.symm)) hb); have n1_ := Aside0.mk (Kd.V_below (Kd.V_elderB (by (with_reducible repeat (first | apply Kd.V_alloc | apply Kd.V_drewN | apply Kd.V_drew)); exact HO670.out) gb680 (Nat.le_of_eq hg.symm)) hb); have n2_ := Aside0.mk (Kd.V_below (Kd.V_elderB (by (with_reducible repeat (first | apply Kd.V_alloc | apply Kd.V_drewN | apply Kd.V_drew)); exact HO674.out) gb680 (Nat.le_of_eq hg.symm)) hb); have n3_ := Aside0.mk (blk_below (g := gb661) (o := .cells #[.slice Ao30 t663.length co30, .int .i64 a0_1] 49 (0, 0)) (by (with_reducible repeat (first | refine blk_drewN ?_ _ | refine blk_drew ?_ | refine blk_alloc ?_ _)); exact BK661.out) hb); have n4_ := Aside0.mk (blk_below (g := gb662) (o := .cells #[.string t666, .int .i64 t667] 23 (0, 0)) (by (with_reducible repeat (first | refine blk_drewN ?_ _ | refine blk_drew ?_ | refine blk_alloc ?_ _)); exact BK662.out) hb); have n5_ := Aside0.mk (blk_below (g := gb679) (o := .cells #[.slice none 0 0, .int .i64 0] 49 (0, 0)) (by (with_reducible repeat (first | refine blk_drewN ?_ _ | refine blk_drew ?_ | refine blk_alloc ?_ _)); exact BK679.out) hb); have n6_ := Aside0.mk (below_step (by repeat (first | (with_reducible first | exact HB.out | apply below_alloc | apply pw_below_drewN | apply below_drew1 | refine below_set ?_ GE661.out | refine below_set ?_ GE662.out | refine below_set ?_ GE679.out) | exact HB.out)) hb); have n7_ := Aside0.mk (hbox); have n8_ := Aside0.mk ((by rw [hg]; exact (below_size (by repeat (first | (with_reducible first | exact HB.out | apply below_alloc | apply pw_below_drewN | apply below_drew1 | refine below_set ?_ GE661.out | refine below_set ?_ GE662.out | refine below_set ?_ GE679.out) | exact HB.out))) : w.heap.size ≤ gb680)); have n9_ := Aside0.mk ((by rw [hg]; exact (below_size (by repeat (first | (with_reducible first | exact HB.out | apply below_alloc | apply pw_below_drewN | apply below_drew1 | refine below_set ?_ GE661.out | refine below_set ?_ GE662.out | refine below_set ?_ GE679.out) | exact HB.out))) : w.heap.size ≤ gb680)); have n10_ := Aside0.mk ((by rw [hg]; exact Nat.ne_of_lt (blk_lt (g := gb661) (o := .cells #[.slice Ao30 t663.length co30, .int .i64 a0_1] 49 (0, 0)) (by (with_reducible repeat (first | refine blk_drewN ?_ _ | refine blk_drew ?_ | refine blk_alloc ?_ _)); exact BK661.out)) : gb661 ≠ gb680)); have n11_ := Aside0.mk ((by rw [hg]; exact Nat.ne_of_gt (blk_lt (g := gb661) (o := .cells #[.slice Ao30 t663.length co30, .int .i64 a0_1] 49 (0, 0)) (by (with_reducible repeat (first | refine blk_drewN ?_ _ | refine blk_drew ?_ | refine blk_alloc ?_ _)); exact BK661.out)) : gb680 ≠ gb661)); have n12_ := Aside0.mk ((by rw [hg]; exact Nat.ne_of_lt (blk_lt (g := gb662) (o := .cells #[.string t666, .int .i64 t667] 23 (0, 0)) (by (with_reducible repeat (first | refine blk_drewN ?_ _ | refine blk_drew ?_ | refine blk_alloc ?_ _)); exact BK662.out)) : gb662 ≠ gb680)); have n13_ := Aside0.mk ((by rw [hg]; exact Nat.ne_of_gt (blk_lt (g := gb662) (o := .cells #[.string t666, .int .i64 t667] 23 (0, 0)) (by (with_reducible repeat (first | refine blk_drewN ?_ _ | refine blk_drew ?_ | refine blk_alloc ?_ _)); exact BK662.out)) : gb680 ≠ gb662)); have n14_ := Aside0.mk ((by rw [hg]; exact Nat.ne_of_lt (blk_lt (g := gb679) (o := .cells #[.slice none 0 0, .int .i64 0] 49 (0, 0)) (by (with_reducible repeat (first | refine blk_drewN ?_ _ | refine blk_drew ?_ | refine blk_alloc ?_ _)); exact BK679.out)) : gb679 ≠ gb680)); have n15_ := Aside0.mk ((by rw [hg]; exact Nat.ne_of_gt (blk_lt (g := gb679) (o := .cells #[.slice none 0 0, .int .i64 0] 49 (0, 0)) (by (with_reducible repeat (first | refine blk_drewN ?_ _ | refine blk_drew ?_ | refine blk_alloc ?_ _)); exact BK679.out)) : gb680 ≠ gb679)); clear HO665; clear HO670; clear HO674; clear BK661; clear BK662; clear BK679; clear HB; have HO665 := n0_; have HO670 := n1_; have HO674 := n2_; have BK661 := n3_; have BK662 := n4_; have BK679 := n5_; have HB := n6_; have BK680 := n7_; have GW680 := n8_; have GE680 := n9_; have NB661_680 := n10_; have NB680_661 := n11_; have NB662_680 := n12_; have NB680_662 := n13_; have NB679_680 := n14_; have NB680_679 := n15_; clear n0_ n1_ n2_ n3_ n4_ n5_ n6_ n7_ n8_ n9_ n10_ n11_ n12_ n13_ n14_ n15_; clear hb hbox hg; obtain ⟨Ao42, co42, eo42⟩ := Kd.V_slice HO674.out; subst eo42; have hnb43 := NB679_661.out; have hnc43 := NB661_679.out; have hnb44 := NB679_662.out; have hnc44 := NB662_679.out; have hnb45 := NB679_680.out; have hnc45 := NB680_679.out; have hcz46_0 : w41.cell? ⟨gb679, 0, none⟩ = some (.slice none 0 0) := (blk_cell BK679.out 0).trans rfl; have hcz46_1 : w41.cell? ⟨gb679, 1, none⟩ = some (.int .i64 0) := (blk_cell BK679.out 1).trans rfl; have hfz46_0 := blk_frozen BK679.out 0; have hfz46_1 := blk_frozen BK679.out 1) | ((with_reducible refine gate_store (t := 49) (p := 8) rfl ?_); refine store_event (t := 49) (p := 8) (v := ?vo_w47) (w1 := ((w41.setCell ⟨gb679, 0, none⟩ (.slice Ao42 t672.length co42)).setCell ⟨gb679, 1, none⟩ (.int .i64 t675))) ?hg ?ho ?hn ?hr ?_; (case ho => rfl); (case hg => rfl); (case hn => rfl); (case hr => first | (go_simp; done) | (go_simp; rfl)); intro w47 hw; have n0_ : Aside0 (Kd.V (Kd.int .i64) 3 w47 w.heap.size (fun k_ => k_ ≠ gb661 ∧ k_ ≠ gb662 ∧ k_ ≠ gb679 ∧ k_ ≠ gb680) (.slice Ao30 t663.length co30) t663) := ⟨(by rw [hw]; exact (by (with_reducible repeat (first | apply Kd.V_alloc | apply Kd.V_drewN | apply Kd.V_drew)); exact Kd.V_mono (Kd.V_far (p := ⟨gb679, 1, none⟩) (Kd.V_far (p := ⟨gb679, 0, none⟩) (Kd.V_mono HO665.out (fun k_ hk => (⟨hk, hk.1.2⟩ : _ ∧ k_ ≠ gb679))) (fun _ hk => hk.2) (.slice Ao42 t672.length co42)) (fun _ hk => hk.2) (.int .i64 t675)) (fun _ hk => ⟨hk.1.1.1.1, ⟨hk.1.1.1.2, ⟨hk.1.1.2, hk.1.2⟩⟩⟩)))⟩; have n1_ : Aside0 (Kd.V (Kd.int .i64) 3 w47 w.heap.size (fun k_ => k_ ≠ gb661 ∧ k_ ≠ gb662 ∧ k_ ≠ gb679 ∧ k_ ≠ gb680) (.slice Ao38 t668.length co38) t668) := ⟨(by rw [hw]; exact (by (with_reducible repeat (first | apply Kd.V_alloc | apply Kd.V_drewN | apply Kd.V_drew)); exact Kd.V_mono (Kd.V_far (p := ⟨gb679, 1, none⟩) (Kd.V_far (p := ⟨gb679, 0, none⟩) (Kd.V_mono HO670.out (fun k_ hk => (⟨hk, hk.1.2⟩ : _ ∧ k_ ≠ gb679))) (fun _ hk => hk.2) (.slice Ao42 t672.length co42)) (fun _ hk => hk.2) (.int .i64 t675)) (fun _ hk => ⟨hk.1.1.1.1, ⟨hk.1.1.1.2, ⟨hk.1.1.2, hk.1.2⟩⟩⟩)))⟩; have n2_ : Aside0 (Kd.V (Kd.int .i64) 3 w47 w.heap.size (fun k_ => k_ ≠ gb661 ∧ k_ ≠ gb662 ∧ k_ ≠ gb679 ∧ k_ ≠ gb680) (.slice Ao42 t672.length co42) t672) := ⟨(by rw [hw]; exact (by (with_reducible repeat (first | apply Kd.V_alloc | apply Kd.V_drewN | apply Kd.V_drew)); exact Kd.V_mono (Kd.V_far (p := ⟨gb679, 1, none⟩) (Kd.V_far (p := ⟨gb679, 0, none⟩) (Kd.V_mono HO674.out (fun k_ hk => (⟨hk, hk.1.2⟩ : _ ∧ k_ ≠ gb679))) (fun _ hk => hk.2) (.slice Ao42 t672.length co42)) (fun _ hk => hk.2) (.int .i64 t675)) (fun _ hk => ⟨hk.1.1.1.1, ⟨hk.1.1.1.2, ⟨hk.1.1.2, hk.1.2⟩⟩⟩)))⟩; have n3_ : Aside0 (w47.heap[gb661]? = some (.cells #[.slice Ao30 t663.length co30, .int .i64 a0_1] 49 (0, 0))) := ⟨(by rw [hw]; exact (by (with_reducible repeat (first | refine blk_drewN ?_ _ | refine blk_drew ?_ | refine blk_alloc ?_ _)); refine blk_far ?_ NB661_679.out _; (with_reducible repeat (first | refine blk_drewN ?_ _ | refine blk_drew ?_ | refine blk_alloc ?_ _)); refine blk_far ?_ NB661_679.out _; (with_reducible repeat (first | refine blk_drewN ?_ _ | refine blk_drew ?_ | refine blk_alloc ?_ _)); exact BK661.out))⟩; have n4_ : Aside0 (w47.heap[gb662]? = some (.cells #[.string t666, .int .i64 t667] 23 (0, 0))) := ⟨(by rw [hw]; exact (by (with_reducible repeat (first | refine blk_drewN ?_ _ | refine blk_drew ?_ | refine blk_alloc ?_ _)); refine blk_far ?_ NB662_679.out _; (with_reducible repeat (first | refine blk_drewN ?_ _ | refine blk_drew ?_ | refine blk_alloc ?_ _)); refine blk_far ?_ NB662_679.out _; (with_reducible repeat (first | refine blk_drewN ?_ _ | refine blk_drew ?_ | refine blk_alloc ?_ _)); exact BK662.out))⟩; have n5_ : Aside0 (w47.heap[gb679]? = some (.cells #[.slice Ao42 t672.length co42, .int .i64 t675] 49 (0, 0))) := ⟨(by rw [hw]; exact (by (with_reducible repeat (first | refine blk_drewN ?_ _ | refine blk_drew ?_ | refine blk_alloc ?_ _)); refine blk_put (cs := #[.slice Ao42 t672.length co42, .int .i64 0]) ?_ 1 _ rfl; (with_reducible repeat (first | refine blk_drewN ?_ _ | refine blk_drew ?_ | refine blk_alloc ?_ _)); refine blk_put (cs := #[.slice none 0 0, .int .i64 0]) ?_ 0 _ rfl; (with_reducible repeat (first | refine blk_drewN ?_ _ | refine blk_drew ?_ | refine blk_alloc ?_ _)); exact BK679.out))⟩; have n6_ : Aside0 (w47.heap[gb680]? = some (.cells #[.string (⟨#[]⟩ : ByteArray), .int .i64 0] 23 (0, 0))) := ⟨(by rw [hw]; exact (by (with_reducible repeat (first | refine blk_drewN ?_ _ | refine blk_drew ?_ | refine blk_alloc ?_ _)); refine blk_far ?_ NB680_679.out _; (with_reducible repeat (first | refine blk_drewN ?_ _ | refine blk_drew ?_ | refine blk_alloc ?_ _)); refine blk_far ?_ NB680_679.out _; (with_reducible repeat (first | refine blk_drewN ?_ _ | refine blk_drew ?_ | refine blk_alloc ?_ _)); exact BK680.out))⟩; have n7_ : Aside0 (Below w.heap.size w w47) := ⟨(by rw [hw]; exact (by repeat (first | (with_reducible first | exact HB.out | apply below_alloc | apply pw_below_drewN | apply below_drew1 | refine below_set ?_ GE661.out | refine below_set ?_ GE662.out | refine below_set ?_ GE679.out | refine below_set ?_ GE680.out) | exact HB.out)))⟩; clear hw; clear HO665; clear HO670; clear HO674; clear BK661; clear BK662; clear BK679; clear BK680; clear HB; have HO665 := n0_; have HO670 := n1_; have HO674 := n2_; have BK661 := n3_; have BK662 := n4_; have BK679 := n5_; have BK680 := n6_; have HB := n7_; clear n0_ n1_ n2_ n3_ n4_ n5_ n6_ n7_; have hnb48 := NB680_661.out; have hnc48 := NB661_680.out; have hnb49 := NB680_662.out; have hnc49 := NB662_680.out; have hcz50_0 : w47.cell? ⟨gb680, 0, none⟩ = some (.string (⟨#[]⟩ : ByteArray)) := (blk_cell BK680.out 0).trans rfl; have hcz50_1 : w47.cell? ⟨gb680, 1, none⟩ = some (.int .i64 0) := (blk_cell BK680.out 1).trans rfl; have hfz50_0 := blk_frozen BK680.out 0; have hfz50_1 := blk_frozen BK680.out 1) | ((with_reducible refine gate_store (t := 23) (p := 9) rfl ?_); refine store_event (t := 23) (p := 9) (v := ?vo_w51) (w1 := ((w47.setCell ⟨gb680, 0, none⟩ (.string t676)).setCell ⟨gb680, 1, none⟩ (.int .i64 t677))) ?hg ?ho ?hn ?hr ?_; (case ho => rfl); (case hg => rfl); (case hn => rfl); (case hr => first | (go_simp; done) | (go_simp; rfl)); intro w51 hw; have n0_ : Aside0 (Kd.V (Kd.int .i64) 3 w51 w.heap.size (fun k_ => k_ ≠ gb661 ∧ k_ ≠ gb662 ∧ k_ ≠ gb679 ∧ k_ ≠ gb680) (.slice Ao30 t663.length co30) t663) := ⟨(by rw [hw]; exact (by (with_reducible repeat (first | apply Kd.V_alloc | apply Kd.V_drewN | apply Kd.V_drew)); exact Kd.V_mono (Kd.V_far (p := ⟨gb680, 1, none⟩) (Kd.V_far (p := ⟨gb680, 0, none⟩) (Kd.V_mono HO665.out (fun k_ hk => (⟨hk, hk.2.2.2⟩ : _ ∧ k_ ≠ gb680))) (fun _ hk => hk.2) (.string t676)) (fun _ hk => hk.2) (.int .i64 t677)) (fun _ hk => ⟨hk.1.1, ⟨hk.1.2.1, ⟨hk.1.2.2.1, hk.1.2.2.2⟩⟩⟩)))⟩; have n1_ : Aside0 (Kd.V (Kd.int .i64) 3 w51 w.heap.size (fun k_ => k_ ≠ gb661 ∧ k_ ≠ gb662 ∧ k_ ≠ gb679 ∧ k_ ≠ gb680) (.slice Ao38 t668.length co38) t668) := ⟨(by rw [hw]; exact (by (with_reducible repeat (first | apply Kd.V_alloc | apply Kd.V_drewN | apply Kd.V_drew)); exact Kd.V_mono (Kd.V_far (p := ⟨gb680, 1, none⟩) (Kd.V_far (p := ⟨gb680, 0, none⟩) (Kd.V_mono HO670.out (fun k_ hk => (⟨hk, hk.2.2.2⟩ : _ ∧ k_ ≠ gb680))) (fun _ hk => hk.2) (.string t676)) (fun _ hk => hk.2) (.int .i64 t677)) (fun _ hk => ⟨hk.1.1, ⟨hk.1.2.1, ⟨hk.1.2.2.1, hk.1.2.2.2⟩⟩⟩)))⟩; have n2_ : Aside0 (Kd.V (Kd.int .i64) 3 w51 w.heap.size (fun k_ => k_ ≠ gb661 ∧ k_ ≠ gb662 ∧ k_ ≠ gb679 ∧ k_ ≠ gb680) (.slice Ao42 t672.length co42) t672) := ⟨(by rw [hw]; exact (by (with_reducible repeat (first | apply Kd.V_alloc | apply Kd.V_drewN | apply Kd.V_drew)); exact Kd.V_mono (Kd.V_far (p := ⟨gb680, 1, none⟩) (Kd.V_far (p := ⟨gb680, 0, none⟩) (Kd.V_mono HO674.out (fun k_ hk => (⟨hk, hk.2.2.2⟩ : _ ∧ k_ ≠ gb680))) (fun _ hk => hk.2) (.string t676)) (fun _ hk => hk.2) (.int .i64 t677)) (fun _ hk => ⟨hk.1.1, ⟨hk.1.2.1, ⟨hk.1.2.2.1, hk.1.2.2.2⟩⟩⟩)))⟩; have n3_ : Aside0 (w51.heap[gb661]? = some (.cells #[.slice Ao30 t663.length co30, .int .i64 a0_1] 49 (0, 0))) := ⟨(by rw [hw]; exact (by (with_reducible repeat (first | refine blk_drewN ?_ _ | refine blk_drew ?_ | refine blk_alloc ?_ _)); refine blk_far ?_ NB661_680.out _; (with_reducible repeat (first | refine blk_drewN ?_ _ | refine blk_drew ?_ | refine blk_alloc ?_ _)); refine blk_far ?_ NB661_680.out _; (with_reducible repeat (first | refine blk_drewN ?_ _ | refine blk_drew ?_ | refine blk_alloc ?_ _)); exact BK661.out))⟩; have n4_ : Aside0 (w51.heap[gb662]? = some (.cells #[.string t666, .int .i64 t667] 23 (0, 0))) := ⟨(by rw [hw]; exact (by (with_reducible repeat (first | refine blk_drewN ?_ _ | refine blk_drew ?_ | refine blk_alloc ?_ _)); refine blk_far ?_ NB662_680.out _; (with_reducible repeat (first | refine blk_drewN ?_ _ | refine blk_drew ?_ | refine blk_alloc ?_ _)); refine blk_far ?_ NB662_680.out _; (with_reducible repeat (first | refine blk_drewN ?_ _ | refine blk_drew ?_ | refine blk_alloc ?_ _)); exact BK662.out))⟩; have n5_ : Aside0 (w51.heap[gb679]? = some (.cells #[.slice Ao42 t672.length co42, .int .i64 t675] 49 (0, 0))) := ⟨(by rw [hw]; exact (by (with_reducible repeat (first | refine blk_drewN ?_ _ | refine blk_drew ?_ | refine blk_alloc ?_ _)); refine blk_far ?_ NB679_680.out _; (with_reducible repeat (first | refine blk_drewN ?_ _ | refine blk_drew ?_ | refine blk_alloc ?_ _)); refine blk_far ?_ NB679_680.out _; (with_reducible repeat (first | refine blk_drewN ?_ _ | refine blk_drew ?_ | refine blk_alloc ?_ _)); exact BK679.out))⟩; have n6_ : Aside0 (w51.heap[gb680]? = some (.cells #[.string t676, .int .i64 t677] 23 (0, 0))) := ⟨(by rw [hw]; exact (by (with_reducible repeat (first | refine blk_drewN ?_ _ | refine blk_drew ?_ | refine blk_alloc ?_ _)); refine blk_put (cs := #[.string t676, .int .i64 0]) ?_ 1 _ rfl; (with_reducible repeat (first | refine blk_drewN ?_ _ | refine blk_drew ?_ | refine blk_alloc ?_ _)); refine blk_put (cs := #[.string (⟨#[]⟩ : ByteArray), .int .i64 0]) ?_ 0 _ rfl; (with_reducible repeat (first | refine blk_drewN ?_ _ | refine blk_drew ?_ | refine blk_alloc ?_ _)); exact BK680.out))⟩; have n7_ : Aside0 (Below w.heap.size w w51) := ⟨(by rw [hw]; exact (by repeat (first | (with_reducible first | exact HB.out | apply below_alloc | apply pw_below_drewN | apply below_drew1 | refine below_set ?_ GE661.out | refine below_set ?_ GE662.out | refine below_set ?_ GE679.out | refine below_set ?_ GE680.out) | exact HB.out)))⟩; clear hw; clear HO665; clear HO670; clear HO674; clear BK661; clear BK662; clear BK679; clear BK680; clear HB; have HO665 := n0_; have HO670 := n1_; have HO674 := n2_; have BK661 := n3_; have BK662 := n4_; have BK679 := n5_; have BK680 := n6_; have HB := n7_; clear n0_ n1_ n2_ n3_ n4_ n5_ n6_ n7_; have hcz52_0 : w51.cell? ⟨gb661, 0, none⟩ = some (.slice Ao30 t663.length co30) := (blk_cell BK661.out 0).trans rfl; have hcz52_1 : w51.cell? ⟨gb661, 1, none⟩ = some (.int .i64 a0_1) := (blk_cell BK661.out 1).trans rfl; have hfz52_0 := blk_frozen BK661.out 0; have hfz52_1 := blk_frozen BK661.out 1; have hcz53_0 : w51.cell? ⟨gb662, 0, none⟩ = some (.string t666) := (blk_cell BK662.out 0).trans rfl; have hcz53_1 : w51.cell? ⟨gb662, 1, none⟩ = some (.int .i64 t667) := (blk_cell BK662.out 1).trans rfl; have hfz53_0 := blk_frozen BK662.out 0; have hfz53_1 := blk_frozen BK662.out 1) | ((with_reducible refine gate_callee (f := 33) rfl ?_); refine goesL_ (some 36) rfl rfl Try.func33 (by kernel_rfl) rfl #[.agg #[.slice Ao30 t663.length co30, .int .i64 a0_1], .agg #[.string t666, .int .i64 t667], .slice Ao38 t668.length co38] rfl (by (try simp only [List.map_toArray, List.map_cons, List.map_nil]); first | done | rfl | (simp only [List.length_drop, List.length_take]; rfl)) ?_; (with_reducible refine (tattleref08_Next.calls k (fun k_ => (k_ ≠ gb661 ∧ (k_ ≠ gb662 ∧ (k_ ≠ gb679 ∧ k_ ≠ gb680)))) _ _ t663 a0_1 t666 t667 _ _ t668 t681 t682 t685 t686 t687 t688 _ ?side1 ?side2 ?side3 A8.out).mono ?_); (case side1 => exact HO665.out); (case side2 => repeat (first | exact (Kd.V_reads' HO670.out).2.2 | (with_reducible refine Kd.C_alloc ?_ _) | (with_reducible refine Kd.C_drewN ?_ _) | (with_reducible refine Kd.C_drew ?_))); (case side3 => exact (Kd.V_reads' HO670.out).2.1); rintro e w54 ⟨v683, rfl, ho0, hb⟩; refine ⟨_, rfl, ?_⟩; have n0_ := Aside0.mk (Kd.V_below (by (with_reducible repeat (first | apply Kd.V_alloc | apply Kd.V_drewN | apply Kd.V_drew)); exact HO665.out) hb); have n1_ := Aside0.mk (Kd.V_below (by (with_reducible repeat (first | apply Kd.V_alloc | apply Kd.V_drewN | apply Kd.V_drew)); exact HO670.out) hb); have n2_ := Aside0.mk (Kd.V_below (by (with_reducible repeat (first | apply Kd.V_alloc | apply Kd.V_drewN | apply Kd.V_drew)); exact HO674.out) hb); have n3_ := Aside0.mk (Kd.V_lower (Kd.V_mono (ok' := fun k_ => k_ ≠ gb661 ∧ k_ ≠ gb662 ∧ k_ ≠ gb679 ∧ k_ ≠ gb680) ho0 (fun k_ hk_ => ⟨Or.elim hk_ (fun hs_ => hs_.1) (fun hn_ => (Kd.freshB (g := gb661) (o := .cells #[.slice Ao30 t663.length co30, .int .i64 a0_1] 49 (0, 0)) (by (with_reducible repeat (first | refine blk_drewN ?_ _ | refine blk_drew ?_ | refine blk_alloc ?_ _)); exact BK661.out) k_ hn_)), Or.elim hk_ (fun hs_ => hs_.2.1) (fun hn_ => (Kd.freshB (g := gb662) (o := .cells #[.string t666, .int .i64 t667] 23 (0, 0)) (by (with_reducible repeat (first | refine blk_drewN ?_ _ | refine blk_drew ?_ | refine blk_alloc ?_ _)); exact BK662.out) k_ hn_)), Or.elim hk_ (fun hs_ => hs_.2.2.1) (fun hn_ => (Kd.freshB (g := gb679) (o := .cells #[.slice Ao42 t672.length co42, .int .i64 t675] 49 (0, 0)) (by (with_reducible repeat (first | refine blk_drewN ?_ _ | refine blk_drew ?_ | refine blk_alloc ?_ _)); exact BK679.out) k_ hn_)), Or.elim hk_ (fun hs_ => hs_.2.2.2) (fun hn_ => (Kd.freshB (g := gb680) (o := .cells #[.string t676, .int .i64 t677] 23 (0, 0)) (by (with_reducible repeat (first | refine blk_drewN ?_ _ | refine blk_drew ?_ | refine blk_alloc ?_ _)); exact BK680.out) k_ hn_))⟩)) (below_size (by repeat (first | (with_reducible first | exact HB.out | apply below_alloc | apply pw_below_drewN | apply below_drew1 | refine below_set ?_ GE661.out | refine below_set ?_ GE662.out | refine below_set ?_ GE679.out | refine below_set ?_ GE680.out) | exact HB.out)))); have n4_ := Aside0.mk (blk_below (g := gb661) (o := .cells #[.slice Ao30 t663.length co30, .int .i64 a0_1] 49 (0, 0)) (by (with_reducible repeat (first | refine blk_drewN ?_ _ | refine blk_drew ?_ | refine blk_alloc ?_ _)); exact BK661.out) hb); have n5_ := Aside0.mk (blk_below (g := gb662) (o := .cells #[.string t666, .int .i64 t667] 23 (0, 0)) (by (with_reducible repeat (first | refine blk_drewN ?_ _ | refine blk_drew ?_ | refine blk_alloc ?_ _)); exact BK662.out) hb); have n6_ := Aside0.mk (blk_below (g := gb679) (o := .cells #[.slice Ao42 t672.length co42, .int .i64 t675] 49 (0, 0)) (by (with_reducible repeat (first | refine blk_drewN ?_ _ | refine blk_drew ?_ | refine blk_alloc ?_ _)); exact BK679.out) hb); have n7_ := Aside0.mk (blk_below (g := gb680) (o := .cells #[.string t676, .int .i64 t677] 23 (0, 0)) (by (with_reducible repeat (first | refine blk_drewN ?_ _ | refine blk_drew ?_ | refine blk_alloc ?_ _)); exact BK680.out) hb); have n8_ := Aside0.mk (below_step (by repeat (first | (with_reducible first | exact HB.out | apply below_alloc | apply pw_below_drewN | apply below_drew1 | refine below_set ?_ GE661.out | refine below_set ?_ GE662.out | refine below_set ?_ GE679.out | refine below_set ?_ GE680.out) | exact HB.out)) hb); clear HO665; clear HO670; clear HO674; clear BK661; clear BK662; clear BK679; clear BK680; clear HB; have HO665 := n0_; have HO670 := n1_; have HO674 := n2_; have HO684 := n3_; have BK661 := n4_; have BK662 := n5_; have BK679 := n6_; have BK680 := n7_; have HB := n8_; clear n0_ n1_ n2_ n3_ n4_ n5_ n6_ n7_ n8_; (try clear hb); (try clear hb2); (try clear hk); (try clear hi); (try clear ho0)) | ((with_reducible refine gate_dst (N := 12) rfl ?_); refine box_event ?hg (N := 12) ?hd (cs := #[.slice none 0 0, .int .i64 0]) (t := 49) ?hr ?_; (case hd => rfl); (case hg => rfl); (case hr => first | (go_simp; done) | (go_simp; rfl)); intro gb689 hg w55 hbox hb; have n0_ := Aside0.mk (Kd.V_below (Kd.V_elderB (by (with_reducible repeat (first | apply Kd.V_alloc | apply Kd.V_drewN | apply Kd.V_drew)); exact HO665.out) gb689 (Nat.le_of_eq hg.symm)) hb); have n1_ := Aside0.mk (Kd.V_below (Kd.V_elderB (by (with_reducible repeat (first | apply Kd.V_alloc | apply Kd.V_drewN | apply Kd.V_drew)); exact HO670.out) gb689 (Nat.le_of_eq hg.symm)) hb); have n2_ := Aside0.mk (Kd.V_below (Kd.V_elderB (by (with_reducible repeat (first | apply Kd.V_alloc | apply Kd.V_drewN | apply Kd.V_drew)); exact HO674.out) gb689 (Nat.le_of_eq hg.symm)) hb); have n3_ := Aside0.mk (Kd.V_below (Kd.V_elderB (by (with_reducible repeat (first | apply Kd.V_alloc | apply Kd.V_drewN | apply Kd.V_drew)); exact HO684.out) gb689 (Nat.le_of_eq hg.symm)) hb); have n4_ := Aside0.mk (blk_below (g := gb661) (o := .cells #[.slice Ao30 t663.length co30, .int .i64 a0_1] 49 (0, 0)) (by (with_reducible repeat (first | refine blk_drewN ?_ _ | refine blk_drew ?_ | refine blk_alloc ?_ _)); exact BK661.out) hb); have n5_ := Aside0.mk (blk_below (g := gb662) (o := .cells #[.string t666, .int .i64 t667] 23 (0, 0)) (by (with_reducible repeat (first | refine blk_drewN ?_ _ | refine blk_drew ?_ | refine blk_alloc ?_ _)); exact BK662.out) hb); have n6_ := Aside0.mk (blk_below (g := gb679) (o := .cells #[.slice Ao42 t672.length co42, .int .i64 t675] 49 (0, 0)) (by (with_reducible repeat (first | refine blk_drewN ?_ _ | refine blk_drew ?_ | refine blk_alloc ?_ _)); exact BK679.out) hb); have n7_ := Aside0.mk (blk_below (g := gb680) (o := .cells #[.string t676, .int .i64 t677] 23 (0, 0)) (by (with_reducible repeat (first | refine blk_drewN ?_ _ | refine blk_drew ?_ | refine blk_alloc ?_ _)); exact BK680.out) hb); have n8_ := Aside0.mk (below_step (by repeat (first | (with_reducible first | exact HB.out | apply below_alloc | apply pw_below_drewN | apply below_drew1 | refine below_set ?_ GE661.out | refine below_set ?_ GE662.out | refine below_set ?_ GE679.out | refine below_set ?_ GE680.out) | exact HB.out)) hb); have n9_ := Aside0.mk (hbox); have n10_ := Aside0.mk ((by rw [hg]; exact (below_size (by repeat (first | (with_reducible first | exact HB.out | apply below_alloc | apply pw_below_drewN | apply below_drew1 | refine below_set ?_ GE661.out | refine below_set ?_ GE662.out | refine below_set ?_ GE679.out | refine below_set ?_ GE680.out) | exact HB.out))) : w.heap.size ≤ gb689)); have n11_ := Aside0.mk ((by rw [hg]; exact (below_size (by repeat (first | (with_reducible first | exact HB.out | apply below_alloc | apply pw_below_drewN | apply below_drew1 | refine below_set ?_ GE661.out | refine below_set ?_ GE662.out | refine below_set ?_ GE679.out | refine below_set ?_ GE680.out) | exact HB.out))) : w.heap.size ≤ gb689)); have n12_ := Aside0.mk ((by rw [hg]; exact Nat.ne_of_lt (blk_lt (g := gb661) (o := .cells #[.slice Ao30 t663.length co30, .int .i64 a0_1] 49 (0, 0)) (by (with_reducible repeat (first | refine blk_drewN ?_ _ | refine blk_drew ?_ | refine blk_alloc ?_ _)); exact BK661.out)) : gb661 ≠ gb689)); have n13_ := Aside0.mk ((by rw [hg]; exact Nat.ne_of_gt (blk_lt (g := gb661) (o := .cells #[.slice Ao30 t663.length co30, .int .i64 a0_1] 49 (0, 0)) (by (with_reducible repeat (first | refine blk_drewN ?_ _ | refine blk_drew ?_ | refine blk_alloc ?_ _)); exact BK661.out)) : gb689 ≠ gb661)); have n14_ := Aside0.mk ((by rw [hg]; exact Nat.ne_of_lt (blk_lt (g := gb662) (o := .cells #[.string t666, .int .i64 t667] 23 (0, 0)) (by (with_reducible repeat (first | refine blk_drewN ?_ _ | refine blk_drew ?_ | refine blk_alloc ?_ _)); exact BK662.out)) : gb662 ≠ gb689)); have n15_ := Aside0.mk ((by rw [hg]; exact Nat.ne_of_gt (blk_lt (g := gb662) (o := .cells #[.string t666, .int .i64 t667] 23 (0, 0)) (by (with_reducible repeat (first | refine blk_drewN ?_ _ | refine blk_drew ?_ | refine blk_alloc ?_ _)); exact BK662.out)) : gb689 ≠ gb662)); have n16_ := Aside0.mk ((by rw [hg]; exact Nat.ne_of_lt (blk_lt (g := gb679) (o := .cells #[.slice Ao42 t672.length co42, .int .i64 t675] 49 (0, 0)) (by (with_reducible repeat (first | refine blk_drewN ?_ _ | refine blk_drew ?_ | refine blk_alloc ?_ _)); exact BK679.out)) : gb679 ≠ gb689)); have n17_ := Aside0.mk ((by rw [hg]; exact Nat.ne_of_gt (blk_lt (g := gb679) (o := .cells #[.slice Ao42 t672.length co42, .int .i64 t675] 49 (0, 0)) (by (with_reducible repeat (first | refine blk_drewN ?_ _ | refine blk_drew ?_ | refine blk_alloc ?_ _)); exact BK679.out)) : gb689 ≠ gb679)); have n18_ := Aside0.mk ((by rw [hg]; exact Nat.ne_of_lt (blk_lt (g := gb680) (o := .cells #[.string t676, .int .i64 t677] 23 (0, 0)) (by (with_reducible repeat (first | refine blk_drewN ?_ _ | refine blk_drew ?_ | refine blk_alloc ?_ _)); exact BK680.out)) : gb680 ≠ gb689)); have n19_ := Aside0.mk ((by rw [hg]; exact Nat.ne_of_gt (blk_lt (g := gb680) (o := .cells #[.string t676, .int .i64 t677] 23 (0, 0)) (by (with_reducible repeat (first | refine blk_drewN ?_ _ | refine blk_drew ?_ | refine blk_alloc ?_ _)); exact BK680.out)) : gb689 ≠ gb680)); clear HO665; clear HO670; clear HO674; clear HO684; clear BK661; clear BK662; clear BK679; clear BK680; clear HB; have HO665 := n0_; have HO670 := n1_; have HO674 := n2_; have HO684 := n3_; have BK661 := n4_; have BK662 := n5_; have BK679 := n6_; have BK680 := n7_; have HB := n8_; have BK689 := n9_; have GW689 := n10_; have GE689 := n11_; have NB661_689 := n12_; have NB689_661 := n13_; have NB662_689 := n14_; have NB689_662 := n15_; have NB679_689 := n16_; have NB689_679 := n17_; have NB680_689 := n18_; have NB689_680 := n19_; clear n0_ n1_ n2_ n3_ n4_ n5_ n6_ n7_ n8_ n9_ n10_ n11_ n12_ n13_ n14_ n15_ n16_ n17_ n18_ n19_; clear hb hbox hg) | ((with_reducible refine gate_dst (N := 13) rfl ?_); refine box_event ?hg (N := 13) ?hd (cs := #[.string (⟨#[]⟩ : ByteArray), .int .i64 0]) (t := 23) ?hr ?_; (case hd => rfl); (case hg => rfl); (case hr => first | (go_simp; done) | (go_simp; rfl)); intro gb690 hg w56 hbox hb; have n0_ := Aside0.mk (Kd.V_below (Kd.V_elderB (by (with_reducible repeat (first | apply Kd.V_alloc | apply Kd.V_drewN | apply Kd.V_drew)); exact HO665.out) gb690 (Nat.le_of_eq hg.symm)) hb); have n1_ := Aside0.mk (Kd.V_below (Kd.V_elderB (by (with_reducible repeat (first | apply Kd.V_alloc | apply Kd.V_drewN | apply Kd.V_drew)); exact HO670.out) gb690 (Nat.le_of_eq hg.symm)) hb); have n2_ := Aside0.mk (Kd.V_below (Kd.V_elderB (by (with_reducible repeat (first | apply Kd.V_alloc | apply Kd.V_drewN | apply Kd.V_drew)); exact HO674.out) gb690 (Nat.le_of_eq hg.symm)) hb); have n3_ := Aside0.mk (Kd.V_below (Kd.V_elderB (by (with_reducible repeat (first | apply Kd.V_alloc | apply Kd.V_drewN | apply Kd.V_drew)); exact HO684.out) gb690 (Nat.le_of_eq hg.symm)) hb); have n4_ := Aside0.mk (blk_below (g := gb661) (o := .cells #[.slice Ao30 t663.length co30, .int .i64 a0_1] 49 (0, 0)) (by (with_reducible repeat (first | refine blk_drewN ?_ _ | refine blk_drew ?_ | refine blk_alloc ?_ _)); exact BK661.out) hb); have n5_ := Aside0.mk (blk_below (g := gb662) (o := .cells #[.string t666, .int .i64 t667] 23 (0, 0)) (by (with_reducible repeat (first | refine blk_drewN ?_ _ | refine blk_drew ?_ | refine blk_alloc ?_ _)); exact BK662.out) hb); have n6_ := Aside0.mk (blk_below (g := gb679) (o := .cells #[.slice Ao42 t672.length co42, .int .i64 t675] 49 (0, 0)) (by (with_reducible repeat (first | refine blk_drewN ?_ _ | refine blk_drew ?_ | refine blk_alloc ?_ _)); exact BK679.out) hb); have n7_ := Aside0.mk (blk_below (g := gb680) (o := .cells #[.string t676, .int .i64 t677] 23 (0, 0)) (by (with_reducible repeat (first | refine blk_drewN ?_ _ | refine blk_drew ?_ | refine blk_alloc ?_ _)); exact BK680.out) hb); have n8_ := Aside0.mk (blk_below (g := gb689) (o := .cells #[.slice none 0 0, .int .i64 0] 49 (0, 0)) (by (with_reducible repeat (first | refine blk_drewN ?_ _ | refine blk_drew ?_ | refine blk_alloc ?_ _)); exact BK689.out) hb); have n9_ := Aside0.mk (below_step (by repeat (first | (with_reducible first | exact HB.out | apply below_alloc | apply pw_below_drewN | apply below_drew1 | refine below_set ?_ GE661.out | refine below_set ?_ GE662.out | refine below_set ?_ GE679.out | refine below_set ?_ GE680.out | refine below_set ?_ GE689.out) | exact HB.out)) hb); have n10_ := Aside0.mk (hbox); have n11_ := Aside0.mk ((by rw [hg]; exact (below_size (by repeat (first | (with_reducible first | exact HB.out | apply below_alloc | apply pw_below_drewN | apply below_drew1 | refine below_set ?_ GE661.out | refine below_set ?_ GE662.out | refine below_set ?_ GE679.out | refine below_set ?_ GE680.out | refine below_set ?_ GE689.out) | exact HB.out))) : w.heap.size ≤ gb690)); have n12_ := Aside0.mk ((by rw [hg]; exact (below_size (by repeat (first | (with_reducible first | exact HB.out | apply below_alloc | apply pw_below_drewN | apply below_drew1 | refine below_set ?_ GE661.out | refine below_set ?_ GE662.out | refine below_set ?_ GE679.out | refine below_set ?_ GE680.out | refine below_set ?_ GE689.out) | exact HB.out))) : w.heap.size ≤ gb690)); have n13_ := Aside0.mk ((by rw [hg]; exact Nat.ne_of_lt (blk_lt (g := gb661) (o := .cells #[.slice Ao30 t663.length co30, .int .i64 a0_1] 49 (0, 0)) (by (with_reducible repeat (first | refine blk_drewN ?_ _ | refine blk_drew ?_ | refine blk_alloc ?_ _)); exact BK661.out)) : gb661 ≠ gb690)); have n14_ := Aside0.mk ((by rw [hg]; exact Nat.ne_of_gt (blk_lt (g := gb661) (o := .cells #[.slice Ao30 t663.length co30, .int .i64 a0_1] 49 (0, 0)) (by (with_reducible repeat (first | refine blk_drewN ?_ _ | refine blk_drew ?_ | refine blk_alloc ?_ _)); exact BK661.out)) : gb690 ≠ gb661)); have n15_ := Aside0.mk ((by rw [hg]; exact Nat.ne_of_lt (blk_lt (g := gb662) (o := .cells #[.string t666, .int .i64 t667] 23 (0, 0)) (by (with_reducible repeat (first | refine blk_drewN ?_ _ | refine blk_drew ?_ | refine blk_alloc ?_ _)); exact BK662.out)) : gb662 ≠ gb690)); have n16_ := Aside0.mk ((by rw [hg]; exact Nat.ne_of_gt (blk_lt (g := gb662) (o := .cells #[.string t666, .int .i64 t667] 23 (0, 0)) (by (with_reducible repeat (first | refine blk_drewN ?_ _ | refine blk_drew ?_ | refine blk_alloc ?_ _)); exact BK662.out)) : gb690 ≠ gb662)); have n17_ := Aside0.mk ((by rw [hg]; exact Nat.ne_of_lt (blk_lt (g := gb679) (o := .cells #[.slice Ao42 t672.length co42, .int .i64 t675] 49 (0, 0)) (by (with_reducible repeat (first | refine blk_drewN ?_ _ | refine blk_drew ?_ | refine blk_alloc ?_ _)); exact BK679.out)) : gb679 ≠ gb690)); have n18_ := Aside0.mk ((by rw [hg]; exact Nat.ne_of_gt (blk_lt (g := gb679) (o := .cells #[.slice Ao42 t672.length co42, .int .i64 t675] 49 (0, 0)) (by (with_reducible repeat (first | refine blk_drewN ?_ _ | refine blk_drew ?_ | refine blk_alloc ?_ _)); exact BK679.out)) : gb690 ≠ gb679)); have n19_ := Aside0.mk ((by rw [hg]; exact Nat.ne_of_lt (blk_lt (g := gb680) (o := .cells #[.string t676, .int .i64 t677] 23 (0, 0)) (by (with_reducible repeat (first | refine blk_drewN ?_ _ | refine blk_drew ?_ | refine blk_alloc ?_ _)); exact BK680.out)) : gb680 ≠ gb690)); have n20_ := Aside0.mk ((by rw [hg]; exact Nat.ne_of_gt (blk_lt (g := gb680) (o := .cells #[.string t676, .int .i64 t677] 23 (0, 0)) (by (with_reducible repeat (first | refine blk_drewN ?_ _ | refine blk_drew ?_ | refine blk_alloc ?_ _)); exact BK680.out)) : gb690 ≠ gb680)); have n21_ := Aside0.mk ((by rw [hg]; exact Nat.ne_of_lt (blk_lt (g := gb689) (o := .cells #[.slice none 0 0, .int .i64 0] 49 (0, 0)) (by (with_reducible repeat (first | refine blk_drewN ?_ _ | refine blk_drew ?_ | refine blk_alloc ?_ _)); exact BK689.out)) : gb689 ≠ gb690)); have n22_ := Aside0.mk ((by rw [hg]; exact Nat.ne_of_gt (blk_lt (g := gb689) (o := .cells #[.slice none 0 0, .int .i64 0] 49 (0, 0)) (by (with_reducible repeat (first | refine blk_drewN ?_ _ | refine blk_drew ?_ | refine blk_alloc ?_ _)); exact BK689.out)) : gb690 ≠ gb689)); clear HO665; clear HO670; clear HO674; clear HO684; clear BK661; clear BK662; clear BK679; clear BK680; clear BK689; clear HB; have HO665 := n0_; have HO670 := n1_; have HO674 := n2_; have HO684 := n3_; have BK661 := n4_; have BK662 := n5_; have BK679 := n6_; have BK680 := n7_; have BK689 := n8_; have HB := n9_; have BK690 := n10_; have GW690 := n11_; have GE690 := n12_; have NB661_690 := n13_; have NB690_661 := n14_; have NB662_690 := n15_; have NB690_662 := n16_; have NB679_690 := n17_; have NB690_679 := n18_; have NB680_690 := n19_; have NB690_680 := n20_; have NB689_690 := n21_; have NB690_689 := n22_; clear n0_ n1_ n2_ n3_ n4_ n5_ n6_ n7_ n8_ n9_ n10_ n11_ n12_ n13_ n14_ n15_ n16_ n17_ n18_ n19_ n20_ n21_ n22_; clear hb hbox hg; obtain ⟨Ao57, co57, eo57⟩ := Kd.V_slice HO684.out; subst eo57; have hnb58 := NB689_661.out; have hnc58 := NB661_689.out; have hnb59 := NB689_662.out; have hnc59 := NB662_689.out; have hnb60 := NB689_679.out; have hnc60 := NB679_689.out; have hnb61 := NB689_680.out; have hnc61 := NB680_689.out; have hnb62 := NB689_690.out; have hnc62 := NB690_689.out; have hcz63_0 : w56.cell? ⟨gb689, 0, none⟩ = some (.slice none 0 0) := (blk_cell BK689.out 0).trans rfl; have hcz63_1 : w56.cell? ⟨gb689, 1, none⟩ = some (.int .i64 0) := (blk_cell BK689.out 1).trans rfl; have hfz63_0 := blk_frozen BK689.out 0; have hfz63_1 := blk_frozen BK689.out 1; have hnb64 := NB690_661.out; have hnc64 := NB661_690.out; have hnb65 := NB690_662.out; have hnc65 := NB662_690.out; have hnb66 := NB690_679.out; have hnc66 := NB679_690.out; have hnb67 := NB690_680.out; have hnc67 := NB680_690.out; have hcz68_0 : w56.cell? ⟨gb690, 0, none⟩ = some (.string (⟨#[]⟩ : ByteArray)) := (blk_cell BK690.out 0).trans rfl; have hcz68_1 : w56.cell? ⟨gb690, 1, none⟩ = some (.int .i64 0) := (blk_cell BK690.out 1).trans rfl; have hfz68_0 := blk_frozen BK690.out 0; have hfz68_1 := blk_frozen BK690.out 1))
                have n0_ : Aside0 (Kd.V (Kd.int .i64) 3 ((((w56.setCell ⟨gb689, 0, none⟩ (.slice Ao57 t682.length co57)).setCell ⟨gb689, 1, none⟩ (.int .i64 t685)).setCell ⟨gb690, 0, none⟩ (.string t686)).setCell ⟨gb690, 1, none⟩ (.int .i64 t687)) w.heap.size (fun k_ => k_ ≠ gb661 ∧ k_ ≠ gb662 ∧ k_ ≠ gb679 ∧ k_ ≠ gb680 ∧ k_ ≠ gb689 ∧ k_ ≠ gb690) (.slice Ao30 t663.length co30) t663) := ⟨by (with_reducible repeat (first | apply Kd.V_alloc | apply Kd.V_drewN | apply Kd.V_drew)); exact Kd.V_mono (Kd.V_far (p := ⟨gb690, 1, none⟩) (Kd.V_far (p := ⟨gb690, 0, none⟩) (Kd.V_far (p := ⟨gb689, 1, none⟩) (Kd.V_far (p := ⟨gb689, 0, none⟩) (Kd.V_mono (Kd.V_mono HO665.out (fun k_ hk => (⟨hk, hk.1.2⟩ : _ ∧ k_ ≠ gb689))) (fun k_ hk => (⟨hk, hk.1.2⟩ : _ ∧ k_ ≠ gb690))) (fun _ hk => hk.1.2) (.slice Ao57 t682.length co57)) (fun _ hk => hk.1.2) (.int .i64 t685)) (fun _ hk => hk.2) (.string t686)) (fun _ hk => hk.2) (.int .i64 t687)) (fun _ hk => ⟨hk.1.1.1.1.1, ⟨hk.1.1.1.1.2.1, ⟨hk.1.1.1.1.2.2.1, ⟨hk.1.1.1.1.2.2.2, ⟨hk.1.1.1.2, hk.1.1.2⟩⟩⟩⟩⟩)⟩
                have n1_ : Aside0 (Kd.V (Kd.int .i64) 3 ((((w56.setCell ⟨gb689, 0, none⟩ (.slice Ao57 t682.length co57)).setCell ⟨gb689, 1, none⟩ (.int .i64 t685)).setCell ⟨gb690, 0, none⟩ (.string t686)).setCell ⟨gb690, 1, none⟩ (.int .i64 t687)) w.heap.size (fun k_ => k_ ≠ gb661 ∧ k_ ≠ gb662 ∧ k_ ≠ gb679 ∧ k_ ≠ gb680 ∧ k_ ≠ gb689 ∧ k_ ≠ gb690) (.slice Ao38 t668.length co38) t668) := ⟨by (with_reducible repeat (first | apply Kd.V_alloc | apply Kd.V_drewN | apply Kd.V_drew)); exact Kd.V_mono (Kd.V_far (p := ⟨gb690, 1, none⟩) (Kd.V_far (p := ⟨gb690, 0, none⟩) (Kd.V_far (p := ⟨gb689, 1, none⟩) (Kd.V_far (p := ⟨gb689, 0, none⟩) (Kd.V_mono (Kd.V_mono HO670.out (fun k_ hk => (⟨hk, hk.1.2⟩ : _ ∧ k_ ≠ gb689))) (fun k_ hk => (⟨hk, hk.1.2⟩ : _ ∧ k_ ≠ gb690))) (fun _ hk => hk.1.2) (.slice Ao57 t682.length co57)) (fun _ hk => hk.1.2) (.int .i64 t685)) (fun _ hk => hk.2) (.string t686)) (fun _ hk => hk.2) (.int .i64 t687)) (fun _ hk => ⟨hk.1.1.1.1.1, ⟨hk.1.1.1.1.2.1, ⟨hk.1.1.1.1.2.2.1, ⟨hk.1.1.1.1.2.2.2, ⟨hk.1.1.1.2, hk.1.1.2⟩⟩⟩⟩⟩)⟩
                have n2_ : Aside0 (Kd.V (Kd.int .i64) 3 ((((w56.setCell ⟨gb689, 0, none⟩ (.slice Ao57 t682.length co57)).setCell ⟨gb689, 1, none⟩ (.int .i64 t685)).setCell ⟨gb690, 0, none⟩ (.string t686)).setCell ⟨gb690, 1, none⟩ (.int .i64 t687)) w.heap.size (fun k_ => k_ ≠ gb661 ∧ k_ ≠ gb662 ∧ k_ ≠ gb679 ∧ k_ ≠ gb680 ∧ k_ ≠ gb689 ∧ k_ ≠ gb690) (.slice Ao42 t672.length co42) t672) := ⟨by (with_reducible repeat (first | apply Kd.V_alloc | apply Kd.V_drewN | apply Kd.V_drew)); exact Kd.V_mono (Kd.V_far (p := ⟨gb690, 1, none⟩) (Kd.V_far (p := ⟨gb690, 0, none⟩) (Kd.V_far (p := ⟨gb689, 1, none⟩) (Kd.V_far (p := ⟨gb689, 0, none⟩) (Kd.V_mono (Kd.V_mono HO674.out (fun k_ hk => (⟨hk, hk.1.2⟩ : _ ∧ k_ ≠ gb689))) (fun k_ hk => (⟨hk, hk.1.2⟩ : _ ∧ k_ ≠ gb690))) (fun _ hk => hk.1.2) (.slice Ao57 t682.length co57)) (fun _ hk => hk.1.2) (.int .i64 t685)) (fun _ hk => hk.2) (.string t686)) (fun _ hk => hk.2) (.int .i64 t687)) (fun _ hk => ⟨hk.1.1.1.1.1, ⟨hk.1.1.1.1.2.1, ⟨hk.1.1.1.1.2.2.1, ⟨hk.1.1.1.1.2.2.2, ⟨hk.1.1.1.2, hk.1.1.2⟩⟩⟩⟩⟩)⟩
                have n3_ : Aside0 (Kd.V (Kd.int .i64) 3 ((((w56.setCell ⟨gb689, 0, none⟩ (.slice Ao57 t682.length co57)).setCell ⟨gb689, 1, none⟩ (.int .i64 t685)).setCell ⟨gb690, 0, none⟩ (.string t686)).setCell ⟨gb690, 1, none⟩ (.int .i64 t687)) w.heap.size (fun k_ => k_ ≠ gb661 ∧ k_ ≠ gb662 ∧ k_ ≠ gb679 ∧ k_ ≠ gb680 ∧ k_ ≠ gb689 ∧ k_ ≠ gb690) (.slice Ao57 t682.length co57) t682) := ⟨by (with_reducible repeat (first | apply Kd.V_alloc | apply Kd.V_drewN | apply Kd.V_drew)); exact Kd.V_mono (Kd.V_far (p := ⟨gb690, 1, none⟩) (Kd.V_far (p := ⟨gb690, 0, none⟩) (Kd.V_far (p := ⟨gb689, 1, none⟩) (Kd.V_far (p := ⟨gb689, 0, none⟩) (Kd.V_mono (Kd.V_mono HO684.out (fun k_ hk => (⟨hk, hk.1.2⟩ : _ ∧ k_ ≠ gb689))) (fun k_ hk => (⟨hk, hk.1.2⟩ : _ ∧ k_ ≠ gb690))) (fun _ hk => hk.1.2) (.slice Ao57 t682.length co57)) (fun _ hk => hk.1.2) (.int .i64 t685)) (fun _ hk => hk.2) (.string t686)) (fun _ hk => hk.2) (.int .i64 t687)) (fun _ hk => ⟨hk.1.1.1.1.1, ⟨hk.1.1.1.1.2.1, ⟨hk.1.1.1.1.2.2.1, ⟨hk.1.1.1.1.2.2.2, ⟨hk.1.1.1.2, hk.1.1.2⟩⟩⟩⟩⟩)⟩
                have n4_ : Aside0 (((((w56.setCell ⟨gb689, 0, none⟩ (.slice Ao57 t682.length co57)).setCell ⟨gb689, 1, none⟩ (.int .i64 t685)).setCell ⟨gb690, 0, none⟩ (.string t686)).setCell ⟨gb690, 1, none⟩ (.int .i64 t687)).heap[gb661]? = some (.cells #[.slice Ao30 t663.length co30, .int .i64 a0_1] 49 (0, 0))) := ⟨by (with_reducible repeat (first | refine blk_drewN ?_ _ | refine blk_drew ?_ | refine blk_alloc ?_ _)); refine blk_far ?_ NB661_690.out _; (with_reducible repeat (first | refine blk_drewN ?_ _ | refine blk_drew ?_ | refine blk_alloc ?_ _)); refine blk_far ?_ NB661_690.out _; (with_reducible repeat (first | refine blk_drewN ?_ _ | refine blk_drew ?_ | refine blk_alloc ?_ _)); refine blk_far ?_ NB661_689.out _; (with_reducible repeat (first | refine blk_drewN ?_ _ | refine blk_drew ?_ | refine blk_alloc ?_ _)); refine blk_far ?_ NB661_689.out _; (with_reducible repeat (first | refine blk_drewN ?_ _ | refine blk_drew ?_ | refine blk_alloc ?_ _)); exact BK661.out⟩
                have n5_ : Aside0 (((((w56.setCell ⟨gb689, 0, none⟩ (.slice Ao57 t682.length co57)).setCell ⟨gb689, 1, none⟩ (.int .i64 t685)).setCell ⟨gb690, 0, none⟩ (.string t686)).setCell ⟨gb690, 1, none⟩ (.int .i64 t687)).heap[gb662]? = some (.cells #[.string t666, .int .i64 t667] 23 (0, 0))) := ⟨by (with_reducible repeat (first | refine blk_drewN ?_ _ | refine blk_drew ?_ | refine blk_alloc ?_ _)); refine blk_far ?_ NB662_690.out _; (with_reducible repeat (first | refine blk_drewN ?_ _ | refine blk_drew ?_ | refine blk_alloc ?_ _)); refine blk_far ?_ NB662_690.out _; (with_reducible repeat (first | refine blk_drewN ?_ _ | refine blk_drew ?_ | refine blk_alloc ?_ _)); refine blk_far ?_ NB662_689.out _; (with_reducible repeat (first | refine blk_drewN ?_ _ | refine blk_drew ?_ | refine blk_alloc ?_ _)); refine blk_far ?_ NB662_689.out _; (with_reducible repeat (first | refine blk_drewN ?_ _ | refine blk_drew ?_ | refine blk_alloc ?_ _)); exact BK662.out⟩
                have n6_ : Aside0 (((((w56.setCell ⟨gb689, 0, none⟩ (.slice Ao57 t682.length co57)).setCell ⟨gb689, 1, none⟩ (.int .i64 t685)).setCell ⟨gb690, 0, none⟩ (.string t686)).setCell ⟨gb690, 1, none⟩ (.int .i64 t687)).heap[gb679]? = some (.cells #[.slice Ao42 t672.length co42, .int .i64 t675] 49 (0, 0))) := ⟨by (with_reducible repeat (first | refine blk_drewN ?_ _ | refine blk_drew ?_ | refine blk_alloc ?_ _)); refine blk_far ?_ NB679_690.out _; (with_reducible repeat (first | refine blk_drewN ?_ _ | refine blk_drew ?_ | refine blk_alloc ?_ _)); refine blk_far ?_ NB679_690.out _; (with_reducible repeat (first | refine blk_drewN ?_ _ | refine blk_drew ?_ | refine blk_alloc ?_ _)); refine blk_far ?_ NB679_689.out _; (with_reducible repeat (first | refine blk_drewN ?_ _ | refine blk_drew ?_ | refine blk_alloc ?_ _)); refine blk_far ?_ NB679_689.out _; (with_reducible repeat (first | refine blk_drewN ?_ _ | refine blk_drew ?_ | refine blk_alloc ?_ _)); exact BK679.out⟩
                have n7_ : Aside0 (((((w56.setCell ⟨gb689, 0, none⟩ (.slice Ao57 t682.length co57)).setCell ⟨gb689, 1, none⟩ (.int .i64 t685)).setCell ⟨gb690, 0, none⟩ (.string t686)).setCell ⟨gb690, 1, none⟩ (.int .i64 t687)).heap[gb680]? = some (.cells #[.string t676, .int .i64 t677] 23 (0, 0))) := ⟨by (with_reducible repeat (first | refine blk_drewN ?_ _ | refine blk_drew ?_ | refine blk_alloc ?_ _)); refine blk_far ?_ NB680_690.out _; (with_reducible repeat (first | refine blk_drewN ?_ _ | refine blk_drew ?_ | refine blk_alloc ?_ _)); refine blk_far ?_ NB680_690.out _; (with_reducible repeat (first | refine blk_drewN ?_ _ | refine blk_drew ?_ | refine blk_alloc ?_ _)); refine blk_far ?_ NB680_689.out _; (with_reducible repeat (first | refine blk_drewN ?_ _ | refine blk_drew ?_ | refine blk_alloc ?_ _)); refine blk_far ?_ NB680_689.out _; (with_reducible repeat (first | refine blk_drewN ?_ _ | refine blk_drew ?_ | refine blk_alloc ?_ _)); exact BK680.out⟩
                have n8_ : Aside0 (((((w56.setCell ⟨gb689, 0, none⟩ (.slice Ao57 t682.length co57)).setCell ⟨gb689, 1, none⟩ (.int .i64 t685)).setCell ⟨gb690, 0, none⟩ (.string t686)).setCell ⟨gb690, 1, none⟩ (.int .i64 t687)).heap[gb689]? = some (.cells #[.slice Ao57 t682.length co57, .int .i64 t685] 49 (0, 0))) := ⟨by (with_reducible repeat (first | refine blk_drewN ?_ _ | refine blk_drew ?_ | refine blk_alloc ?_ _)); refine blk_far ?_ NB689_690.out _; (with_reducible repeat (first | refine blk_drewN ?_ _ | refine blk_drew ?_ | refine blk_alloc ?_ _)); refine blk_far ?_ NB689_690.out _; (with_reducible repeat (first | refine blk_drewN ?_ _ | refine blk_drew ?_ | refine blk_alloc ?_ _)); refine blk_put (cs := #[.slice Ao57 t682.length co57, .int .i64 0]) ?_ 1 _ rfl; (with_reducible repeat (first | refine blk_drewN ?_ _ | refine blk_drew ?_ | refine blk_alloc ?_ _)); refine blk_put (cs := #[.slice none 0 0, .int .i64 0]) ?_ 0 _ rfl; (with_reducible repeat (first | refine blk_drewN ?_ _ | refine blk_drew ?_ | refine blk_alloc ?_ _)); exact BK689.out⟩
                have n9_ : Aside0 (((((w56.setCell ⟨gb689, 0, none⟩ (.slice Ao57 t682.length co57)).setCell ⟨gb689, 1, none⟩ (.int .i64 t685)).setCell ⟨gb690, 0, none⟩ (.string t686)).setCell ⟨gb690, 1, none⟩ (.int .i64 t687)).heap[gb690]? = some (.cells #[.string t686, .int .i64 t687] 23 (0, 0))) := ⟨by (with_reducible repeat (first | refine blk_drewN ?_ _ | refine blk_drew ?_ | refine blk_alloc ?_ _)); refine blk_put (cs := #[.string t686, .int .i64 0]) ?_ 1 _ rfl; (with_reducible repeat (first | refine blk_drewN ?_ _ | refine blk_drew ?_ | refine blk_alloc ?_ _)); refine blk_put (cs := #[.string (⟨#[]⟩ : ByteArray), .int .i64 0]) ?_ 0 _ rfl; (with_reducible repeat (first | refine blk_drewN ?_ _ | refine blk_drew ?_ | refine blk_alloc ?_ _)); refine blk_far ?_ NB690_689.out _; (with_reducible repeat (first | refine blk_drewN ?_ _ | refine blk_drew ?_ | refine blk_alloc ?_ _)); refine blk_far ?_ NB690_689.out _; (with_reducible repeat (first | refine blk_drewN ?_ _ | refine blk_drew ?_ | refine blk_alloc ?_ _)); exact BK690.out⟩
                have n10_ : Aside0 (Below w.heap.size w ((((w56.setCell ⟨gb689, 0, none⟩ (.slice Ao57 t682.length co57)).setCell ⟨gb689, 1, none⟩ (.int .i64 t685)).setCell ⟨gb690, 0, none⟩ (.string t686)).setCell ⟨gb690, 1, none⟩ (.int .i64 t687))) := ⟨by repeat (first | (with_reducible first | exact HB.out | apply below_alloc | apply pw_below_drewN | apply below_drew1 | refine below_set ?_ GE661.out | refine below_set ?_ GE662.out | refine below_set ?_ GE679.out | refine below_set ?_ GE680.out | refine below_set ?_ GE689.out | refine below_set ?_ GE690.out) | exact HB.out)⟩
                (try clear HO665)
                (try clear HO670)
                (try clear HO674)
                (try clear HO684)
                (try clear BK661)
                (try clear BK662)
                (try clear BK679)
                (try clear BK680)
                (try clear BK689)
                (try clear BK690)
                (try clear HB)
                generalize ((((w56.setCell ⟨gb689, 0, none⟩ (.slice Ao57 t682.length co57)).setCell ⟨gb689, 1, none⟩ (.int .i64 t685)).setCell ⟨gb690, 0, none⟩ (.string t686)).setCell ⟨gb690, 1, none⟩ (.int .i64 t687)) = w69 at n0_ n1_ n2_ n3_ n4_ n5_ n6_ n7_ n8_ n9_ n10_ ⊢
                have HO665 := n0_
                have HO670 := n1_
                have HO674 := n2_
                have HO684 := n3_
                have BK661 := n4_
                have BK662 := n5_
                have BK679 := n6_
                have BK680 := n7_
                have BK689 := n8_
                have BK690 := n9_
                have HB := n10_
                clear n0_ n1_ n2_ n3_ n4_ n5_ n6_ n7_ n8_ n9_ n10_
                have n0_ := Aside0.mk (Kd.V_drew HO665.out)
                have n1_ := Aside0.mk (Kd.V_drew HO670.out)
                have n2_ := Aside0.mk (Kd.V_drew HO674.out)
                have n3_ := Aside0.mk (Kd.V_drew HO684.out)
                have n4_ := Aside0.mk (blk_drew BK661.out)
                have n5_ := Aside0.mk (blk_drew BK662.out)
                have n6_ := Aside0.mk (blk_drew BK679.out)
                have n7_ := Aside0.mk (blk_drew BK680.out)
                have n8_ := Aside0.mk (blk_drew BK689.out)
                have n9_ := Aside0.mk (blk_drew BK690.out)
                have n10_ := Aside0.mk (below_drew1 HB.out)
                clear HO665
                clear HO670
                clear HO674
                clear HO684
                clear BK661
                clear BK662
                clear BK679
                clear BK680
                clear BK689
                clear BK690
                clear HB
                have HO665 := n0_
                have HO670 := n1_
                have HO674 := n2_
                have HO684 := n3_
                have BK661 := n4_
                have BK662 := n5_
                have BK679 := n6_
                have BK680 := n7_
                have BK689 := n8_
                have BK690 := n9_
                have HB := n10_
                clear n0_ n1_ n2_ n3_ n4_ n5_ n6_ n7_ n8_ n9_ n10_
                refine start_ (n := 47) (S := fun w' => w'.cell? ⟨gb679, 0, none⟩ = some (.slice Ao42 t672.length co42) ∧ w'.cell? ⟨gb679, 1, none⟩ = some (.int .i64 t675) ∧ w'.cell? ⟨gb689, 0, none⟩ = some (.slice Ao57 t682.length co57) ∧ w'.cell? ⟨gb689, 1, none⟩ = some (.int .i64 t685) ∧ w'.cell? ⟨gb680, 0, none⟩ = some (.string t676) ∧ w'.cell? ⟨gb680, 1, none⟩ = some (.int .i64 t677) ∧ w'.cell? ⟨gb690, 0, none⟩ = some (.string t686) ∧ w'.cell? ⟨gb690, 1, none⟩ = some (.int .i64 t687) ∧ w'.cell? ⟨gb661, 0, none⟩ = some (.slice Ao30 t663.length co30) ∧ w'.cell? ⟨gb661, 1, none⟩ = some (.int .i64 a0_1)) (ds := []) #[false, false, false, false, false, false, false, false, false, false, false, false, false, false, false, false, false, false, false, false, false, false, false, false, false, false, false, false, false, false, false, false, false, false, false, false, false, false, false, false, false, false, false, false, false, false, false] (by kernel_rfl) rfl rfl ⟨(blk_cell BK679.out 0).trans rfl, (blk_cell BK679.out 1).trans rfl, (blk_cell BK689.out 0).trans rfl, (blk_cell BK689.out 1).trans rfl, (blk_cell BK680.out 0).trans rfl, (blk_cell BK680.out 1).trans rfl, (blk_cell BK690.out 0).trans rfl, (blk_cell BK690.out 1).trans rfl, (blk_cell BK661.out 0).trans rfl, (blk_cell BK661.out 1).trans rfl⟩ (fun hHeld => ?_); refine with_tabW tattlelaw08_TurnTells.tab4 tattlelaw08_TurnTells.bits4 (fun HT_ HW_ => ?_)
                generalize w69.drew = w70 at HO665 HO670 HO674 HO684 BK661 BK662 BK679 BK680 BK689 BK690 HB hHeld ⊢
                refine pure_ (i := 0) (N := some 41) (v := ?_) (a' := ?_) #[true, false, false, false, false, false, false, false, false, false, false, false, false, false, false, false, false, false, false, false, false, false, false, false, false, false, false, false, false, false, false, false, false, false, false, false, false, false, false, false, false, false, false, false, false, false, false] rfl rfl (any_of HT_.out (by kernel_rfl)) (fun _ _ _ h => h) (Or.inl ⟨by rfl, ?_⟩) ?_ ?_
                rotate_left
                · intro w'
                  go_simp
                  with_reducible rfl
                rotate_left
                · simp only [Act.put, List.setIfInBounds_toArray, List.set_cons_zero, List.set_cons_succ, i64_w, i32_w]
                  rfl
                refine pure_ (i := 1) (N := some 42) (v := ?_) (a' := ?_) #[true, true, false, false, false, false, false, false, false, false, false, false, false, false, false, false, false, false, false, false, false, false, false, false, false, false, false, false, false, false, false, false, false, false, false, false, false, false, false, false, false, false, false, false, false, false, false] rfl rfl (any_of HT_.out (by kernel_rfl)) (fun _ _ _ h => h) (Or.inl ⟨by rfl, ?_⟩) ?_ ?_
                rotate_left
                · intro w'
                  go_simp
                  with_reducible rfl
                rotate_left
                · simp only [Act.put, List.setIfInBounds_toArray, List.set_cons_zero, List.set_cons_succ, i64_w, i32_w]
                  rfl
                refine pure_ (i := 2) (N := some 43) (v := ?_) (a' := ?_) #[true, true, true, false, false, false, false, false, false, false, false, false, false, false, false, false, false, false, false, false, false, false, false, false, false, false, false, false, false, false, false, false, false, false, false, false, false, false, false, false, false, false, false, false, false, false, false] rfl rfl (any_of HT_.out (by kernel_rfl)) (fun _ _ _ h => h) (Or.inl ⟨by rfl, ?_⟩) ?_ ?_
                rotate_left
                · intro w'
                  go_simp
                  with_reducible rfl
                rotate_left
                · simp only [Act.put, List.setIfInBounds_toArray, List.set_cons_zero, List.set_cons_succ, i64_w, i32_w]
                  rfl
                refine pure_ (i := 3) (N := some 44) (v := ?_) (a' := ?_) #[true, true, true, true, false, false, false, false, false, false, false, false, false, false, false, false, false, false, false, false, false, false, false, false, false, false, false, false, false, false, false, false, false, false, false, false, false, false, false, false, false, false, false, false, false, false, false] rfl rfl (any_of HT_.out (by kernel_rfl)) (fun _ _ _ h => h) (Or.inl ⟨by rfl, ?_⟩) ?_ ?_
                rotate_left
                · intro w'
                  go_simp
                  with_reducible rfl
                rotate_left
                · simp only [Act.put, List.setIfInBounds_toArray, List.set_cons_zero, List.set_cons_succ, i64_w, i32_w]
                  rfl
                refine take_ (i := 4) (N := some 45) (v := ?_) (a' := ?_) #[true, true, true, true, true, false, false, false, false, false, false, false, false, false, false, false, false, false, false, false, false, false, false, false, false, false, false, false, false, false, false, false, false, false, false, false, false, false, false, false, false, false, false, false, false, false, false] rfl rfl (take_ofW HT_.out HW_.out (by kernel_rfl)) (fun _ _ _ h => h) (Or.inl ⟨by rfl, ?_⟩) hHeld ?_ ?_
                rotate_left
                · rintro w' ⟨s0, s1, s2, s3, s4, s5, s6, s7, s8, s9⟩
                  go_simp
                  with_reducible rfl
                rotate_left
                · simp only [Act.put, List.setIfInBounds_toArray, List.set_cons_zero, List.set_cons_succ, i64_w, i32_w]
                  rfl
                refine take_ (i := 5) (N := some 46) (v := ?_) (a' := ?_) #[true, true, true, true, true, true, false, false, false, false, false, false, false, false, false, false, false, false, false, false, false, false, false, false, false, false, false, false, false, false, false, false, false, false, false, false, false, false, false, false, false, false, false, false, false, false, false] rfl rfl (take_ofW HT_.out HW_.out (by kernel_rfl)) (fun _ _ _ h => h) (Or.inl ⟨by rfl, ?_⟩) hHeld ?_ ?_
                rotate_left
                · rintro w' ⟨s0, s1, s2, s3, s4, s5, s6, s7, s8, s9⟩
                  go_simp
                  with_reducible rfl
                rotate_left
                · simp only [Act.put, List.setIfInBounds_toArray, List.set_cons_zero, List.set_cons_succ, i64_w, i32_w]
                  rfl
                refine one_ (i := 6) (N := some 47) #[true, true, true, true, true, true, true, false, false, false, false, false, false, false, false, false, false, false, false, false, false, false, false, false, false, false, false, false, false, false, false, false, false, false, false, false, false, false, false, false, false, false, false, false, false, false, false] rfl rfl (one_of HT_.out (by kernel_rfl)) (by decide) (fun K hK => ?_)
                refine goes_ Try.func32 (by kernel_rfl) rfl #[.agg #[.slice Ao42 t672.length co42, .int .i64 t675], .agg #[.slice Ao57 t682.length co57, .int .i64 t685]] (by rfl) rfl rfl (by (try simp only [List.map_toArray, List.map_cons, List.map_nil]); first | done | rfl | (simp only [List.length_drop, List.length_take]; rfl)) ?_
                with_reducible refine (tattleref08_Same.calls k _ _ t672 t675 _ _ t682 t685 true _ ?side1 ?side2 ?side3 ?side4 A10.out).mono ?_
                (case side1 => repeat (first | exact (Kd.V_reads' HO674.out).2.2 | (with_reducible refine Kd.C_alloc ?_ _) | (with_reducible refine Kd.C_drewN ?_ _) | (with_reducible refine Kd.C_drew ?_)))
                (case side2 => exact (Kd.V_reads' HO674.out).2.1)
                (case side3 => repeat (first | exact (Kd.V_reads' HO684.out).2.2 | (with_reducible refine Kd.C_alloc ?_ _) | (with_reducible refine Kd.C_drewN ?_ _) | (with_reducible refine Kd.C_drew ?_)))
                (case side4 => exact (Kd.V_reads' HO684.out).2.1)
                rintro e w71 ⟨rfl, hb⟩
                refine ⟨_, rfl, ?_⟩
                have n0_ := Aside0.mk (Kd.V_below (by (with_reducible repeat (first | apply Kd.V_alloc | apply Kd.V_drewN | apply Kd.V_drew)); exact HO665.out) hb)
                have n1_ := Aside0.mk (Kd.V_below (by (with_reducible repeat (first | apply Kd.V_alloc | apply Kd.V_drewN | apply Kd.V_drew)); exact HO670.out) hb)
                have n2_ := Aside0.mk (Kd.V_below (by (with_reducible repeat (first | apply Kd.V_alloc | apply Kd.V_drewN | apply Kd.V_drew)); exact HO674.out) hb)
                have n3_ := Aside0.mk (Kd.V_below (by (with_reducible repeat (first | apply Kd.V_alloc | apply Kd.V_drewN | apply Kd.V_drew)); exact HO684.out) hb)
                have n4_ := Aside0.mk (blk_below (g := gb661) (o := .cells #[.slice Ao30 t663.length co30, .int .i64 a0_1] 49 (0, 0)) (by (with_reducible repeat (first | refine blk_drewN ?_ _ | refine blk_drew ?_ | refine blk_alloc ?_ _)); exact BK661.out) hb)
                have n5_ := Aside0.mk (blk_below (g := gb662) (o := .cells #[.string t666, .int .i64 t667] 23 (0, 0)) (by (with_reducible repeat (first | refine blk_drewN ?_ _ | refine blk_drew ?_ | refine blk_alloc ?_ _)); exact BK662.out) hb)
                have n6_ := Aside0.mk (blk_below (g := gb679) (o := .cells #[.slice Ao42 t672.length co42, .int .i64 t675] 49 (0, 0)) (by (with_reducible repeat (first | refine blk_drewN ?_ _ | refine blk_drew ?_ | refine blk_alloc ?_ _)); exact BK679.out) hb)
                have n7_ := Aside0.mk (blk_below (g := gb680) (o := .cells #[.string t676, .int .i64 t677] 23 (0, 0)) (by (with_reducible repeat (first | refine blk_drewN ?_ _ | refine blk_drew ?_ | refine blk_alloc ?_ _)); exact BK680.out) hb)
                have n8_ := Aside0.mk (blk_below (g := gb689) (o := .cells #[.slice Ao57 t682.length co57, .int .i64 t685] 49 (0, 0)) (by (with_reducible repeat (first | refine blk_drewN ?_ _ | refine blk_drew ?_ | refine blk_alloc ?_ _)); exact BK689.out) hb)
                have n9_ := Aside0.mk (blk_below (g := gb690) (o := .cells #[.string t686, .int .i64 t687] 23 (0, 0)) (by (with_reducible repeat (first | refine blk_drewN ?_ _ | refine blk_drew ?_ | refine blk_alloc ?_ _)); exact BK690.out) hb)
                have n10_ := Aside0.mk (below_step (by repeat (first | (with_reducible first | exact HB.out | apply below_alloc | apply pw_below_drewN | apply below_drew1 | refine below_set ?_ GE661.out | refine below_set ?_ GE662.out | refine below_set ?_ GE679.out | refine below_set ?_ GE680.out | refine below_set ?_ GE689.out | refine below_set ?_ GE690.out) | exact HB.out)) hb)
                clear HO665
                clear HO670
                clear HO674
                clear HO684
                clear BK661
                clear BK662
                clear BK679
                clear BK680
                clear BK689
                clear BK690
                clear HB
                have HO665 := n0_
                have HO670 := n1_
                have HO674 := n2_
                have HO684 := n3_
                have BK661 := n4_
                have BK662 := n5_
                have BK679 := n6_
                have BK680 := n7_
                have BK689 := n8_
                have BK690 := n9_
                have HB := n10_
                clear n0_ n1_ n2_ n3_ n4_ n5_ n6_ n7_ n8_ n9_ n10_
                (try clear hb)
                (try clear hb2)
                (try clear hk)
                (try clear hi)
                refine hK.out _ _ ⟨(blk_cell BK679.out 0).trans rfl, (blk_cell BK679.out 1).trans rfl, (blk_cell BK689.out 0).trans rfl, (blk_cell BK689.out 1).trans rfl, (blk_cell BK680.out 0).trans rfl, (blk_cell BK680.out 1).trans rfl, (blk_cell BK690.out 0).trans rfl, (blk_cell BK690.out 1).trans rfl, (blk_cell BK661.out 0).trans rfl, (blk_cell BK661.out 1).trans rfl⟩ (fun hHeld => ?_)
                clear hK K
                refine norm_ (a' := ?_) ?_ ?_
                rotate_left
                · show Act.put _ (some 47) _ = _
                  simp only [Act.put, List.setIfInBounds_toArray, List.set_cons_zero, List.set_cons_succ, i64_w, i32_w]
                  rfl
                refine pure_ (i := 7) (N := some 48) (v := ?_) (a' := ?_) #[true, true, true, true, true, true, true, true, false, false, false, false, false, false, false, false, false, false, false, false, false, false, false, false, false, false, false, false, false, false, false, false, false, false, false, false, false, false, false, false, false, false, false, false, false, false, false] rfl rfl (any_of HT_.out (by kernel_rfl)) (fun _ _ _ h => h) (Or.inl ⟨by rfl, ?_⟩) ?_ ?_
                rotate_left
                · intro w'
                  go_simp
                  with_reducible rfl
                rotate_left
                · simp only [Act.put, List.setIfInBounds_toArray, List.set_cons_zero, List.set_cons_succ, i64_w, i32_w]
                  rfl
                refine pure_ (i := 8) (N := some 49) (v := ?_) (a' := ?_) #[true, true, true, true, true, true, true, true, true, false, false, false, false, false, false, false, false, false, false, false, false, false, false, false, false, false, false, false, false, false, false, false, false, false, false, false, false, false, false, false, false, false, false, false, false, false, false] rfl rfl (any_of HT_.out (by kernel_rfl)) (fun _ _ _ h => h) (Or.inl ⟨by rfl, ?_⟩) ?_ ?_
                rotate_left
                · intro w'
                  go_simp
                  with_reducible rfl
                rotate_left
                · simp only [Act.put, List.setIfInBounds_toArray, List.set_cons_zero, List.set_cons_succ, i64_w, i32_w]
                  rfl
                refine take_ (i := 9) (N := some 50) (v := ?_) (a' := ?_) #[true, true, true, true, true, true, true, true, true, true, false, false, false, false, false, false, false, false, false, false, false, false, false, false, false, false, false, false, false, false, false, false, false, false, false, false, false, false, false, false, false, false, false, false, false, false, false] rfl rfl (take_ofW HT_.out HW_.out (by kernel_rfl)) (fun _ _ _ h => h) (Or.inl ⟨by rfl, ?_⟩) hHeld ?_ ?_
                rotate_left
                · rintro w' ⟨s0, s1, s2, s3, s4, s5, s6, s7, s8, s9⟩
                  go_simp
                  with_reducible rfl
                rotate_left
                · simp only [Act.put, List.setIfInBounds_toArray, List.set_cons_zero, List.set_cons_succ, i64_w, i32_w]
                  rfl
                refine take_ (i := 10) (N := some 51) (v := ?_) (a' := ?_) #[true, true, true, true, true, true, true, true, true, true, true, false, false, false, false, false, false, false, false, false, false, false, false, false, false, false, false, false, false, false, false, false, false, false, false, false, false, false, false, false, false, false, false, false, false, false, false] rfl rfl (take_ofW HT_.out HW_.out (by kernel_rfl)) (fun _ _ _ h => h) (Or.inl ⟨by rfl, ?_⟩) hHeld ?_ ?_
                rotate_left
                · rintro w' ⟨s0, s1, s2, s3, s4, s5, s6, s7, s8, s9⟩
                  go_simp
                  with_reducible rfl
                rotate_left
                · simp only [Act.put, List.setIfInBounds_toArray, List.set_cons_zero, List.set_cons_succ, i64_w, i32_w]
                  rfl
                refine pure_ (i := 11) (N := some 52) (v := ?_) (a' := ?_) #[true, true, true, true, true, true, true, true, true, true, true, true, false, false, false, false, false, false, false, false, false, false, false, false, false, false, false, false, false, false, false, false, false, false, false, false, false, false, false, false, false, false, false, false, false, false, false] rfl rfl (any_of HT_.out (by kernel_rfl)) (fun _ _ _ h => h) (Or.inl ⟨by rfl, ?_⟩) ?_ ?_
                rotate_left
                · intro w'
                  go_simp
                  with_reducible rfl
                rotate_left
                · simp only [Act.put, List.setIfInBounds_toArray, List.set_cons_zero, List.set_cons_succ, i64_w, i32_w]
                  rfl
                refine pure_ (i := 12) (N := some 53) (v := ?_) (a' := ?_) #[true, true, true, true, true, true, true, true, true, true, true, true, true, false, false, false, false, false, false, false, false, false, false, false, false, false, false, false, false, false, false, false, false, false, false, false, false, false, false, false, false, false, false, false, false, false, false] rfl rfl (any_of HT_.out (by kernel_rfl)) (fun _ _ _ h => h) (Or.inl ⟨by rfl, ?_⟩) ?_ ?_
                rotate_left
                · intro w'
                  go_simp
                  with_reducible rfl
                rotate_left
                · simp only [Act.put, List.setIfInBounds_toArray, List.set_cons_zero, List.set_cons_succ, i64_w, i32_w]
                  rfl
                refine pure_ (i := 13) (N := some 54) (v := ?_) (a' := ?_) #[true, true, true, true, true, true, true, true, true, true, true, true, true, true, false, false, false, false, false, false, false, false, false, false, false, false, false, false, false, false, false, false, false, false, false, false, false, false, false, false, false, false, false, false, false, false, false] rfl rfl (any_of HT_.out (by kernel_rfl)) (fun _ _ _ h => h) (Or.inl ⟨by rfl, ?_⟩) ?_ ?_
                rotate_left
                · intro w'
                  go_simp
                  with_reducible rfl
                rotate_left
                · simp only [Act.put, List.setIfInBounds_toArray, List.set_cons_zero, List.set_cons_succ, i64_w, i32_w]
                  rfl
                refine pure_ (i := 14) (N := some 55) (v := ?_) (a' := ?_) #[true, true, true, true, true, true, true, true, true, true, true, true, true, true, true, false, false, false, false, false, false, false, false, false, false, false, false, false, false, false, false, false, false, false, false, false, false, false, false, false, false, false, false, false, false, false, false] rfl rfl (any_of HT_.out (by kernel_rfl)) (fun _ _ _ h => h) (Or.inl ⟨by rfl, ?_⟩) ?_ ?_
                rotate_left
                · intro w'
                  go_simp
                  with_reducible rfl
                rotate_left
                · simp only [Act.put, List.setIfInBounds_toArray, List.set_cons_zero, List.set_cons_succ, i64_w, i32_w]
                  rfl
                refine pure_ (i := 15) (N := some 56) (v := ?_) (a' := ?_) #[true, true, true, true, true, true, true, true, true, true, true, true, true, true, true, true, false, false, false, false, false, false, false, false, false, false, false, false, false, false, false, false, false, false, false, false, false, false, false, false, false, false, false, false, false, false, false] rfl rfl (any_of HT_.out (by kernel_rfl)) (fun _ _ _ h => h) (Or.inl ⟨by rfl, ?_⟩) ?_ ?_
                rotate_left
                · intro w'
                  go_simp
                  with_reducible rfl
                rotate_left
                · simp only [Act.put, List.setIfInBounds_toArray, List.set_cons_zero, List.set_cons_succ, i64_w, i32_w]
                  rfl
                refine pure_ (i := 16) (N := some 57) (v := ?_) (a' := ?_) #[true, true, true, true, true, true, true, true, true, true, true, true, true, true, true, true, true, false, false, false, false, false, false, false, false, false, false, false, false, false, false, false, false, false, false, false, false, false, false, false, false, false, false, false, false, false, false] rfl rfl (any_of HT_.out (by kernel_rfl)) (fun _ _ _ h => h) (Or.inl ⟨by rfl, ?_⟩) ?_ ?_
                rotate_left
                · intro w'
                  go_simp
                  with_reducible rfl
                rotate_left
                · simp only [Act.put, List.setIfInBounds_toArray, List.set_cons_zero, List.set_cons_succ, i64_w, i32_w]
                  rfl
                refine pure_ (i := 17) (N := some 58) (v := ?_) (a' := ?_) #[true, true, true, true, true, true, true, true, true, true, true, true, true, true, true, true, true, true, false, false, false, false, false, false, false, false, false, false, false, false, false, false, false, false, false, false, false, false, false, false, false, false, false, false, false, false, false] rfl rfl (any_of HT_.out (by kernel_rfl)) (fun _ _ _ h => h) (Or.inl ⟨by rfl, ?_⟩) ?_ ?_
                rotate_left
                · intro w'
                  go_simp
                  with_reducible rfl
                rotate_left
                · simp only [Act.put, List.setIfInBounds_toArray, List.set_cons_zero, List.set_cons_succ, i64_w, i32_w]
                  rfl
                refine pure_ (i := 18) (N := some 59) (v := ?_) (a' := ?_) #[true, true, true, true, true, true, true, true, true, true, true, true, true, true, true, true, true, true, true, false, false, false, false, false, false, false, false, false, false, false, false, false, false, false, false, false, false, false, false, false, false, false, false, false, false, false, false] rfl rfl (any_of HT_.out (by kernel_rfl)) (fun _ _ _ h => h) (Or.inl ⟨by rfl, ?_⟩) ?_ ?_
                rotate_left
                · intro w'
                  go_simp
                  with_reducible rfl
                rotate_left
                · simp only [Act.put, List.setIfInBounds_toArray, List.set_cons_zero, List.set_cons_succ, i64_w, i32_w]
                  rfl
                refine take_ (i := 19) (N := some 60) (v := ?_) (a' := ?_) #[true, true, true, true, true, true, true, true, true, true, true, true, true, true, true, true, true, true, true, true, false, false, false, false, false, false, false, false, false, false, false, false, false, false, false, false, false, false, false, false, false, false, false, false, false, false, false] rfl rfl (take_ofW HT_.out HW_.out (by kernel_rfl)) (fun _ _ _ h => h) (Or.inl ⟨by rfl, ?_⟩) hHeld ?_ ?_
                rotate_left
                · rintro w' ⟨s0, s1, s2, s3, s4, s5, s6, s7, s8, s9⟩
                  go_simp
                  with_reducible rfl
                rotate_left
                · simp only [Act.put, List.setIfInBounds_toArray, List.set_cons_zero, List.set_cons_succ, i64_w, i32_w]
                  rfl
                refine take_ (i := 22) (N := some 63) (v := ?_) (a' := ?_) #[true, true, true, true, true, true, true, true, true, true, true, true, true, true, true, true, true, true, true, true, false, false, true, false, false, false, false, false, false, false, false, false, false, false, false, false, false, false, false, false, false, false, false, false, false, false, false] rfl rfl (take_ofW HT_.out HW_.out (by kernel_rfl)) (fun _ _ _ h => h) (Or.inl ⟨by rfl, ?_⟩) hHeld ?_ ?_
                rotate_left
                · rintro w' ⟨s0, s1, s2, s3, s4, s5, s6, s7, s8, s9⟩
                  go_simp
                  with_reducible rfl
                rotate_left
                · simp only [Act.put, List.setIfInBounds_toArray, List.set_cons_zero, List.set_cons_succ, i64_w, i32_w]
                  rfl
                refine one_ (i := 20) (N := some 61) #[true, true, true, true, true, true, true, true, true, true, true, true, true, true, true, true, true, true, true, true, true, false, true, false, false, false, false, false, false, false, false, false, false, false, false, false, false, false, false, false, false, false, false, false, false, false, false] rfl rfl (one_of HT_.out (by kernel_rfl)) (by decide) (fun K hK => ?_)
                refine goes_ Try.func29 (by kernel_rfl) rfl #[.agg #[.slice Ao30 t663.length co30, .int .i64 a0_1]] (by rfl) rfl rfl (by (try simp only [List.map_toArray, List.map_cons, List.map_nil]); first | done | rfl | (simp only [List.length_drop, List.length_take]; rfl)) ?_
                with_reducible refine (turn_Check.calls _ _ t663 a0_1 t692 _ ?side1 ?side2 A14.out).mono ?_
                (case side1 => repeat (first | exact (Kd.V_reads' HO665.out).2.2 | (with_reducible refine Kd.C_alloc ?_ _) | (with_reducible refine Kd.C_drewN ?_ _) | (with_reducible refine Kd.C_drew ?_)))
                (case side2 => exact (Kd.V_reads' HO665.out).2.1)
                rintro e w72 ⟨rfl, hb⟩
                refine ⟨_, rfl, ?_⟩
                have n0_ := Aside0.mk (Kd.V_below (by (with_reducible repeat (first | apply Kd.V_alloc | apply Kd.V_drewN | apply Kd.V_drew)); exact HO665.out) hb)
                have n1_ := Aside0.mk (Kd.V_below (by (with_reducible repeat (first | apply Kd.V_alloc | apply Kd.V_drewN | apply Kd.V_drew)); exact HO670.out) hb)
                have n2_ := Aside0.mk (Kd.V_below (by (with_reducible repeat (first | apply Kd.V_alloc | apply Kd.V_drewN | apply Kd.V_drew)); exact HO674.out) hb)
                have n3_ := Aside0.mk (Kd.V_below (by (with_reducible repeat (first | apply Kd.V_alloc | apply Kd.V_drewN | apply Kd.V_drew)); exact HO684.out) hb)
                have n4_ := Aside0.mk (blk_below (g := gb661) (o := .cells #[.slice Ao30 t663.length co30, .int .i64 a0_1] 49 (0, 0)) (by (with_reducible repeat (first | refine blk_drewN ?_ _ | refine blk_drew ?_ | refine blk_alloc ?_ _)); exact BK661.out) hb)
                have n5_ := Aside0.mk (blk_below (g := gb662) (o := .cells #[.string t666, .int .i64 t667] 23 (0, 0)) (by (with_reducible repeat (first | refine blk_drewN ?_ _ | refine blk_drew ?_ | refine blk_alloc ?_ _)); exact BK662.out) hb)
                have n6_ := Aside0.mk (blk_below (g := gb679) (o := .cells #[.slice Ao42 t672.length co42, .int .i64 t675] 49 (0, 0)) (by (with_reducible repeat (first | refine blk_drewN ?_ _ | refine blk_drew ?_ | refine blk_alloc ?_ _)); exact BK679.out) hb)
                have n7_ := Aside0.mk (blk_below (g := gb680) (o := .cells #[.string t676, .int .i64 t677] 23 (0, 0)) (by (with_reducible repeat (first | refine blk_drewN ?_ _ | refine blk_drew ?_ | refine blk_alloc ?_ _)); exact BK680.out) hb)
                have n8_ := Aside0.mk (blk_below (g := gb689) (o := .cells #[.slice Ao57 t682.length co57, .int .i64 t685] 49 (0, 0)) (by (with_reducible repeat (first | refine blk_drewN ?_ _ | refine blk_drew ?_ | refine blk_alloc ?_ _)); exact BK689.out) hb)
                have n9_ := Aside0.mk (blk_below (g := gb690) (o := .cells #[.string t686, .int .i64 t687] 23 (0, 0)) (by (with_reducible repeat (first | refine blk_drewN ?_ _ | refine blk_drew ?_ | refine blk_alloc ?_ _)); exact BK690.out) hb)
                have n10_ := Aside0.mk (below_step (by repeat (first | (with_reducible first | exact HB.out | apply below_alloc | apply pw_below_drewN | apply below_drew1 | refine below_set ?_ GE661.out | refine below_set ?_ GE662.out | refine below_set ?_ GE679.out | refine below_set ?_ GE680.out | refine below_set ?_ GE689.out | refine below_set ?_ GE690.out) | exact HB.out)) hb)
                clear HO665
                clear HO670
                clear HO674
                clear HO684
                clear BK661
                clear BK662
                clear BK679
                clear BK680
                clear BK689
                clear BK690
                clear HB
                have HO665 := n0_
                have HO670 := n1_
                have HO674 := n2_
                have HO684 := n3_
                have BK661 := n4_
                have BK662 := n5_
                have BK679 := n6_
                have BK680 := n7_
                have BK689 := n8_
                have BK690 := n9_
                have HB := n10_
                clear n0_ n1_ n2_ n3_ n4_ n5_ n6_ n7_ n8_ n9_ n10_
                (try clear hb)
                (try clear hb2)
                (try clear hk)
                (try clear hi)
                refine hK.out _ _ ⟨(blk_cell BK679.out 0).trans rfl, (blk_cell BK679.out 1).trans rfl, (blk_cell BK689.out 0).trans rfl, (blk_cell BK689.out 1).trans rfl, (blk_cell BK680.out 0).trans rfl, (blk_cell BK680.out 1).trans rfl, (blk_cell BK690.out 0).trans rfl, (blk_cell BK690.out 1).trans rfl, (blk_cell BK661.out 0).trans rfl, (blk_cell BK661.out 1).trans rfl⟩ (fun hHeld => ?_)
                clear hK K
                refine norm_ (a' := ?_) ?_ ?_
                rotate_left
                · show Act.put _ (some 61) _ = _
                  simp only [Act.put, List.setIfInBounds_toArray, List.set_cons_zero, List.set_cons_succ, i64_w, i32_w]
                  rfl
                refine pure_ (i := 21) (N := some 62) (v := ?_) (a' := ?_) #[true, true, true, true, true, true, true, true, true, true, true, true, true, true, true, true, true, true, true, true, true, true, true, false, false, false, false, false, false, false, false, false, false, false, false, false, false, false, false, false, false, false, false, false, false, false, false] rfl rfl (any_of HT_.out (by kernel_rfl)) (fun _ _ _ h => h) (Or.inl ⟨by rfl, ?_⟩) ?_ ?_
                rotate_left
                · intro w'
                  go_simp
                  with_reducible rfl
                rotate_left
                · simp only [Act.put, List.setIfInBounds_toArray, List.set_cons_zero, List.set_cons_succ, i64_w, i32_w]
                  rfl
                refine one_ (i := 23) (N := some 64) #[true, true, true, true, true, true, true, true, true, true, true, true, true, true, true, true, true, true, true, true, true, true, true, true, false, false, false, false, false, false, false, false, false, false, false, false, false, false, false, false, false, false, false, false, false, false, false] rfl rfl (one_of HT_.out (by kernel_rfl)) (by decide) (fun K hK => ?_)
                refine goes_ Try.func34 (by kernel_rfl) rfl #[.agg #[.slice Ao30 t663.length co30, .int .i64 a0_1]] (by rfl) rfl rfl (by (try simp only [List.map_toArray, List.map_cons, List.map_nil]); first | done | rfl | (simp only [List.length_drop, List.length_take]; rfl)) ?_
                with_reducible refine (tattleref08_May.calls k _ _ t663 a0_1 t693 _ ?side1 ?side2 A15.out).mono ?_
                (case side1 => repeat (first | exact (Kd.V_reads' HO665.out).2.2 | (with_reducible refine Kd.C_alloc ?_ _) | (with_reducible refine Kd.C_drewN ?_ _) | (with_reducible refine Kd.C_drew ?_)))
                (case side2 => exact (Kd.V_reads' HO665.out).2.1)
                rintro e w73 ⟨rfl, hb⟩
                refine ⟨_, rfl, ?_⟩
                have n0_ := Aside0.mk (Kd.V_below (by (with_reducible repeat (first | apply Kd.V_alloc | apply Kd.V_drewN | apply Kd.V_drew)); exact HO665.out) hb)
                have n1_ := Aside0.mk (Kd.V_below (by (with_reducible repeat (first | apply Kd.V_alloc | apply Kd.V_drewN | apply Kd.V_drew)); exact HO670.out) hb)
                have n2_ := Aside0.mk (Kd.V_below (by (with_reducible repeat (first | apply Kd.V_alloc | apply Kd.V_drewN | apply Kd.V_drew)); exact HO674.out) hb)
                have n3_ := Aside0.mk (Kd.V_below (by (with_reducible repeat (first | apply Kd.V_alloc | apply Kd.V_drewN | apply Kd.V_drew)); exact HO684.out) hb)
                have n4_ := Aside0.mk (blk_below (g := gb661) (o := .cells #[.slice Ao30 t663.length co30, .int .i64 a0_1] 49 (0, 0)) (by (with_reducible repeat (first | refine blk_drewN ?_ _ | refine blk_drew ?_ | refine blk_alloc ?_ _)); exact BK661.out) hb)
                have n5_ := Aside0.mk (blk_below (g := gb662) (o := .cells #[.string t666, .int .i64 t667] 23 (0, 0)) (by (with_reducible repeat (first | refine blk_drewN ?_ _ | refine blk_drew ?_ | refine blk_alloc ?_ _)); exact BK662.out) hb)
                have n6_ := Aside0.mk (blk_below (g := gb679) (o := .cells #[.slice Ao42 t672.length co42, .int .i64 t675] 49 (0, 0)) (by (with_reducible repeat (first | refine blk_drewN ?_ _ | refine blk_drew ?_ | refine blk_alloc ?_ _)); exact BK679.out) hb)
                have n7_ := Aside0.mk (blk_below (g := gb680) (o := .cells #[.string t676, .int .i64 t677] 23 (0, 0)) (by (with_reducible repeat (first | refine blk_drewN ?_ _ | refine blk_drew ?_ | refine blk_alloc ?_ _)); exact BK680.out) hb)
                have n8_ := Aside0.mk (blk_below (g := gb689) (o := .cells #[.slice Ao57 t682.length co57, .int .i64 t685] 49 (0, 0)) (by (with_reducible repeat (first | refine blk_drewN ?_ _ | refine blk_drew ?_ | refine blk_alloc ?_ _)); exact BK689.out) hb)
                have n9_ := Aside0.mk (blk_below (g := gb690) (o := .cells #[.string t686, .int .i64 t687] 23 (0, 0)) (by (with_reducible repeat (first | refine blk_drewN ?_ _ | refine blk_drew ?_ | refine blk_alloc ?_ _)); exact BK690.out) hb)
                have n10_ := Aside0.mk (below_step (by repeat (first | (with_reducible first | exact HB.out | apply below_alloc | apply pw_below_drewN | apply below_drew1 | refine below_set ?_ GE661.out | refine below_set ?_ GE662.out | refine below_set ?_ GE679.out | refine below_set ?_ GE680.out | refine below_set ?_ GE689.out | refine below_set ?_ GE690.out) | exact HB.out)) hb)
                clear HO665
                clear HO670
                clear HO674
                clear HO684
                clear BK661
                clear BK662
                clear BK679
                clear BK680
                clear BK689
                clear BK690
                clear HB
                have HO665 := n0_
                have HO670 := n1_
                have HO674 := n2_
                have HO684 := n3_
                have BK661 := n4_
                have BK662 := n5_
                have BK679 := n6_
                have BK680 := n7_
                have BK689 := n8_
                have BK690 := n9_
                have HB := n10_
                clear n0_ n1_ n2_ n3_ n4_ n5_ n6_ n7_ n8_ n9_ n10_
                (try clear hb)
                (try clear hb2)
                (try clear hk)
                (try clear hi)
                refine hK.out _ _ ⟨(blk_cell BK679.out 0).trans rfl, (blk_cell BK679.out 1).trans rfl, (blk_cell BK689.out 0).trans rfl, (blk_cell BK689.out 1).trans rfl, (blk_cell BK680.out 0).trans rfl, (blk_cell BK680.out 1).trans rfl, (blk_cell BK690.out 0).trans rfl, (blk_cell BK690.out 1).trans rfl, (blk_cell BK661.out 0).trans rfl, (blk_cell BK661.out 1).trans rfl⟩ (fun hHeld => ?_)
                clear hK K
                refine norm_ (a' := ?_) ?_ ?_
                rotate_left
                · show Act.put _ (some 64) _ = _
                  simp only [Act.put, List.setIfInBounds_toArray, List.set_cons_zero, List.set_cons_succ, i64_w, i32_w]
                  rfl
                refine pure_ (i := 24) (N := some 65) (v := ?_) (a' := ?_) #[true, true, true, true, true, true, true, true, true, true, true, true, true, true, true, true, true, true, true, true, true, true, true, true, true, false, false, false, false, false, false, false, false, false, false, false, false, false, false, false, false, false, false, false, false, false, false] rfl rfl (any_of HT_.out (by kernel_rfl)) (fun _ _ _ h => h) (Or.inl ⟨by rfl, ?_⟩) ?_ ?_
                rotate_left
                · intro w'
                  go_simp
                  with_reducible rfl
                rotate_left
                · simp only [Act.put, List.setIfInBounds_toArray, List.set_cons_zero, List.set_cons_succ, i64_w, i32_w]
                  rfl
                refine pure_ (i := 25) (N := some 66) (v := ?_) (a' := ?_) #[true, true, true, true, true, true, true, true, true, true, true, true, true, true, true, true, true, true, true, true, true, true, true, true, true, true, false, false, false, false, false, false, false, false, false, false, false, false, false, false, false, false, false, false, false, false, false] rfl rfl (any_of HT_.out (by kernel_rfl)) (fun _ _ _ h => h) (Or.inl ⟨by rfl, ?_⟩) ?_ ?_
                rotate_left
                · intro w'
                  go_simp
                  with_reducible rfl
                rotate_left
                · simp only [Act.put, List.setIfInBounds_toArray, List.set_cons_zero, List.set_cons_succ, i64_w, i32_w]
                  rfl
                refine pure_ (i := 26) (N := some 67) (v := ?_) (a' := ?_) #[true, true, true, true, true, true, true, true, true, true, true, true, true, true, true, true, true, true, true, true, true, true, true, true, true, true, true, false, false, false, false, false, false, false, false, false, false, false, false, false, false, false, false, false, false, false, false] rfl rfl (any_of HT_.out (by kernel_rfl)) (fun _ _ _ h => h) (Or.inl ⟨by rfl, ?_⟩) ?_ ?_
                rotate_left
                · intro w'
                  go_simp
                  with_reducible rfl
                rotate_left
                · simp only [Act.put, List.setIfInBounds_toArray, List.set_cons_zero, List.set_cons_succ, i64_w, i32_w]
                  rfl
                refine pure_ (i := 27) (N := some 68) (v := ?_) (a' := ?_) #[true, true, true, true, true, true, true, true, true, true, true, true, true, true, true, true, true, true, true, true, true, true, true, true, true, true, true, true, false, false, false, false, false, false, false, false, false, false, false, false, false, false, false, false, false, false, false] rfl rfl (any_of HT_.out (by kernel_rfl)) (fun _ _ _ h => h) (Or.inl ⟨by rfl, ?_⟩) ?_ ?_
                rotate_left
                · intro w'
                  go_simp
                  with_reducible rfl
                rotate_left
                · simp only [Act.put, List.setIfInBounds_toArray, List.set_cons_zero, List.set_cons_succ, i64_w, i32_w]
                  rfl
                refine pure_ (i := 30) (N := some 71) (v := ?_) (a' := ?_) #[true, true, true, true, true, true, true, true, true, true, true, true, true, true, true, true, true, true, true, true, true, true, true, true, true, true, true, true, false, false, true, false, false, false, false, false, false, false, false, false, false, false, false, false, false, false, false] rfl rfl (any_of HT_.out (by kernel_rfl)) (fun _ _ _ h => h) (Or.inl ⟨by rfl, ?_⟩) ?_ ?_
                rotate_left
                · intro w'
                  go_simp
                  with_reducible rfl
                rotate_left
                · simp only [Act.put, List.setIfInBounds_toArray, List.set_cons_zero, List.set_cons_succ, i64_w, i32_w]
                  rfl
                refine one_ (i := 28) (N := some 69) #[true, true, true, true, true, true, true, true, true, true, true, true, true, true, true, true, true, true, true, true, true, true, true, true, true, true, true, true, true, false, true, false, false, false, false, false, false, false, false, false, false, false, false, false, false, false, false] rfl rfl (one_of HT_.out (by kernel_rfl)) (by decide) (fun K hK => ?_)
                refine goes_ Try.func28 (by kernel_rfl) rfl #[.slice Ao38 t668.length co38] (by rfl) rfl rfl (by (try simp only [List.map_toArray, List.map_cons, List.map_nil]); first | done | rfl | (simp only [List.length_drop, List.length_take]; rfl)) ?_
                with_reducible refine (turn_Nodes.calls k _ _ t668 t694 _ ?side1 ?side2 A17.out).mono ?_
                (case side1 => repeat (first | exact (Kd.V_reads' HO670.out).2.2 | (with_reducible refine Kd.C_alloc ?_ _) | (with_reducible refine Kd.C_drewN ?_ _) | (with_reducible refine Kd.C_drew ?_)))
                (case side2 => exact (Kd.V_reads' HO670.out).2.1)
                rintro e w74 ⟨rfl, hb⟩
                refine ⟨_, rfl, ?_⟩
                have n0_ := Aside0.mk (Kd.V_below (by (with_reducible repeat (first | apply Kd.V_alloc | apply Kd.V_drewN | apply Kd.V_drew)); exact HO665.out) hb)
                have n1_ := Aside0.mk (Kd.V_below (by (with_reducible repeat (first | apply Kd.V_alloc | apply Kd.V_drewN | apply Kd.V_drew)); exact HO670.out) hb)
                have n2_ := Aside0.mk (Kd.V_below (by (with_reducible repeat (first | apply Kd.V_alloc | apply Kd.V_drewN | apply Kd.V_drew)); exact HO674.out) hb)
                have n3_ := Aside0.mk (Kd.V_below (by (with_reducible repeat (first | apply Kd.V_alloc | apply Kd.V_drewN | apply Kd.V_drew)); exact HO684.out) hb)
                have n4_ := Aside0.mk (blk_below (g := gb661) (o := .cells #[.slice Ao30 t663.length co30, .int .i64 a0_1] 49 (0, 0)) (by (with_reducible repeat (first | refine blk_drewN ?_ _ | refine blk_drew ?_ | refine blk_alloc ?_ _)); exact BK661.out) hb)
                have n5_ := Aside0.mk (blk_below (g := gb662) (o := .cells #[.string t666, .int .i64 t667] 23 (0, 0)) (by (with_reducible repeat (first | refine blk_drewN ?_ _ | refine blk_drew ?_ | refine blk_alloc ?_ _)); exact BK662.out) hb)
                have n6_ := Aside0.mk (blk_below (g := gb679) (o := .cells #[.slice Ao42 t672.length co42, .int .i64 t675] 49 (0, 0)) (by (with_reducible repeat (first | refine blk_drewN ?_ _ | refine blk_drew ?_ | refine blk_alloc ?_ _)); exact BK679.out) hb)
                have n7_ := Aside0.mk (blk_below (g := gb680) (o := .cells #[.string t676, .int .i64 t677] 23 (0, 0)) (by (with_reducible repeat (first | refine blk_drewN ?_ _ | refine blk_drew ?_ | refine blk_alloc ?_ _)); exact BK680.out) hb)
                have n8_ := Aside0.mk (blk_below (g := gb689) (o := .cells #[.slice Ao57 t682.length co57, .int .i64 t685] 49 (0, 0)) (by (with_reducible repeat (first | refine blk_drewN ?_ _ | refine blk_drew ?_ | refine blk_alloc ?_ _)); exact BK689.out) hb)
                have n9_ := Aside0.mk (blk_below (g := gb690) (o := .cells #[.string t686, .int .i64 t687] 23 (0, 0)) (by (with_reducible repeat (first | refine blk_drewN ?_ _ | refine blk_drew ?_ | refine blk_alloc ?_ _)); exact BK690.out) hb)
                have n10_ := Aside0.mk (below_step (by repeat (first | (with_reducible first | exact HB.out | apply below_alloc | apply pw_below_drewN | apply below_drew1 | refine below_set ?_ GE661.out | refine below_set ?_ GE662.out | refine below_set ?_ GE679.out | refine below_set ?_ GE680.out | refine below_set ?_ GE689.out | refine below_set ?_ GE690.out) | exact HB.out)) hb)
                clear HO665
                clear HO670
                clear HO674
                clear HO684
                clear BK661
                clear BK662
                clear BK679
                clear BK680
                clear BK689
                clear BK690
                clear HB
                have HO665 := n0_
                have HO670 := n1_
                have HO674 := n2_
                have HO684 := n3_
                have BK661 := n4_
                have BK662 := n5_
                have BK679 := n6_
                have BK680 := n7_
                have BK689 := n8_
                have BK690 := n9_
                have HB := n10_
                clear n0_ n1_ n2_ n3_ n4_ n5_ n6_ n7_ n8_ n9_ n10_
                (try clear hb)
                (try clear hb2)
                (try clear hk)
                (try clear hi)
                refine hK.out _ _ ⟨(blk_cell BK679.out 0).trans rfl, (blk_cell BK679.out 1).trans rfl, (blk_cell BK689.out 0).trans rfl, (blk_cell BK689.out 1).trans rfl, (blk_cell BK680.out 0).trans rfl, (blk_cell BK680.out 1).trans rfl, (blk_cell BK690.out 0).trans rfl, (blk_cell BK690.out 1).trans rfl, (blk_cell BK661.out 0).trans rfl, (blk_cell BK661.out 1).trans rfl⟩ (fun hHeld => ?_)
                clear hK K
                refine norm_ (a' := ?_) ?_ ?_
                rotate_left
                · show Act.put _ (some 69) _ = _
                  simp only [Act.put, List.setIfInBounds_toArray, List.set_cons_zero, List.set_cons_succ, i64_w, i32_w]
                  rfl
                refine pure_ (i := 29) (N := some 70) (v := ?_) (a' := ?_) #[true, true, true, true, true, true, true, true, true, true, true, true, true, true, true, true, true, true, true, true, true, true, true, true, true, true, true, true, true, true, true, false, false, false, false, false, false, false, false, false, false, false, false, false, false, false, false] rfl rfl (any_of HT_.out (by kernel_rfl)) (fun _ _ _ h => h) (Or.inl ⟨by rfl, ?_⟩) ?_ ?_
                rotate_left
                · intro w'
                  go_simp
                  with_reducible rfl
                rotate_left
                · simp only [Act.put, List.setIfInBounds_toArray, List.set_cons_zero, List.set_cons_succ, i64_w, i32_w]
                  rfl
                refine one_ (i := 31) (N := some 72) #[true, true, true, true, true, true, true, true, true, true, true, true, true, true, true, true, true, true, true, true, true, true, true, true, true, true, true, true, true, true, true, true, false, false, false, false, false, false, false, false, false, false, false, false, false, false, false] rfl rfl (one_of HT_.out (by kernel_rfl)) (by decide) (fun K hK => ?_)
                refine goes_ Try.func35 (by kernel_rfl) rfl #[.slice Ao38 t668.length co38] (by rfl) rfl rfl (by (try simp only [List.map_toArray, List.map_cons, List.map_nil]); first | done | rfl | (simp only [List.length_drop, List.length_take]; rfl)) ?_
                with_reducible refine (tattleref08_Nodes.calls k _ _ t668 t695 _ ?side1 ?side2 A18.out).mono ?_
                (case side1 => repeat (first | exact (Kd.V_reads' HO670.out).2.2 | (with_reducible refine Kd.C_alloc ?_ _) | (with_reducible refine Kd.C_drewN ?_ _) | (with_reducible refine Kd.C_drew ?_)))
                (case side2 => exact (Kd.V_reads' HO670.out).2.1)
                rintro e w' ⟨rfl, ⟨nd, rfl⟩⟩
                refine ⟨_, rfl, ?_⟩
                refine hK.out _ _ ⟨(blk_cell BK679.out 0).trans rfl, (blk_cell BK679.out 1).trans rfl, (blk_cell BK689.out 0).trans rfl, (blk_cell BK689.out 1).trans rfl, (blk_cell BK680.out 0).trans rfl, (blk_cell BK680.out 1).trans rfl, (blk_cell BK690.out 0).trans rfl, (blk_cell BK690.out 1).trans rfl, (blk_cell BK661.out 0).trans rfl, (blk_cell BK661.out 1).trans rfl⟩ (fun hHeld => ?_)
                clear hK K
                refine norm_ (a' := ?_) ?_ ?_
                rotate_left
                · show Act.put _ (some 72) _ = _
                  simp only [Act.put, List.setIfInBounds_toArray, List.set_cons_zero, List.set_cons_succ, i64_w, i32_w]
                  rfl
                refine pure_ (i := 32) (N := some 73) (v := ?_) (a' := ?_) #[true, true, true, true, true, true, true, true, true, true, true, true, true, true, true, true, true, true, true, true, true, true, true, true, true, true, true, true, true, true, true, true, true, false, false, false, false, false, false, false, false, false, false, false, false, false, false] rfl rfl (any_of HT_.out (by kernel_rfl)) (fun _ _ _ h => h) (Or.inl ⟨by rfl, ?_⟩) ?_ ?_
                rotate_left
                · intro w'
                  go_simp
                  with_reducible rfl
                rotate_left
                · simp only [Act.put, List.setIfInBounds_toArray, List.set_cons_zero, List.set_cons_succ, i64_w, i32_w]
                  rfl
                refine pure_ (i := 33) (N := some 74) (v := ?_) (a' := ?_) #[true, true, true, true, true, true, true, true, true, true, true, true, true, true, true, true, true, true, true, true, true, true, true, true, true, true, true, true, true, true, true, true, true, true, false, false, false, false, false, false, false, false, false, false, false, false, false] rfl rfl (any_of HT_.out (by kernel_rfl)) (fun _ _ _ h => h) (Or.inl ⟨by rfl, ?_⟩) ?_ ?_
                rotate_left
                · intro w'
                  go_simp
                  with_reducible rfl
                rotate_left
                · simp only [Act.put, List.setIfInBounds_toArray, List.set_cons_zero, List.set_cons_succ, i64_w, i32_w]
                  rfl
                refine pure_ (i := 34) (N := some 75) (v := ?_) (a' := ?_) #[true, true, true, true, true, true, true, true, true, true, true, true, true, true, true, true, true, true, true, true, true, true, true, true, true, true, true, true, true, true, true, true, true, true, true, false, false, false, false, false, false, false, false, false, false, false, false] rfl rfl (any_of HT_.out (by kernel_rfl)) (fun _ _ _ h => h) (Or.inl ⟨by rfl, ?_⟩) ?_ ?_
                rotate_left
                · intro w'
                  go_simp
                  with_reducible rfl
                rotate_left
                · simp only [Act.put, List.setIfInBounds_toArray, List.set_cons_zero, List.set_cons_succ, i64_w, i32_w]
                  rfl
                refine take_ (i := 35) (N := some 76) (v := ?_) (a' := ?_) #[true, true, true, true, true, true, true, true, true, true, true, true, true, true, true, true, true, true, true, true, true, true, true, true, true, true, true, true, true, true, true, true, true, true, true, true, false, false, false, false, false, false, false, false, false, false, false] rfl rfl (take_ofW HT_.out HW_.out (by kernel_rfl)) (fun _ _ _ h => h) (Or.inl ⟨by rfl, ?_⟩) hHeld ?_ ?_
                rotate_left
                · rintro w' ⟨s0, s1, s2, s3, s4, s5, s6, s7, s8, s9⟩
                  go_simp
                  with_reducible rfl
                rotate_left
                · simp only [Act.put, List.setIfInBounds_toArray, List.set_cons_zero, List.set_cons_succ, i64_w, i32_w]
                  rfl
                refine take_ (i := 36) (N := some 77) (v := ?_) (a' := ?_) #[true, true, true, true, true, true, true, true, true, true, true, true, true, true, true, true, true, true, true, true, true, true, true, true, true, true, true, true, true, true, true, true, true, true, true, true, true, false, false, false, false, false, false, false, false, false, false] rfl rfl (take_ofW HT_.out HW_.out (by kernel_rfl)) (fun _ _ _ h => h) (Or.inl ⟨by rfl, ?_⟩) hHeld ?_ ?_
                rotate_left
                · rintro w' ⟨s0, s1, s2, s3, s4, s5, s6, s7, s8, s9⟩
                  go_simp
                  with_reducible rfl
                rotate_left
                · simp only [Act.put, List.setIfInBounds_toArray, List.set_cons_zero, List.set_cons_succ, i64_w, i32_w]
                  rfl
                refine take_ (i := 38) (N := some 79) (v := ?_) (a' := ?_) #[true, true, true, true, true, true, true, true, true, true, true, true, true, true, true, true, true, true, true, true, true, true, true, true, true, true, true, true, true, true, true, true, true, true, true, true, true, false, true, false, false, false, false, false, false, false, false] rfl rfl (take_ofW HT_.out HW_.out (by kernel_rfl)) (fun _ _ _ h => h) (Or.inl ⟨by rfl, ?_⟩) hHeld ?_ ?_
                rotate_left
                · rintro w' ⟨s0, s1, s2, s3, s4, s5, s6, s7, s8, s9⟩
                  go_simp
                  with_reducible rfl
                rotate_left
                · simp only [Act.put, List.setIfInBounds_toArray, List.set_cons_zero, List.set_cons_succ, i64_w, i32_w]
                  rfl
                refine take_ (i := 39) (N := some 80) (v := ?_) (a' := ?_) #[true, true, true, true, true, true, true, true, true, true, true, true, true, true, true, true, true, true, true, true, true, true, true, true, true, true, true, true, true, true, true, true, true, true, true, true, true, false, true, true, false, false, false, false, false, false, false] rfl rfl (take_ofW HT_.out HW_.out (by kernel_rfl)) (fun _ _ _ h => h) (Or.inl ⟨by rfl, ?_⟩) hHeld ?_ ?_
                rotate_left
                · rintro w' ⟨s0, s1, s2, s3, s4, s5, s6, s7, s8, s9⟩
                  go_simp
                  with_reducible rfl
                rotate_left
                · simp only [Act.put, List.setIfInBounds_toArray, List.set_cons_zero, List.set_cons_succ, i64_w, i32_w]
                  rfl
                refine one_ (i := 37) (N := some 78) #[true, true, true, true, true, true, true, true, true, true, true, true, true, true, true, true, true, true, true, true, true, true, true, true, true, true, true, true, true, true, true, true, true, true, true, true, true, true, true, true, false, false, false, false, false, false, false] rfl rfl (one_of HT_.out (by kernel_rfl)) (by decide) (fun K hK => ?_)
                refine goes_ Try.func36 (by kernel_rfl) rfl #[.agg #[.slice Ao30 t663.length co30, .int .i64 a0_1], .agg #[.slice Ao42 t672.length co42, .int .i64 t675]] (by rfl) rfl rfl (by (try simp only [List.map_toArray, List.map_cons, List.map_nil]); first | done | rfl | (simp only [List.length_drop, List.length_take]; rfl)) ?_
                with_reducible refine (turn_Same.calls k _ _ t663 a0_1 _ _ t672 t675 t696 _ ?side1 ?side2 ?side3 ?side4 A20.out).mono ?_
                (case side1 => repeat (first | exact (Kd.V_reads' HO665.out).2.2 | (with_reducible refine Kd.C_alloc ?_ _) | (with_reducible refine Kd.C_drewN ?_ _) | (with_reducible refine Kd.C_drew ?_)))
                (case side2 => exact (Kd.V_reads' HO665.out).2.1)
                (case side3 => repeat (first | exact (Kd.V_reads' HO674.out).2.2 | (with_reducible refine Kd.C_alloc ?_ _) | (with_reducible refine Kd.C_drewN ?_ _) | (with_reducible refine Kd.C_drew ?_)))
                (case side4 => exact (Kd.V_reads' HO674.out).2.1)
                rintro e w75 ⟨rfl, hb⟩
                refine ⟨_, rfl, ?_⟩
                have n0_ := Aside0.mk (Kd.V_below (by (with_reducible repeat (first | apply Kd.V_alloc | apply Kd.V_drewN | apply Kd.V_drew)); exact HO665.out) hb)
                have n1_ := Aside0.mk (Kd.V_below (by (with_reducible repeat (first | apply Kd.V_alloc | apply Kd.V_drewN | apply Kd.V_drew)); exact HO670.out) hb)
                have n2_ := Aside0.mk (Kd.V_below (by (with_reducible repeat (first | apply Kd.V_alloc | apply Kd.V_drewN | apply Kd.V_drew)); exact HO674.out) hb)
                have n3_ := Aside0.mk (Kd.V_below (by (with_reducible repeat (first | apply Kd.V_alloc | apply Kd.V_drewN | apply Kd.V_drew)); exact HO684.out) hb)
                have n4_ := Aside0.mk (blk_below (g := gb661) (o := .cells #[.slice Ao30 t663.length co30, .int .i64 a0_1] 49 (0, 0)) (by (with_reducible repeat (first | refine blk_drewN ?_ _ | refine blk_drew ?_ | refine blk_alloc ?_ _)); exact BK661.out) hb)
                have n5_ := Aside0.mk (blk_below (g := gb662) (o := .cells #[.string t666, .int .i64 t667] 23 (0, 0)) (by (with_reducible repeat (first | refine blk_drewN ?_ _ | refine blk_drew ?_ | refine blk_alloc ?_ _)); exact BK662.out) hb)
                have n6_ := Aside0.mk (blk_below (g := gb679) (o := .cells #[.slice Ao42 t672.length co42, .int .i64 t675] 49 (0, 0)) (by (with_reducible repeat (first | refine blk_drewN ?_ _ | refine blk_drew ?_ | refine blk_alloc ?_ _)); exact BK679.out) hb)
                have n7_ := Aside0.mk (blk_below (g := gb680) (o := .cells #[.string t676, .int .i64 t677] 23 (0, 0)) (by (with_reducible repeat (first | refine blk_drewN ?_ _ | refine blk_drew ?_ | refine blk_alloc ?_ _)); exact BK680.out) hb)
                have n8_ := Aside0.mk (blk_below (g := gb689) (o := .cells #[.slice Ao57 t682.length co57, .int .i64 t685] 49 (0, 0)) (by (with_reducible repeat (first | refine blk_drewN ?_ _ | refine blk_drew ?_ | refine blk_alloc ?_ _)); exact BK689.out) hb)
                have n9_ := Aside0.mk (blk_below (g := gb690) (o := .cells #[.string t686, .int .i64 t687] 23 (0, 0)) (by (with_reducible repeat (first | refine blk_drewN ?_ _ | refine blk_drew ?_ | refine blk_alloc ?_ _)); exact BK690.out) hb)
                have n10_ := Aside0.mk (below_step (by repeat (first | (with_reducible first | exact HB.out | apply below_alloc | apply pw_below_drewN | apply below_drew1 | refine below_set ?_ GE661.out | refine below_set ?_ GE662.out | refine below_set ?_ GE679.out | refine below_set ?_ GE680.out | refine below_set ?_ GE689.out | refine below_set ?_ GE690.out) | exact HB.out)) hb)
                clear HO665
                clear HO670
                clear HO674
                clear HO684
                clear BK661
                clear BK662
                clear BK679
                clear BK680
                clear BK689
                clear BK690
                clear HB
                have HO665 := n0_
                have HO670 := n1_
                have HO674 := n2_
                have HO684 := n3_
                have BK661 := n4_
                have BK662 := n5_
                have BK679 := n6_
                have BK680 := n7_
                have BK689 := n8_
                have BK690 := n9_
                have HB := n10_
                clear n0_ n1_ n2_ n3_ n4_ n5_ n6_ n7_ n8_ n9_ n10_
                (try clear hb)
                (try clear hb2)
                (try clear hk)
                (try clear hi)
                refine hK.out _ _ ⟨(blk_cell BK679.out 0).trans rfl, (blk_cell BK679.out 1).trans rfl, (blk_cell BK689.out 0).trans rfl, (blk_cell BK689.out 1).trans rfl, (blk_cell BK680.out 0).trans rfl, (blk_cell BK680.out 1).trans rfl, (blk_cell BK690.out 0).trans rfl, (blk_cell BK690.out 1).trans rfl, (blk_cell BK661.out 0).trans rfl, (blk_cell BK661.out 1).trans rfl⟩ (fun hHeld => ?_)
                clear hK K
                refine norm_ (a' := ?_) ?_ ?_
                rotate_left
                · show Act.put _ (some 78) _ = _
                  simp only [Act.put, List.setIfInBounds_toArray, List.set_cons_zero, List.set_cons_succ, i64_w, i32_w]
                  rfl
                refine one_ (i := 40) (N := some 81) #[true, true, true, true, true, true, true, true, true, true, true, true, true, true, true, true, true, true, true, true, true, true, true, true, true, true, true, true, true, true, true, true, true, true, true, true, true, true, true, true, true, false, false, false, false, false, false] rfl rfl (one_of HT_.out (by kernel_rfl)) (by decide) (fun K hK => ?_)
                refine goes_ Try.func32 (by kernel_rfl) rfl #[.agg #[.slice Ao30 t663.length co30, .int .i64 a0_1], .agg #[.slice Ao42 t672.length co42, .int .i64 t675]] (by rfl) rfl rfl (by (try simp only [List.map_toArray, List.map_cons, List.map_nil]); first | done | rfl | (simp only [List.length_drop, List.length_take]; rfl)) ?_
                with_reducible refine (tattleref08_Same.calls k _ _ t663 a0_1 _ _ t672 t675 t697 _ ?side1 ?side2 ?side3 ?side4 A21.out).mono ?_
                (case side1 => repeat (first | exact (Kd.V_reads' HO665.out).2.2 | (with_reducible refine Kd.C_alloc ?_ _) | (with_reducible refine Kd.C_drewN ?_ _) | (with_reducible refine Kd.C_drew ?_)))
                (case side2 => exact (Kd.V_reads' HO665.out).2.1)
                (case side3 => repeat (first | exact (Kd.V_reads' HO674.out).2.2 | (with_reducible refine Kd.C_alloc ?_ _) | (with_reducible refine Kd.C_drewN ?_ _) | (with_reducible refine Kd.C_drew ?_)))
                (case side4 => exact (Kd.V_reads' HO674.out).2.1)
                rintro e w76 ⟨rfl, hb⟩
                refine ⟨_, rfl, ?_⟩
                have n0_ := Aside0.mk (Kd.V_below (by (with_reducible repeat (first | apply Kd.V_alloc | apply Kd.V_drewN | apply Kd.V_drew)); exact HO665.out) hb)
                have n1_ := Aside0.mk (Kd.V_below (by (with_reducible repeat (first | apply Kd.V_alloc | apply Kd.V_drewN | apply Kd.V_drew)); exact HO670.out) hb)
                have n2_ := Aside0.mk (Kd.V_below (by (with_reducible repeat (first | apply Kd.V_alloc | apply Kd.V_drewN | apply Kd.V_drew)); exact HO674.out) hb)
                have n3_ := Aside0.mk (Kd.V_below (by (with_reducible repeat (first | apply Kd.V_alloc | apply Kd.V_drewN | apply Kd.V_drew)); exact HO684.out) hb)
                have n4_ := Aside0.mk (blk_below (g := gb661) (o := .cells #[.slice Ao30 t663.length co30, .int .i64 a0_1] 49 (0, 0)) (by (with_reducible repeat (first | refine blk_drewN ?_ _ | refine blk_drew ?_ | refine blk_alloc ?_ _)); exact BK661.out) hb)
                have n5_ := Aside0.mk (blk_below (g := gb662) (o := .cells #[.string t666, .int .i64 t667] 23 (0, 0)) (by (with_reducible repeat (first | refine blk_drewN ?_ _ | refine blk_drew ?_ | refine blk_alloc ?_ _)); exact BK662.out) hb)
                have n6_ := Aside0.mk (blk_below (g := gb679) (o := .cells #[.slice Ao42 t672.length co42, .int .i64 t675] 49 (0, 0)) (by (with_reducible repeat (first | refine blk_drewN ?_ _ | refine blk_drew ?_ | refine blk_alloc ?_ _)); exact BK679.out) hb)
                have n7_ := Aside0.mk (blk_below (g := gb680) (o := .cells #[.string t676, .int .i64 t677] 23 (0, 0)) (by (with_reducible repeat (first | refine blk_drewN ?_ _ | refine blk_drew ?_ | refine blk_alloc ?_ _)); exact BK680.out) hb)
                have n8_ := Aside0.mk (blk_below (g := gb689) (o := .cells #[.slice Ao57 t682.length co57, .int .i64 t685] 49 (0, 0)) (by (with_reducible repeat (first | refine blk_drewN ?_ _ | refine blk_drew ?_ | refine blk_alloc ?_ _)); exact BK689.out) hb)
                have n9_ := Aside0.mk (blk_below (g := gb690) (o := .cells #[.string t686, .int .i64 t687] 23 (0, 0)) (by (with_reducible repeat (first | refine blk_drewN ?_ _ | refine blk_drew ?_ | refine blk_alloc ?_ _)); exact BK690.out) hb)
                have n10_ := Aside0.mk (below_step (by repeat (first | (with_reducible first | exact HB.out | apply below_alloc | apply pw_below_drewN | apply below_drew1 | refine below_set ?_ GE661.out | refine below_set ?_ GE662.out | refine below_set ?_ GE679.out | refine below_set ?_ GE680.out | refine below_set ?_ GE689.out | refine below_set ?_ GE690.out) | exact HB.out)) hb)
                clear HO665
                clear HO670
                clear HO674
                clear HO684
                clear BK661
                clear BK662
                clear BK679
                clear BK680
                clear BK689
                clear BK690
                clear HB
                have HO665 := n0_
                have HO670 := n1_
                have HO674 := n2_
                have HO684 := n3_
                have BK661 := n4_
                have BK662 := n5_
                have BK679 := n6_
                have BK680 := n7_
                have BK689 := n8_
                have BK690 := n9_
                have HB := n10_
                clear n0_ n1_ n2_ n3_ n4_ n5_ n6_ n7_ n8_ n9_ n10_
                (try clear hb)
                (try clear hb2)
                (try clear hk)
                (try clear hi)
                refine hK.out _ _ ⟨(blk_cell BK679.out 0).trans rfl, (blk_cell BK679.out 1).trans rfl, (blk_cell BK689.out 0).trans rfl, (blk_cell BK689.out 1).trans rfl, (blk_cell BK680.out 0).trans rfl, (blk_cell BK680.out 1).trans rfl, (blk_cell BK690.out 0).trans rfl, (blk_cell BK690.out 1).trans rfl, (blk_cell BK661.out 0).trans rfl, (blk_cell BK661.out 1).trans rfl⟩ (fun hHeld => ?_)
                clear hK K
                refine norm_ (a' := ?_) ?_ ?_
                rotate_left
                · show Act.put _ (some 81) _ = _
                  simp only [Act.put, List.setIfInBounds_toArray, List.set_cons_zero, List.set_cons_succ, i64_w, i32_w]
                  rfl
                refine pure_ (i := 41) (N := some 82) (v := ?_) (a' := ?_) #[true, true, true, true, true, true, true, true, true, true, true, true, true, true, true, true, true, true, true, true, true, true, true, true, true, true, true, true, true, true, true, true, true, true, true, true, true, true, true, true, true, true, false, false, false, false, false] rfl rfl (any_of HT_.out (by kernel_rfl)) (fun _ _ _ h => h) (Or.inl ⟨by rfl, ?_⟩) ?_ ?_
                rotate_left
                · intro w'
                  go_simp
                  with_reducible rfl
                rotate_left
                · simp only [Act.put, List.setIfInBounds_toArray, List.set_cons_zero, List.set_cons_succ, i64_w, i32_w]
                  rfl
                refine pure_ (i := 42) (N := some 83) (v := ?_) (a' := ?_) #[true, true, true, true, true, true, true, true, true, true, true, true, true, true, true, true, true, true, true, true, true, true, true, true, true, true, true, true, true, true, true, true, true, true, true, true, true, true, true, true, true, true, true, false, false, false, false] rfl rfl (any_of HT_.out (by kernel_rfl)) (fun _ _ _ h => h) (Or.inl ⟨by rfl, ?_⟩) ?_ ?_
                rotate_left
                · intro w'
                  go_simp
                  with_reducible rfl
                rotate_left
                · simp only [Act.put, List.setIfInBounds_toArray, List.set_cons_zero, List.set_cons_succ, i64_w, i32_w]
                  rfl
                refine pure_ (i := 43) (N := some 84) (v := ?_) (a' := ?_) #[true, true, true, true, true, true, true, true, true, true, true, true, true, true, true, true, true, true, true, true, true, true, true, true, true, true, true, true, true, true, true, true, true, true, true, true, true, true, true, true, true, true, true, true, false, false, false] rfl rfl (any_of HT_.out (by kernel_rfl)) (fun _ _ _ h => h) (Or.inl ⟨by rfl, ?_⟩) ?_ ?_
                rotate_left
                · intro w'
                  go_simp
                  with_reducible rfl
                rotate_left
                · simp only [Act.put, List.setIfInBounds_toArray, List.set_cons_zero, List.set_cons_succ, i64_w, i32_w]
                  rfl
                refine one_ (i := 44) (N := some 85) #[true, true, true, true, true, true, true, true, true, true, true, true, true, true, true, true, true, true, true, true, true, true, true, true, true, true, true, true, true, true, true, true, true, true, true, true, true, true, true, true, true, true, true, true, true, false, false] rfl rfl (one_of HT_.out (by kernel_rfl)) (by decide) (fun K hK => ?_)
                refine goes_ Try.func30 (by kernel_rfl) rfl #[] (by rfl) rfl rfl (by (try simp only [List.map_toArray, List.map_cons, List.map_nil]); first | done | rfl | (simp only [List.length_drop, List.length_take]; rfl)) ?_
                with_reducible refine (tattlelaw08_awakeT.calls  t698 _ A23.out).mono ?_
                rintro e w77 ⟨rfl, hb⟩
                refine ⟨_, rfl, ?_⟩
                have n0_ := Aside0.mk (Kd.V_below (by (with_reducible repeat (first | apply Kd.V_alloc | apply Kd.V_drewN | apply Kd.V_drew)); exact HO665.out) hb)
                have n1_ := Aside0.mk (Kd.V_below (by (with_reducible repeat (first | apply Kd.V_alloc | apply Kd.V_drewN | apply Kd.V_drew)); exact HO670.out) hb)
                have n2_ := Aside0.mk (Kd.V_below (by (with_reducible repeat (first | apply Kd.V_alloc | apply Kd.V_drewN | apply Kd.V_drew)); exact HO674.out) hb)
                have n3_ := Aside0.mk (Kd.V_below (by (with_reducible repeat (first | apply Kd.V_alloc | apply Kd.V_drewN | apply Kd.V_drew)); exact HO684.out) hb)
                have n4_ := Aside0.mk (blk_below (g := gb661) (o := .cells #[.slice Ao30 t663.length co30, .int .i64 a0_1] 49 (0, 0)) (by (with_reducible repeat (first | refine blk_drewN ?_ _ | refine blk_drew ?_ | refine blk_alloc ?_ _)); exact BK661.out) hb)
                have n5_ := Aside0.mk (blk_below (g := gb662) (o := .cells #[.string t666, .int .i64 t667] 23 (0, 0)) (by (with_reducible repeat (first | refine blk_drewN ?_ _ | refine blk_drew ?_ | refine blk_alloc ?_ _)); exact BK662.out) hb)
                have n6_ := Aside0.mk (blk_below (g := gb679) (o := .cells #[.slice Ao42 t672.length co42, .int .i64 t675] 49 (0, 0)) (by (with_reducible repeat (first | refine blk_drewN ?_ _ | refine blk_drew ?_ | refine blk_alloc ?_ _)); exact BK679.out) hb)
                have n7_ := Aside0.mk (blk_below (g := gb680) (o := .cells #[.string t676, .int .i64 t677] 23 (0, 0)) (by (with_reducible repeat (first | refine blk_drewN ?_ _ | refine blk_drew ?_ | refine blk_alloc ?_ _)); exact BK680.out) hb)
                have n8_ := Aside0.mk (blk_below (g := gb689) (o := .cells #[.slice Ao57 t682.length co57, .int .i64 t685] 49 (0, 0)) (by (with_reducible repeat (first | refine blk_drewN ?_ _ | refine blk_drew ?_ | refine blk_alloc ?_ _)); exact BK689.out) hb)
                have n9_ := Aside0.mk (blk_below (g := gb690) (o := .cells #[.string t686, .int .i64 t687] 23 (0, 0)) (by (with_reducible repeat (first | refine blk_drewN ?_ _ | refine blk_drew ?_ | refine blk_alloc ?_ _)); exact BK690.out) hb)
                have n10_ := Aside0.mk (below_step (by repeat (first | (with_reducible first | exact HB.out | apply below_alloc | apply pw_below_drewN | apply below_drew1 | refine below_set ?_ GE661.out | refine below_set ?_ GE662.out | refine below_set ?_ GE679.out | refine below_set ?_ GE680.out | refine below_set ?_ GE689.out | refine below_set ?_ GE690.out) | exact HB.out)) hb)
                clear HO665
                clear HO670
                clear HO674
                clear HO684
                clear BK661
                clear BK662
                clear BK679
                clear BK680
                clear BK689
                clear BK690
                clear HB
                have HO665 := n0_
                have HO670 := n1_
                have HO674 := n2_
                have HO684 := n3_
                have BK661 := n4_
                have BK662 := n5_
                have BK679 := n6_
                have BK680 := n7_
                have BK689 := n8_
                have BK690 := n9_
                have HB := n10_
                clear n0_ n1_ n2_ n3_ n4_ n5_ n6_ n7_ n8_ n9_ n10_
                (try clear hb)
                (try clear hb2)
                (try clear hk)
                (try clear hi)
                refine hK.out _ _ ⟨(blk_cell BK679.out 0).trans rfl, (blk_cell BK679.out 1).trans rfl, (blk_cell BK689.out 0).trans rfl, (blk_cell BK689.out 1).trans rfl, (blk_cell BK680.out 0).trans rfl, (blk_cell BK680.out 1).trans rfl, (blk_cell BK690.out 0).trans rfl, (blk_cell BK690.out 1).trans rfl, (blk_cell BK661.out 0).trans rfl, (blk_cell BK661.out 1).trans rfl⟩ (fun hHeld => ?_)
                clear hK K
                refine norm_ (a' := ?_) ?_ ?_
                rotate_left
                · show Act.put _ (some 85) _ = _
                  simp only [Act.put, List.setIfInBounds_toArray, List.set_cons_zero, List.set_cons_succ, i64_w, i32_w]
                  rfl
                refine pure_ (i := 45) (N := some 86) (v := ?_) (a' := ?_) #[true, true, true, true, true, true, true, true, true, true, true, true, true, true, true, true, true, true, true, true, true, true, true, true, true, true, true, true, true, true, true, true, true, true, true, true, true, true, true, true, true, true, true, true, true, true, false] rfl rfl (any_of HT_.out (by kernel_rfl)) (fun _ _ _ h => h) (Or.inl ⟨by rfl, ?_⟩) ?_ ?_
                rotate_left
                · intro w'
                  go_simp
                  with_reducible rfl
                rotate_left
                · simp only [Act.put, List.setIfInBounds_toArray, List.set_cons_zero, List.set_cons_succ, i64_w, i32_w]
                  rfl
                refine pure_ (i := 46) (N := some 6) (v := ?_) (a' := ?_) #[true, true, true, true, true, true, true, true, true, true, true, true, true, true, true, true, true, true, true, true, true, true, true, true, true, true, true, true, true, true, true, true, true, true, true, true, true, true, true, true, true, true, true, true, true, true, true] rfl rfl (any_of HT_.out (by kernel_rfl)) (fun _ _ _ h => h) (Or.inl ⟨by rfl, ?_⟩) ?_ ?_
                rotate_left
                · intro w'
                  go_simp
                  with_reducible rfl
                rotate_left
                · simp only [Act.put, List.setIfInBounds_toArray, List.set_cons_zero, List.set_cons_succ, i64_w, i32_w]
                  rfl
                refine done_ (done_of HT_.out (by kernel_rfl)) ?_
                try go_wp2
                go_ret
                exact ⟨by first | rfl | (simp [errW_none, errW_some] <;> rfl) | (simp [*, errW_none, errW_some] <;> rfl), by repeat (first | (with_reducible first | exact HB.out | apply below_alloc | apply pw_below_drewN | apply below_drew1 | refine below_set ?_ GE661.out | refine below_set ?_ GE662.out | refine below_set ?_ GE679.out | refine below_set ?_ GE680.out | refine below_set ?_ GE689.out | refine below_set ?_ GE690.out) | exact HB.out)⟩
              · rw [if_neg c22] at H
                have c22b0 : (t696 == t697) = false := by simpa using c22
                (try (have c22b1 : decide (t696 = t697) = false := by simpa using c22))
                (try (have c22b2 : (t696 == t697) = false := by simpa using c22))
                (try (have c22b3 : ¬ (t696 = t697) := by simpa using c22))
                clear c22
                exact absurd ((Option.some.inj H).trans hrt.out) (by decide)
            · rw [if_neg c19] at H
              have c19b0 : ((t694 == 0) == t695) = false := by simpa using c19
              (try (have c19b1 : decide ((t694 == 0) = t695) = false := by simpa using c19))
              (try (have c19b2 : ((t694 == 0) == t695) = false := by simpa using c19))
              (try (have c19b3 : ¬ ((t694 == 0) = t695) := by simpa using c19))
              clear c19
              exact absurd ((Option.some.inj H).trans hrt.out) (by decide)
          · rw [if_neg c16] at H
            have c16b0 : ((t692 == 0) == t693) = false := by simpa using c16
            (try (have c16b1 : decide ((t692 == 0) = t693) = false := by simpa using c16))
            (try (have c16b2 : ((t692 == 0) == t693) = false := by simpa using c16))
            (try (have c16b3 : ¬ ((t692 == 0) = t693) := by simpa using c16))
            clear c16
            exact absurd ((Option.some.inj H).trans hrt.out) (by decide)
        · rw [if_neg c13] at H
          have c13b0 : (t678 == t688) = false := beq_eq_false_iff_ne.mpr c13
          have c13b1 : (t678 != t688) = true := bne_iff_ne.mpr c13
          exact absurd ((Option.some.inj H).trans hrt.out) (by decide)
      · rw [if_neg c12] at H
        have c12b0 : (t676.toList == t686.toList && (t677 == t687)) = false := by simpa using c12
        (try (have c12b1 : decide (t676.toList = t686.toList && (t677 == t687)) = false := by simpa using c12))
        (try (have c12b2 : (t676.toList == t686.toList && (t677 == t687)) = false := by simpa using c12))
        (try (have c12b3 : ¬ (t676.toList = t686.toList && (t677 == t687)) := by simpa using c12))
        clear c12
        exact absurd ((Option.some.inj H).trans hrt.out) (by decide)
    · replace c11 := Bool.eq_false_iff.mpr c11
      subst c11
      have H1 : (some false) = some r := by rw [if_neg (show ¬ (false = true) by decide)] at H; exact H
      clear H
      have H := H1
      clear H1
      exact absurd ((Option.some.inj H).trans hrt.out) (by decide)
  · rw [if_neg c9] at H
    have c9b0 : (t671 == t681) = false := beq_eq_false_iff_ne.mpr c9
    have c9b1 : (t671 != t681) = true := bne_iff_ne.mpr c9
    exact absurd ((Option.some.inj H).trans hrt.out) (by decide)

end Go.Proofs.Ytlanodnbdgiihaa.Fn
