-- Written by program (a turned copy of the kit's print) for this seat: functions, contracts. Lean checks it.
import Derived.Test.YtgfblogneggpmaaFnx0
import Derived.Test.YtgfblogneggpmaaFnx3
import Derived.Test.YtgfblogneggpmaaFnx15
import Derived.Test.YtgfblogneggpmaaFnx16
import Derived.Test.YtgfblogneggpmaaFnx27
import Derived.Test.YtgfblogneggpmaaFnx31
import Derived.Test.YtgfblogneggpmaaFnx32
import Derived.Test.YtgfblogneggpmaaAw24
import Derived.Test.YtgfblogneggpmaaExCheck
import Derived.Test.YtgfblogneggpmaaExUntil
namespace Go.Proofs.Ytgfblogneggpmaa.Fn
open Go.RowKit Go.Proofs.YtgfblogneggpmaaW.PrintWords Go.Proofs.YtgfblogneggpmaaW.PrintLast Go.Proofs.YtgfblogneggpmaaW.PrintMore
attribute [local go_sem] max2_int min2_int max_two min_two max_three min_three max_four min_four   -- for this text's walks alone
set_option linter.unusedVariables false
set_option linter.unusedSimpArgs false

/-! ### tattlelaw18_LeadStarts: function 11 -/
mutual
def tattlelaw18_LeadStarts.j0 : Nat → Int → Bool → Int → Int → Int → Int → List Int → Int → Int → Int → Int → Int → List Int → Option (Bool)
  | 0, _, _, _, _, _, _, _, _, _, _, _, _, _ => none
  | k + 1, x6, x50, x583000, x583001, x583002, x583003, x583004, x583005, x583006, x583007, x583008, x588000, x588001 => if x50 = true then ((tattlelaw18_awakeT.f).bind fun t589 => (some t589)) else ((lead_Start.f x588000 x588001 x6).bind fun bt590 => (if bt590.2.2 = 0 then (if bt590.1 = x6 then (if (bt590.2.1.length : Int) = (x588001.length : Int) then ((lead_Valid.f x583000 x583001 x583002 bt590.1 bt590.2.1 0).bind fun t596 => (tattlelaw18_LeadStarts.j1 k x6 t596 x583000 x583001 x583002 x583003 x583004 x583005 x583006 x583007 x583008 x588000 x588001 bt590.1 bt590.2.1)) else (tattlelaw18_LeadStarts.j1 k x6 true x583000 x583001 x583002 x583003 x583004 x583005 x583006 x583007 x583008 x588000 x588001 bt590.1 bt590.2.1)) else (tattlelaw18_LeadStarts.j1 k x6 true x583000 x583001 x583002 x583003 x583004 x583005 x583006 x583007 x583008 x588000 x588001 bt590.1 bt590.2.1)) else (tattlelaw18_LeadStarts.j1 k x6 true x583000 x583001 x583002 x583003 x583004 x583005 x583006 x583007 x583008 x588000 x588001 bt590.1 bt590.2.1)))
def tattlelaw18_LeadStarts.j1 : Nat → Int → Bool → Int → Int → Int → Int → List Int → Int → Int → Int → Int → Int → List Int → Int → List Int → Option (Bool)
  | 0, _, _, _, _, _, _, _, _, _, _, _, _, _, _, _ => none
  | k + 1, x6, x80, x583000, x583001, x583002, x583003, x583004, x583005, x583006, x583007, x583008, x588000, x588001, x596000, x596001 => if x80 = true then (some false) else ((lead_Granted.f k x596000 x596001 0 x588000 x583007).bind fun bt597 => (if bt597.2.2 = 8 then ((tattleref18_Same.f k bt597.1 bt597.2.1 x596000 x596001).bind fun t603 => (tattlelaw18_LeadStarts.j2 k x6 (!t603) x583000 x583001 x583002 x583003 x583004 x583005 x583006 x583007 x583008 x596000 x596001)) else (tattlelaw18_LeadStarts.j2 k x6 true x583000 x583001 x583002 x583003 x583004 x583005 x583006 x583007 x583008 x596000 x596001)))
def tattlelaw18_LeadStarts.j2 : Nat → Int → Bool → Int → Int → Int → Int → List Int → Int → Int → Int → Int → Int → List Int → Option (Bool)
  | 0, _, _, _, _, _, _, _, _, _, _, _, _, _ => none
  | k + 1, x6, x97, x583000, x583001, x583002, x583003, x583004, x583005, x583006, x583007, x583008, x596000, x596001 => if x97 = true then (some false) else (tattlelaw18_LeadStarts.l0 k x6 0 x583000 x583001 x583002 x583003 x583004 x583005 x583006 x583007 x583008 x596000 x596001)
def tattlelaw18_LeadStarts.l0 : Nat → Int → Int → Int → Int → Int → Int → List Int → Int → Int → Int → Int → Int → List Int → Option (Bool)
  | 0, _, _, _, _, _, _, _, _, _, _, _, _, _ => none
  | k + 1, x6, x11, x583000, x583001, x583002, x583003, x583004, x583005, x583006, x583007, x583008, x596000, x596001 => if x11 < (x596001.length : Int) then ((lead_Granted.f k x596000 x596001 x11 x6 x583007).bind fun bt604 => (if bt604.2.2 = 0 then (tattlelaw18_LeadStarts.l0 k x6 (wrap64 (x11 + 1)) x583000 x583001 x583002 x583003 x583004 x583005 x583006 x583007 x583008 bt604.1 bt604.2.1) else (some false))) else ((lead_Until.f x583000 x583001 x583002 x596000 x596001).bind fun bt610 => ((tattleref17_Hold.f k x583000 x583001 x583002).bind fun t613 => (if t613 = 0 then (if bt610.2.2 = 1 then (if bt610.2.1 = true then (some false) else ((tattlelaw18_awakeT.f).bind fun t614 => (some t614))) else (some false)) else (if bt610.2.2 = 0 then (if bt610.2.1 = true then ((tattleref17_Hold.f k x583000 x583001 x583002).bind fun t615 => (if bt610.1 = (wrap64 (x583007 + t615)) then ((lead_Valid.f x583000 x583001 x583002 x596000 x596001 x583007).bind fun t616 => (if t616 = true then ((lead_Valid.f x583000 x583001 x583002 x596000 x596001 bt610.1).bind fun t617 => (if t617 = true then (some false) else ((tattlelaw18_awakeT.f).bind fun t618 => (some t618)))) else (some false))) else (some false))) else (some false)) else (some false)))))
end
def tattlelaw18_LeadStarts.f (k : Nat) (a0_0 : Int) (a0_1 : Int) (a0_2 : Int) (a0_3 : Int) (l0_4 : List Int) (a0_5 : Int) (a0_6 : Int) (a0_7 : Int) (a0_8 : Int) (a1 : Int) : Option (Bool) := (tattlelaw18_Few.f a0_3 l0_4).bind fun bt583 => (if (IntKind.u64.wrap ((IntKind.u64.wrap (bt583.1 + 1)) + (IntKind.u64.wrap (a1)))) ≤ bt583.1 then (tattlelaw18_LeadStarts.j0 k (IntKind.u64.wrap ((IntKind.u64.wrap (bt583.1 + 1)) + (IntKind.u64.wrap (a1)))) true a0_0 a0_1 a0_2 a0_3 l0_4 a0_5 a0_6 a0_7 a0_8 bt583.1 bt583.2) else ((lead_Check.f bt583.1 bt583.2).bind fun t588 => (if t588 = 0 then (if (bt583.2.length : Int) = 0 then (tattlelaw18_LeadStarts.j0 k (IntKind.u64.wrap ((IntKind.u64.wrap (bt583.1 + 1)) + (IntKind.u64.wrap (a1)))) true a0_0 a0_1 a0_2 a0_3 l0_4 a0_5 a0_6 a0_7 a0_8 bt583.1 bt583.2) else (if a0_7 < 0 then (tattlelaw18_LeadStarts.j0 k (IntKind.u64.wrap ((IntKind.u64.wrap (bt583.1 + 1)) + (IntKind.u64.wrap (a1)))) true a0_0 a0_1 a0_2 a0_3 l0_4 a0_5 a0_6 a0_7 a0_8 bt583.1 bt583.2) else (tattlelaw18_LeadStarts.j0 k (IntKind.u64.wrap ((IntKind.u64.wrap (bt583.1 + 1)) + (IntKind.u64.wrap (a1)))) (decide (a0_7 > 1099511627776)) a0_0 a0_1 a0_2 a0_3 l0_4 a0_5 a0_6 a0_7 a0_8 bt583.1 bt583.2))) else (tattlelaw18_LeadStarts.j0 k (IntKind.u64.wrap ((IntKind.u64.wrap (bt583.1 + 1)) + (IntKind.u64.wrap (a1)))) true a0_0 a0_1 a0_2 a0_3 l0_4 a0_5 a0_6 a0_7 a0_8 bt583.1 bt583.2))))
theorem tattlelaw18_LeadStarts.mono_l : ∀ k, (∀ y0 y1 y2 y3 y4 y5 y6 y7 y8 y9 y10 y11 y12, LeO (tattlelaw18_LeadStarts.j0 k y0 y1 y2 y3 y4 y5 y6 y7 y8 y9 y10 y11 y12) (tattlelaw18_LeadStarts.j0 (k + 1) y0 y1 y2 y3 y4 y5 y6 y7 y8 y9 y10 y11 y12)) ∧ (∀ y0 y1 y2 y3 y4 y5 y6 y7 y8 y9 y10 y11 y12 y13 y14, LeO (tattlelaw18_LeadStarts.j1 k y0 y1 y2 y3 y4 y5 y6 y7 y8 y9 y10 y11 y12 y13 y14) (tattlelaw18_LeadStarts.j1 (k + 1) y0 y1 y2 y3 y4 y5 y6 y7 y8 y9 y10 y11 y12 y13 y14)) ∧ (∀ y0 y1 y2 y3 y4 y5 y6 y7 y8 y9 y10 y11 y12, LeO (tattlelaw18_LeadStarts.j2 k y0 y1 y2 y3 y4 y5 y6 y7 y8 y9 y10 y11 y12) (tattlelaw18_LeadStarts.j2 (k + 1) y0 y1 y2 y3 y4 y5 y6 y7 y8 y9 y10 y11 y12)) ∧ (∀ y0 y1 y2 y3 y4 y5 y6 y7 y8 y9 y10 y11 y12, LeO (tattlelaw18_LeadStarts.l0 k y0 y1 y2 y3 y4 y5 y6 y7 y8 y9 y10 y11 y12) (tattlelaw18_LeadStarts.l0 (k + 1) y0 y1 y2 y3 y4 y5 y6 y7 y8 y9 y10 y11 y12))
  | 0 => ⟨fun _ _ _ _ _ _ _ _ _ _ _ _ _ r h => by simp [tattlelaw18_LeadStarts.j0] at h, fun _ _ _ _ _ _ _ _ _ _ _ _ _ _ _ r h => by simp [tattlelaw18_LeadStarts.j1] at h, fun _ _ _ _ _ _ _ _ _ _ _ _ _ r h => by simp [tattlelaw18_LeadStarts.j2] at h, fun _ _ _ _ _ _ _ _ _ _ _ _ _ r h => by simp [tattlelaw18_LeadStarts.l0] at h⟩
  | k + 1 => by
    obtain ⟨ih0, ih1, ih2, ih3⟩ := tattlelaw18_LeadStarts.mono_l k
    refine ⟨?_, ?_, ?_, ?_⟩
    · intro y0 y1 y2 y3 y4 y5 y6 y7 y8 y9 y10 y11 y12
      unfold tattlelaw18_LeadStarts.j0
      repeat' first
      | (with_reducible exact ih0 _ _ _ _ _ _ _ _ _ _ _ _ _)
      | (with_reducible exact ih1 _ _ _ _ _ _ _ _ _ _ _ _ _ _ _)
      | (with_reducible exact ih2 _ _ _ _ _ _ _ _ _ _ _ _ _)
      | (with_reducible exact ih3 _ _ _ _ _ _ _ _ _ _ _ _ _)
      | (with_reducible exact lead_Granted.mono _ _ _ _ _ _)
      | (with_reducible exact tattleref17_Hold.mono _ _ _ _)
      | (with_reducible exact tattleref18_Same.mono _ _ _ _ _)
      | (with_reducible exact LeO.refl _)
      | (with_reducible exact LeO.none _)
      | (with_reducible refine LeO.ite ?_ ?_)
      | (with_reducible refine LeO.bind ?_ (fun _ => ?_))
      | exact ih0 _ _ _ _ _ _ _ _ _ _ _ _ _
      | exact ih1 _ _ _ _ _ _ _ _ _ _ _ _ _ _ _
      | exact ih2 _ _ _ _ _ _ _ _ _ _ _ _ _
      | exact ih3 _ _ _ _ _ _ _ _ _ _ _ _ _
      | exact lead_Granted.mono _ _ _ _ _ _
      | exact tattleref17_Hold.mono _ _ _ _
      | exact tattleref18_Same.mono _ _ _ _ _
      | exact LeO.none _
      | refine LeO.ite ?_ ?_
      | refine LeO.bind ?_ (fun _ => ?_)
    · intro y0 y1 y2 y3 y4 y5 y6 y7 y8 y9 y10 y11 y12 y13 y14
      unfold tattlelaw18_LeadStarts.j1
      repeat' first
      | (with_reducible exact ih0 _ _ _ _ _ _ _ _ _ _ _ _ _)
      | (with_reducible exact ih1 _ _ _ _ _ _ _ _ _ _ _ _ _ _ _)
      | (with_reducible exact ih2 _ _ _ _ _ _ _ _ _ _ _ _ _)
      | (with_reducible exact ih3 _ _ _ _ _ _ _ _ _ _ _ _ _)
      | (with_reducible exact lead_Granted.mono _ _ _ _ _ _)
      | (with_reducible exact tattleref17_Hold.mono _ _ _ _)
      | (with_reducible exact tattleref18_Same.mono _ _ _ _ _)
      | (with_reducible exact LeO.refl _)
      | (with_reducible exact LeO.none _)
      | (with_reducible refine LeO.ite ?_ ?_)
      | (with_reducible refine LeO.bind ?_ (fun _ => ?_))
      | exact ih0 _ _ _ _ _ _ _ _ _ _ _ _ _
      | exact ih1 _ _ _ _ _ _ _ _ _ _ _ _ _ _ _
      | exact ih2 _ _ _ _ _ _ _ _ _ _ _ _ _
      | exact ih3 _ _ _ _ _ _ _ _ _ _ _ _ _
      | exact lead_Granted.mono _ _ _ _ _ _
      | exact tattleref17_Hold.mono _ _ _ _
      | exact tattleref18_Same.mono _ _ _ _ _
      | exact LeO.none _
      | refine LeO.ite ?_ ?_
      | refine LeO.bind ?_ (fun _ => ?_)
    · intro y0 y1 y2 y3 y4 y5 y6 y7 y8 y9 y10 y11 y12
      unfold tattlelaw18_LeadStarts.j2
      repeat' first
      | (with_reducible exact ih0 _ _ _ _ _ _ _ _ _ _ _ _ _)
      | (with_reducible exact ih1 _ _ _ _ _ _ _ _ _ _ _ _ _ _ _)
      | (with_reducible exact ih2 _ _ _ _ _ _ _ _ _ _ _ _ _)
      | (with_reducible exact ih3 _ _ _ _ _ _ _ _ _ _ _ _ _)
      | (with_reducible exact lead_Granted.mono _ _ _ _ _ _)
      | (with_reducible exact tattleref17_Hold.mono _ _ _ _)
      | (with_reducible exact tattleref18_Same.mono _ _ _ _ _)
      | (with_reducible exact LeO.refl _)
      | (with_reducible exact LeO.none _)
      | (with_reducible refine LeO.ite ?_ ?_)
      | (with_reducible refine LeO.bind ?_ (fun _ => ?_))
      | exact ih0 _ _ _ _ _ _ _ _ _ _ _ _ _
      | exact ih1 _ _ _ _ _ _ _ _ _ _ _ _ _ _ _
      | exact ih2 _ _ _ _ _ _ _ _ _ _ _ _ _
      | exact ih3 _ _ _ _ _ _ _ _ _ _ _ _ _
      | exact lead_Granted.mono _ _ _ _ _ _
      | exact tattleref17_Hold.mono _ _ _ _
      | exact tattleref18_Same.mono _ _ _ _ _
      | exact LeO.none _
      | refine LeO.ite ?_ ?_
      | refine LeO.bind ?_ (fun _ => ?_)
    · intro y0 y1 y2 y3 y4 y5 y6 y7 y8 y9 y10 y11 y12
      unfold tattlelaw18_LeadStarts.l0
      repeat' first
      | (with_reducible exact ih0 _ _ _ _ _ _ _ _ _ _ _ _ _)
      | (with_reducible exact ih1 _ _ _ _ _ _ _ _ _ _ _ _ _ _ _)
      | (with_reducible exact ih2 _ _ _ _ _ _ _ _ _ _ _ _ _)
      | (with_reducible exact ih3 _ _ _ _ _ _ _ _ _ _ _ _ _)
      | (with_reducible exact lead_Granted.mono _ _ _ _ _ _)
      | (with_reducible exact tattleref17_Hold.mono _ _ _ _)
      | (with_reducible exact tattleref18_Same.mono _ _ _ _ _)
      | (with_reducible exact LeO.refl _)
      | (with_reducible exact LeO.none _)
      | (with_reducible refine LeO.ite ?_ ?_)
      | (with_reducible refine LeO.bind ?_ (fun _ => ?_))
      | exact ih0 _ _ _ _ _ _ _ _ _ _ _ _ _
      | exact ih1 _ _ _ _ _ _ _ _ _ _ _ _ _ _ _
      | exact ih2 _ _ _ _ _ _ _ _ _ _ _ _ _
      | exact ih3 _ _ _ _ _ _ _ _ _ _ _ _ _
      | exact lead_Granted.mono _ _ _ _ _ _
      | exact tattleref17_Hold.mono _ _ _ _
      | exact tattleref18_Same.mono _ _ _ _ _
      | exact LeO.none _
      | refine LeO.ite ?_ ?_
      | refine LeO.bind ?_ (fun _ => ?_)
theorem tattlelaw18_LeadStarts.mono : ∀ a0 a1 a2 a3 a4 a5 a6 a7 a8 a9 k, LeO (tattlelaw18_LeadStarts.f k a0 a1 a2 a3 a4 a5 a6 a7 a8 a9) (tattlelaw18_LeadStarts.f (k + 1) a0 a1 a2 a3 a4 a5 a6 a7 a8 a9) := by
  intro a0 a1 a2 a3 a4 a5 a6 a7 a8 a9 k
  obtain ⟨ih0, ih1, ih2, ih3⟩ := tattlelaw18_LeadStarts.mono_l k
  unfold tattlelaw18_LeadStarts.f
  repeat' first
      | (with_reducible exact ih0 _ _ _ _ _ _ _ _ _ _ _ _ _)
      | (with_reducible exact ih1 _ _ _ _ _ _ _ _ _ _ _ _ _ _ _)
      | (with_reducible exact ih2 _ _ _ _ _ _ _ _ _ _ _ _ _)
      | (with_reducible exact ih3 _ _ _ _ _ _ _ _ _ _ _ _ _)
      | (with_reducible exact lead_Granted.mono _ _ _ _ _ _)
      | (with_reducible exact tattleref17_Hold.mono _ _ _ _)
      | (with_reducible exact tattleref18_Same.mono _ _ _ _ _)
      | (with_reducible exact LeO.refl _)
      | (with_reducible exact LeO.none _)
      | (with_reducible refine LeO.ite ?_ ?_)
      | (with_reducible refine LeO.bind ?_ (fun _ => ?_))
      | exact ih0 _ _ _ _ _ _ _ _ _ _ _ _ _
      | exact ih1 _ _ _ _ _ _ _ _ _ _ _ _ _ _ _
      | exact ih2 _ _ _ _ _ _ _ _ _ _ _ _ _
      | exact ih3 _ _ _ _ _ _ _ _ _ _ _ _ _
      | exact lead_Granted.mono _ _ _ _ _ _
      | exact tattleref17_Hold.mono _ _ _ _
      | exact tattleref18_Same.mono _ _ _ _ _
      | exact LeO.none _
      | refine LeO.ite ?_ ?_
      | refine LeO.bind ?_ (fun _ => ?_)
def tattlelaw18_LeadStarts.T21 : Bool × List (List Nat × List Nat) := (true, [([], []), ([0], [0]), ([1], [1]), ([2], [2]), ([2, 3], [2, 3]), ([4, 2], [4]), ([5], [5]), ([5], [5]), ([7, 5], [5, 7]), ([5], [5]), ([9, 5], [5, 9]), ([10, 5, 5], [5, 10]), ([8, 11, 5], [5, 8, 11]), ([6, 12, 5], [5, 6, 12]), ([5, 13], [5, 13]), ([14, 11], [14]), ([15], [15]), ([16, 15], [15, 16]), ([15], [15]), ([15], [15]), ([19, 15], [15, 19]), ([17, 18, 20, 15, 15], [15, 17, 18, 20]), ([15, 21], [15, 21]), ([22, 21], [22]), ([23], [23]), ([24, 23], [23, 24]), ([23], [23]), ([23], [23]), ([25, 26, 27, 23, 23], [23, 25, 26, 27]), ([28, 23], [23, 28]), ([23, 29], [23, 29]), ([30, 28], [30]), ([31, 31], [31]), ([31, 32], [31, 32]), ([33, 32, 0, 1, 2, 3, 4, 5, 6, 7, 8, 9, 10, 11, 12, 13, 14, 15, 16, 17, 18, 19, 20, 21, 22, 23, 24, 25, 26, 27, 28, 29, 30, 31, 32, 33], [33])])
def tattlelaw18_LeadStarts.B21 : List Nat := [0, 1, 3, 7, 15, 31, 63, 63, 191, 63, 575, 1599, 4031, 8191, 16383, 32767, 65535, 131071, 65535, 65535, 589823, 2097151, 4194303, 8388607, 16777215, 33554431, 16777215, 16777215, 268435455, 536870911, 1073741823, 2147483647, 4294967295, 8589934591, 17179869183]
theorem tattlelaw18_LeadStarts.tab21 : rtab .any (opsOf Try.f11 21) = tattlelaw18_LeadStarts.T21 := by kernel_rfl
theorem tattlelaw18_LeadStarts.bits21 : waitsOk tattlelaw18_LeadStarts.T21.2 tattlelaw18_LeadStarts.B21 = true := by kernel_rfl
set_option maxHeartbeats 8000000 in
set_option maxRecDepth 100000 in
theorem tattlelaw18_LeadStarts.calls (k : Nat) (a0_0 : Int) (a0_1 : Int) (a0_2 : Int) (a0_3 : Int) (A0_4 : Option Addr) (c0_4 : Nat) (l0_4 : List Int) (a0_5 : Int) (a0_6 : Int) (a0_7 : Int) (a0_8 : Int) (a1 : Int) (r : Bool) (w : World) (hr0_4 : Kd.C (Kd.int .i64) w A0_4 l0_4.length l0_4) (hc0_4 : l0_4.length ≤ c0_4) (hrt : Aside0 (r = true)) (h : tattlelaw18_LeadStarts.f k a0_0 a0_1 a0_2 a0_3 l0_4 a0_5 a0_6 a0_7 a0_8 a1 = some r) :
    Calls Try.prog 11 #[.agg #[.int .i64 a0_0, .int .i64 a0_1, .int .i64 a0_2, .int .u64 a0_3, .slice A0_4 l0_4.length c0_4, .int .i64 a0_5, .int .u64 a0_6, .int .i64 a0_7, .int .i64 a0_8], .int .u8 a1] w fun e w' => e = .returned (.bool r) ∧ Below w.heap.size w w' := by
  have hu54 := Try.underlying54
  have hu52 := Try.underlying52
  have hu23 := Try.underlying23
  have HR0_4 := Aside0.mk hr0_4
  have HC0_4 := Aside0.mk hc0_4
  clear hr0_4 hc0_4
  have HB := Aside0.mk (Below.refl w.heap.size w)
  have H : ((tattlelaw18_Few.f a0_3 l0_4).bind fun bt583 => (if (IntKind.u64.wrap ((IntKind.u64.wrap (bt583.1 + 1)) + (IntKind.u64.wrap (a1)))) ≤ bt583.1 then (tattlelaw18_LeadStarts.j0 k (IntKind.u64.wrap ((IntKind.u64.wrap (bt583.1 + 1)) + (IntKind.u64.wrap (a1)))) true a0_0 a0_1 a0_2 a0_3 l0_4 a0_5 a0_6 a0_7 a0_8 bt583.1 bt583.2) else ((lead_Check.f bt583.1 bt583.2).bind fun t588 => (if t588 = 0 then (if (bt583.2.length : Int) = 0 then (tattlelaw18_LeadStarts.j0 k (IntKind.u64.wrap ((IntKind.u64.wrap (bt583.1 + 1)) + (IntKind.u64.wrap (a1)))) true a0_0 a0_1 a0_2 a0_3 l0_4 a0_5 a0_6 a0_7 a0_8 bt583.1 bt583.2) else (if a0_7 < 0 then (tattlelaw18_LeadStarts.j0 k (IntKind.u64.wrap ((IntKind.u64.wrap (bt583.1 + 1)) + (IntKind.u64.wrap (a1)))) true a0_0 a0_1 a0_2 a0_3 l0_4 a0_5 a0_6 a0_7 a0_8 bt583.1 bt583.2) else (tattlelaw18_LeadStarts.j0 k (IntKind.u64.wrap ((IntKind.u64.wrap (bt583.1 + 1)) + (IntKind.u64.wrap (a1)))) (decide (a0_7 > 1099511627776)) a0_0 a0_1 a0_2 a0_3 l0_4 a0_5 a0_6 a0_7 a0_8 bt583.1 bt583.2))) else (tattlelaw18_LeadStarts.j0 k (IntKind.u64.wrap ((IntKind.u64.wrap (bt583.1 + 1)) + (IntKind.u64.wrap (a1)))) true a0_0 a0_1 a0_2 a0_3 l0_4 a0_5 a0_6 a0_7 a0_8 bt583.1 bt583.2))))) = some r := h
  clear h
  replace H := Option.bind_eq_some_iff.mp H
  obtain ⟨⟨t583, t584⟩, A30, H⟩ := H
  replace H : (if (IntKind.u64.wrap ((IntKind.u64.wrap (t583 + 1)) + (IntKind.u64.wrap (a1)))) ≤ t583 then (tattlelaw18_LeadStarts.j0 k (IntKind.u64.wrap ((IntKind.u64.wrap (t583 + 1)) + (IntKind.u64.wrap (a1)))) true a0_0 a0_1 a0_2 a0_3 l0_4 a0_5 a0_6 a0_7 a0_8 t583 t584) else ((lead_Check.f t583 t584).bind fun t588 => (if t588 = 0 then (if (t584.length : Int) = 0 then (tattlelaw18_LeadStarts.j0 k (IntKind.u64.wrap ((IntKind.u64.wrap (t583 + 1)) + (IntKind.u64.wrap (a1)))) true a0_0 a0_1 a0_2 a0_3 l0_4 a0_5 a0_6 a0_7 a0_8 t583 t584) else (if a0_7 < 0 then (tattlelaw18_LeadStarts.j0 k (IntKind.u64.wrap ((IntKind.u64.wrap (t583 + 1)) + (IntKind.u64.wrap (a1)))) true a0_0 a0_1 a0_2 a0_3 l0_4 a0_5 a0_6 a0_7 a0_8 t583 t584) else (tattlelaw18_LeadStarts.j0 k (IntKind.u64.wrap ((IntKind.u64.wrap (t583 + 1)) + (IntKind.u64.wrap (a1)))) (decide (a0_7 > 1099511627776)) a0_0 a0_1 a0_2 a0_3 l0_4 a0_5 a0_6 a0_7 a0_8 t583 t584))) else (tattlelaw18_LeadStarts.j0 k (IntKind.u64.wrap ((IntKind.u64.wrap (t583 + 1)) + (IntKind.u64.wrap (a1)))) true a0_0 a0_1 a0_2 a0_3 l0_4 a0_5 a0_6 a0_7 a0_8 t583 t584)))) = some r := H
  have A3 := Aside0.mk A30
  clear A30
  have HC4 := Aside0.mk H
  clear H
  go_enter Try.func11, Try.ntmps11
  go_upto_region 3 with (first | ((with_reducible refine gate_dst (N := 2) rfl ?_); (try (refine gate_guard (by rfl) ?_; dsimp only)); refine box_event ?hg (N := 2) ?hd (cs := #[.int .i64 a0_0, .int .i64 a0_1, .int .i64 a0_2, .int .u64 a0_3, .slice A0_4 l0_4.length c0_4, .int .i64 a0_5, .int .u64 a0_6, .int .i64 a0_7, .int .i64 a0_8]) (t := 54) ?hr ?_; (case hd => rfl); (case hg => rfl); (case hr => first | (go_simp; done) | (go_simp; rfl)); intro gb582 hg w5 hbox hb; have n0_ := Aside0.mk (below_step (by repeat (first | (with_reducible first | exact HB.out | apply below_alloc | apply pw_below_drewN | apply below_drew1) | exact HB.out)) hb); have n1_ := Aside0.mk (hbox); have n2_ := Aside0.mk ((by rw [hg]; exact (below_size (by repeat (first | (with_reducible first | exact HB.out | apply below_alloc | apply pw_below_drewN | apply below_drew1) | exact HB.out))) : w.heap.size ≤ gb582)); have n3_ := Aside0.mk ((by rw [hg]; exact (below_size (by repeat (first | (with_reducible first | exact HB.out | apply below_alloc | apply pw_below_drewN | apply below_drew1) | exact HB.out))) : w.heap.size ≤ gb582)); clear HB; have HB := n0_; have BK582 := n1_; have GW582 := n2_; have GE582 := n3_; clear n0_ n1_ n2_ n3_; clear hb hbox hg; have hcz6_0 : w5.cell? ⟨gb582, 0, none⟩ = some (.int .i64 a0_0) := (blk_cell BK582.out 0).trans rfl; have hcz6_1 : w5.cell? ⟨gb582, 1, none⟩ = some (.int .i64 a0_1) := (blk_cell BK582.out 1).trans rfl; have hcz6_2 : w5.cell? ⟨gb582, 2, none⟩ = some (.int .i64 a0_2) := (blk_cell BK582.out 2).trans rfl; have hcz6_3 : w5.cell? ⟨gb582, 3, none⟩ = some (.int .u64 a0_3) := (blk_cell BK582.out 3).trans rfl; have hcz6_4 : w5.cell? ⟨gb582, 4, none⟩ = some (.slice A0_4 l0_4.length c0_4) := (blk_cell BK582.out 4).trans rfl; have hcz6_5 : w5.cell? ⟨gb582, 5, none⟩ = some (.int .i64 a0_5) := (blk_cell BK582.out 5).trans rfl; have hcz6_6 : w5.cell? ⟨gb582, 6, none⟩ = some (.int .u64 a0_6) := (blk_cell BK582.out 6).trans rfl; have hcz6_7 : w5.cell? ⟨gb582, 7, none⟩ = some (.int .i64 a0_7) := (blk_cell BK582.out 7).trans rfl; have hcz6_8 : w5.cell? ⟨gb582, 8, none⟩ = some (.int .i64 a0_8) := (blk_cell BK582.out 8).trans rfl; have hfz6_0 := blk_frozen BK582.out 0; have hfz6_1 := blk_frozen BK582.out 1; have hfz6_2 := blk_frozen BK582.out 2; have hfz6_3 := blk_frozen BK582.out 3; have hfz6_4 := blk_frozen BK582.out 4; have hfz6_5 := blk_frozen BK582.out 5; have hfz6_6 := blk_frozen BK582.out 6; have hfz6_7 := blk_frozen BK582.out 7; have hfz6_8 := blk_frozen BK582.out 8) | ((with_reducible refine gate_callee (f := 21) rfl ?_); refine goesL_ (some 19) rfl rfl Try.func21 (by kernel_rfl) rfl #[.agg #[.int .u64 a0_3, .slice A0_4 l0_4.length c0_4]] rfl (by (try simp only [List.map_toArray, List.map_cons, List.map_nil]); first | done | rfl | (simp only [List.length_drop, List.length_take]; rfl)) ?_; (with_reducible refine (tattlelaw18_Few.calls a0_3 (fun k_ => k_ < w.heap.size) _ _ l0_4 t583 t584 _ ?side1 A3.out).mono ?_); (case side1 => exact Kd.V_mk HC0_4.out (Kd.F_below (Kd.C_F (Kd.heap_int .i64) HR0_4.out) (by repeat (first | (with_reducible first | exact HB.out | apply below_alloc | apply pw_below_drewN | apply below_drew1 | refine below_set ?_ GE582.out) | exact HB.out)))); rintro e w7 ⟨v585, rfl, ho0, hb⟩; refine ⟨_, rfl, ?_⟩; have n0_ := Aside0.mk (Kd.V_lower (Kd.V_mono (ok' := fun k_ => k_ ≠ gb582) ho0 (fun k_ hk_ => Or.elim hk_ (fun hs_ => fun e_ => Nat.not_le.2 hs_ (by rw [e_]; exact GW582.out)) (fun hn_ => (Kd.freshB (g := gb582) (o := .cells #[.int .i64 a0_0, .int .i64 a0_1, .int .i64 a0_2, .int .u64 a0_3, .slice A0_4 l0_4.length c0_4, .int .i64 a0_5, .int .u64 a0_6, .int .i64 a0_7, .int .i64 a0_8] 54 (0, 0)) (by (with_reducible repeat (first | refine blk_drewN ?_ _ | refine blk_drew ?_ | refine blk_alloc ?_ _)); exact BK582.out) k_ hn_)))) (below_size (by repeat (first | (with_reducible first | exact HB.out | apply below_alloc | apply pw_below_drewN | apply below_drew1 | refine below_set ?_ GE582.out) | exact HB.out)))); have n1_ := Aside0.mk (blk_below (g := gb582) (o := .cells #[.int .i64 a0_0, .int .i64 a0_1, .int .i64 a0_2, .int .u64 a0_3, .slice A0_4 l0_4.length c0_4, .int .i64 a0_5, .int .u64 a0_6, .int .i64 a0_7, .int .i64 a0_8] 54 (0, 0)) (by (with_reducible repeat (first | refine blk_drewN ?_ _ | refine blk_drew ?_ | refine blk_alloc ?_ _)); exact BK582.out) hb); have n2_ := Aside0.mk (below_step (by repeat (first | (with_reducible first | exact HB.out | apply below_alloc | apply pw_below_drewN | apply below_drew1 | refine below_set ?_ GE582.out) | exact HB.out)) hb); clear BK582; clear HB; have HO586 := n0_; have BK582 := n1_; have HB := n2_; clear n0_ n1_ n2_; (try clear hb); (try clear hb2); (try clear hk); (try clear hi); (try clear ho0)) | ((with_reducible refine gate_dst (N := 5) rfl ?_); (try (refine gate_guard (by rfl) ?_; dsimp only)); refine box_event ?hg (N := 5) ?hd (cs := #[.int .u64 0, .slice none 0 0]) (t := 52) ?hr ?_; (case hd => rfl); (case hg => rfl); (case hr => first | (go_simp; done) | (go_simp; rfl)); intro gb587 hg w8 hbox hb; have n0_ := Aside0.mk (Kd.V_below (Kd.V_elderB (by (with_reducible repeat (first | apply Kd.V_alloc | apply Kd.V_drewN | apply Kd.V_drew)); exact HO586.out) gb587 (Nat.le_of_eq hg.symm)) hb); have n1_ := Aside0.mk (blk_below (g := gb582) (o := .cells #[.int .i64 a0_0, .int .i64 a0_1, .int .i64 a0_2, .int .u64 a0_3, .slice A0_4 l0_4.length c0_4, .int .i64 a0_5, .int .u64 a0_6, .int .i64 a0_7, .int .i64 a0_8] 54 (0, 0)) (by (with_reducible repeat (first | refine blk_drewN ?_ _ | refine blk_drew ?_ | refine blk_alloc ?_ _)); exact BK582.out) hb); have n2_ := Aside0.mk (below_step (by repeat (first | (with_reducible first | exact HB.out | apply below_alloc | apply pw_below_drewN | apply below_drew1 | refine below_set ?_ GE582.out) | exact HB.out)) hb); have n3_ := Aside0.mk (hbox); have n4_ := Aside0.mk ((by rw [hg]; exact (below_size (by repeat (first | (with_reducible first | exact HB.out | apply below_alloc | apply pw_below_drewN | apply below_drew1 | refine below_set ?_ GE582.out) | exact HB.out))) : w.heap.size ≤ gb587)); have n5_ := Aside0.mk ((by rw [hg]; exact (below_size (by repeat (first | (with_reducible first | exact HB.out | apply below_alloc | apply pw_below_drewN | apply below_drew1 | refine below_set ?_ GE582.out) | exact HB.out))) : w.heap.size ≤ gb587)); have n6_ := Aside0.mk ((by rw [hg]; exact Nat.ne_of_lt (blk_lt (g := gb582) (o := .cells #[.int .i64 a0_0, .int .i64 a0_1, .int .i64 a0_2, .int .u64 a0_3, .slice A0_4 l0_4.length c0_4, .int .i64 a0_5, .int .u64 a0_6, .int .i64 a0_7, .int .i64 a0_8] 54 (0, 0)) (by (with_reducible repeat (first | refine blk_drewN ?_ _ | refine blk_drew ?_ | refine blk_alloc ?_ _)); exact BK582.out)) : gb582 ≠ gb587)); have n7_ := Aside0.mk ((by rw [hg]; exact Nat.ne_of_gt (blk_lt (g := gb582) (o := .cells #[.int .i64 a0_0, .int .i64 a0_1, .int .i64 a0_2, .int .u64 a0_3, .slice A0_4 l0_4.length c0_4, .int .i64 a0_5, .int .u64 a0_6, .int .i64 a0_7, .int .i64 a0_8] 54 (0, 0)) (by (with_reducible repeat (first | refine blk_drewN ?_ _ | refine blk_drew ?_ | refine blk_alloc ?_ _)); exact BK582.out)) : gb587 ≠ gb582)); clear HO586; clear BK582; clear HB; have HO586 := n0_; have BK582 := n1_; have HB := n2_; have BK587 := n3_; have GW587 := n4_; have GE587 := n5_; have NB582_587 := n6_; have NB587_582 := n7_; clear n0_ n1_ n2_ n3_ n4_ n5_ n6_ n7_; clear hb hbox hg; have hnb9 := NB587_582.out; have hnc9 := NB582_587.out; have hcz10_0 : w8.cell? ⟨gb587, 0, none⟩ = some (.int .u64 0) := (blk_cell BK587.out 0).trans rfl; have hcz10_1 : w8.cell? ⟨gb587, 1, none⟩ = some (.slice none 0 0) := (blk_cell BK587.out 1).trans rfl; have hfz10_0 := blk_frozen BK587.out 0; have hfz10_1 := blk_frozen BK587.out 1; obtain ⟨Ao11, co11, eo11⟩ := Kd.V_slice HO586.out; subst eo11))
  (try simp only [Act.put, List.setIfInBounds_toArray, List.set_cons_zero, List.set_cons_succ])
  go_cut [50] (fun v50 wc => ∃ (kq : Nat) (x50_3 : Bool), v50 = .bool x50_3 ∧ Aside0 (tattlelaw18_LeadStarts.j0 kq (IntKind.u64.wrap ((IntKind.u64.wrap (t583 + 1)) + (IntKind.u64.wrap (a1)))) x50_3 a0_0 a0_1 a0_2 a0_3 l0_4 a0_5 a0_6 a0_7 a0_8 t583 t584 = some r) ∧ Aside0 (kq ≤ k) ∧ Aside0 (Kd.V (Kd.int .i64) 2 wc w.heap.size (fun k_ => k_ ≠ gb582 ∧ k_ ≠ gb587) (.slice Ao11 t584.length co11) t584) ∧ Aside0 (wc.heap[gb582]? = some (.cells #[.int .i64 a0_0, .int .i64 a0_1, .int .i64 a0_2, .int .u64 a0_3, (.slice A0_4 l0_4.length c0_4), .int .i64 a0_5, .int .u64 a0_6, .int .i64 a0_7, .int .i64 a0_8] 54 (0, 0))) ∧ Aside0 (wc.heap[gb587]? = some (.cells #[.int .u64 t583, (.slice Ao11 t584.length co11)] 52 (0, 0))) ∧ Aside0 (Below w.heap.size w wc))
  case first =>
    have H := HC4.out
    clear HC4
    by_cases c12 : (IntKind.u64.wrap ((IntKind.u64.wrap (t583 + 1)) + (IntKind.u64.wrap (a1)))) ≤ t583
    · rw [if_pos c12] at H
      have c12b0 : decide ((IntKind.u64.wrap ((IntKind.u64.wrap (t583 + 1)) + (IntKind.u64.wrap (a1)))) ≤ t583) = true := decide_eq_true c12
      clear c12
      (first | rw [c12b0] | (simp only [i64_w, i32_w]; rw [c12b0]) | skip)
      have H' := Aside0.mk H
      clear H
      have hnb13 := NB587_582.out
      have hnc13 := NB582_587.out
      have hcz14_0 : w8.cell? ⟨gb587, 0, none⟩ = some (.int .u64 0) := (blk_cell BK587.out 0).trans rfl
      have hcz14_1 : w8.cell? ⟨gb587, 1, none⟩ = some (.slice none 0 0) := (blk_cell BK587.out 1).trans rfl
      have hfz14_0 := blk_frozen BK587.out 0
      have hfz14_1 := blk_frozen BK587.out 1
      go_wp2
      go_meet
      case rel => exact ⟨_, (true), (by first | rfl | (simp; done) | (simp [*]; done)), H', ⟨by first | omega | exact Nat.le_refl _⟩, ⟨by (with_reducible repeat (first | apply Kd.V_alloc | apply Kd.V_drewN | apply Kd.V_drew)); exact Kd.V_mono (Kd.V_far (p := ⟨gb587, 1, none⟩) (Kd.V_far (p := ⟨gb587, 0, none⟩) (Kd.V_mono HO586.out (fun k_ hk => (⟨hk, hk.2⟩ : _ ∧ k_ ≠ gb587))) (fun _ hk => hk.2) (.int .u64 t583)) (fun _ hk => hk.2) (.slice Ao11 t584.length co11)) (fun _ hk => ⟨hk.1.1, hk.1.2⟩)⟩, ⟨by (with_reducible repeat (first | refine blk_drewN ?_ _ | refine blk_drew ?_ | refine blk_alloc ?_ _)); refine blk_far ?_ NB582_587.out _; (with_reducible repeat (first | refine blk_drewN ?_ _ | refine blk_drew ?_ | refine blk_alloc ?_ _)); refine blk_far ?_ NB582_587.out _; (with_reducible repeat (first | refine blk_drewN ?_ _ | refine blk_drew ?_ | refine blk_alloc ?_ _)); exact BK582.out⟩, ⟨by (with_reducible repeat (first | refine blk_drewN ?_ _ | refine blk_drew ?_ | refine blk_alloc ?_ _)); refine blk_put (cs := #[.int .u64 t583, .slice none 0 0]) ?_ 1 _ rfl; (with_reducible repeat (first | refine blk_drewN ?_ _ | refine blk_drew ?_ | refine blk_alloc ?_ _)); refine blk_put (cs := #[.int .u64 0, .slice none 0 0]) ?_ 0 _ rfl; (with_reducible repeat (first | refine blk_drewN ?_ _ | refine blk_drew ?_ | refine blk_alloc ?_ _)); exact BK587.out⟩, ⟨by repeat (first | (with_reducible first | exact HB.out | apply below_alloc | apply pw_below_drewN | apply below_drew1 | refine below_set ?_ GE582.out | refine below_set ?_ GE587.out) | exact HB.out)⟩⟩
    · rw [if_neg c12] at H
      have c12b0 : decide ((IntKind.u64.wrap ((IntKind.u64.wrap (t583 + 1)) + (IntKind.u64.wrap (a1)))) ≤ t583) = false := decide_eq_false c12
      clear c12
      (first | rw [c12b0] | (simp only [i64_w, i32_w]; rw [c12b0]) | skip)
      replace H := Option.bind_eq_some_iff.mp H
      obtain ⟨t588, A150, H⟩ := H
      replace H : (if t588 = 0 then (if (t584.length : Int) = 0 then (tattlelaw18_LeadStarts.j0 k (IntKind.u64.wrap ((IntKind.u64.wrap (t583 + 1)) + (IntKind.u64.wrap (a1)))) true a0_0 a0_1 a0_2 a0_3 l0_4 a0_5 a0_6 a0_7 a0_8 t583 t584) else (if a0_7 < 0 then (tattlelaw18_LeadStarts.j0 k (IntKind.u64.wrap ((IntKind.u64.wrap (t583 + 1)) + (IntKind.u64.wrap (a1)))) true a0_0 a0_1 a0_2 a0_3 l0_4 a0_5 a0_6 a0_7 a0_8 t583 t584) else (tattlelaw18_LeadStarts.j0 k (IntKind.u64.wrap ((IntKind.u64.wrap (t583 + 1)) + (IntKind.u64.wrap (a1)))) (decide (a0_7 > 1099511627776)) a0_0 a0_1 a0_2 a0_3 l0_4 a0_5 a0_6 a0_7 a0_8 t583 t584))) else (tattlelaw18_LeadStarts.j0 k (IntKind.u64.wrap ((IntKind.u64.wrap (t583 + 1)) + (IntKind.u64.wrap (a1)))) true a0_0 a0_1 a0_2 a0_3 l0_4 a0_5 a0_6 a0_7 a0_8 t583 t584)) = some r := H
      have A15 := Aside0.mk A150
      clear A150
      by_cases c16 : t588 = 0
      · rw [if_pos c16] at H
        have c16b0 : (t588 == 0) = true := beq_iff_eq.mpr c16
        have c16b1 : (t588 != 0) = false := bne_eq_false_iff_eq.mpr c16
        clear c16
        by_cases c17 : (t584.length : Int) = 0
        · rw [if_pos c17] at H
          have c17b0 : ((t584.length : Int) == 0) = true := beq_iff_eq.mpr c17
          have c17b1 : ((t584.length : Int) != 0) = false := bne_eq_false_iff_eq.mpr c17
          clear c17
          have H' := Aside0.mk H
          clear H
          have hnb18 := NB587_582.out
          have hnc18 := NB582_587.out
          have hcz19_0 : w8.cell? ⟨gb587, 0, none⟩ = some (.int .u64 0) := (blk_cell BK587.out 0).trans rfl
          have hcz19_1 : w8.cell? ⟨gb587, 1, none⟩ = some (.slice none 0 0) := (blk_cell BK587.out 1).trans rfl
          have hfz19_0 := blk_frozen BK587.out 0
          have hfz19_1 := blk_frozen BK587.out 1
          go_wp2_with (first | (go_at_call 28; (with_reducible refine (lead_Check.calls t583 _ _ t584 t588 _ ?side1 ?side2 A15.out).mono ?_); (case side1 => refine (Kd.V_reads' (e := 2) (base := w.heap.size) (ok := fun k_ => (k_ ≠ gb582 ∧ k_ ≠ gb587)) (n := t584.length) (c := co11) ?_).2.2; exact (by (with_reducible repeat (first | apply Kd.V_alloc | apply Kd.V_drewN | apply Kd.V_drew)); exact (Kd.V_mono (Kd.V_far (p := ⟨gb587, 1, none⟩) (Kd.V_far (p := ⟨gb587, 0, none⟩) (Kd.V_mono HO586.out (fun k_ hk => (⟨hk, hk.2⟩ : _ ∧ k_ ≠ gb587))) (fun _ hk => hk.2) (.int .u64 t583)) (fun _ hk => hk.2) (.slice Ao11 t584.length co11)) (fun _ h_ => h_.1)))); (case side2 => exact (Kd.V_reads' HO586.out).2.1); rintro e w20 ⟨rfl, hb⟩; have n0_ := Aside0.mk (Kd.V_below (by (with_reducible repeat (first | apply Kd.V_alloc | apply Kd.V_drewN | apply Kd.V_drew)); exact (Kd.V_mono (Kd.V_far (p := ⟨gb587, 1, none⟩) (Kd.V_far (p := ⟨gb587, 0, none⟩) (Kd.V_mono HO586.out (fun k_ hk => (⟨hk, hk.2⟩ : _ ∧ k_ ≠ gb587))) (fun _ hk => hk.2) (.int .u64 t583)) (fun _ hk => hk.2) (.slice Ao11 t584.length co11)) (fun _ h_ => h_.1))) hb); have n1_ := Aside0.mk (blk_below (g := gb582) (o := .cells #[.int .i64 a0_0, .int .i64 a0_1, .int .i64 a0_2, .int .u64 a0_3, .slice A0_4 l0_4.length c0_4, .int .i64 a0_5, .int .u64 a0_6, .int .i64 a0_7, .int .i64 a0_8] 54 (0, 0)) (by (with_reducible repeat (first | refine blk_drewN ?_ _ | refine blk_drew ?_ | refine blk_alloc ?_ _)); refine blk_far ?_ NB582_587.out _; (with_reducible repeat (first | refine blk_drewN ?_ _ | refine blk_drew ?_ | refine blk_alloc ?_ _)); refine blk_far ?_ NB582_587.out _; (with_reducible repeat (first | refine blk_drewN ?_ _ | refine blk_drew ?_ | refine blk_alloc ?_ _)); exact BK582.out) hb); have n2_ := Aside0.mk (blk_below (g := gb587) (o := .cells #[.int .u64 t583, .slice Ao11 t584.length co11] 52 (0, 0)) (by (with_reducible repeat (first | refine blk_drewN ?_ _ | refine blk_drew ?_ | refine blk_alloc ?_ _)); refine blk_put (cs := #[.int .u64 t583, .slice none 0 0]) ?_ 1 _ rfl; (with_reducible repeat (first | refine blk_drewN ?_ _ | refine blk_drew ?_ | refine blk_alloc ?_ _)); refine blk_put (cs := #[.int .u64 0, .slice none 0 0]) ?_ 0 _ rfl; (with_reducible repeat (first | refine blk_drewN ?_ _ | refine blk_drew ?_ | refine blk_alloc ?_ _)); exact BK587.out) hb); have n3_ := Aside0.mk (below_step (by repeat (first | (with_reducible first | exact HB.out | apply below_alloc | apply pw_below_drewN | apply below_drew1 | refine below_set ?_ GE582.out | refine below_set ?_ GE587.out) | exact HB.out)) hb); clear HO586; clear BK582; clear BK587; clear HB; have HO586 := n0_; have BK582 := n1_; have BK587 := n2_; have HB := n3_; clear n0_ n1_ n2_ n3_; (try clear hb); (try clear hb2); (try clear hk); (try clear hi); have hcz21_0 : w20.cell? ⟨gb587, 0, none⟩ = some (.int .u64 t583) := (blk_cell BK587.out 0).trans rfl; have hcz21_1 : w20.cell? ⟨gb587, 1, none⟩ = some (.slice Ao11 t584.length co11) := (blk_cell BK587.out 1).trans rfl; have hfz21_0 := blk_frozen BK587.out 0; have hfz21_1 := blk_frozen BK587.out 1))
          go_meet
          case rel => exact ⟨_, (true), (by first | rfl | (simp; done) | (simp [*]; done)), H', ⟨by first | omega | exact Nat.le_refl _⟩, ⟨by (with_reducible repeat (first | apply Kd.V_alloc | apply Kd.V_drewN | apply Kd.V_drew)); exact HO586.out⟩, ⟨by (with_reducible repeat (first | refine blk_drewN ?_ _ | refine blk_drew ?_ | refine blk_alloc ?_ _)); exact BK582.out⟩, ⟨by (with_reducible repeat (first | refine blk_drewN ?_ _ | refine blk_drew ?_ | refine blk_alloc ?_ _)); exact BK587.out⟩, ⟨by repeat (first | (with_reducible first | exact HB.out | apply below_alloc | apply pw_below_drewN | apply below_drew1 | refine below_set ?_ GE582.out | refine below_set ?_ GE587.out) | exact HB.out)⟩⟩
        · rw [if_neg c17] at H
          have c17b0 : ((t584.length : Int) == 0) = false := beq_eq_false_iff_ne.mpr c17
          have c17b1 : ((t584.length : Int) != 0) = true := bne_iff_ne.mpr c17
          have c17b2 : ¬ (t584 = []) := fun h_ => c17 (by rw [h_]; rfl)
          by_cases c22 : a0_7 < 0
          · rw [if_pos c22] at H
            have c22b0 : decide (a0_7 < 0) = true := decide_eq_true c22
            clear c22
            have H' := Aside0.mk H
            clear H
            have hnb23 := NB587_582.out
            have hnc23 := NB582_587.out
            have hcz24_0 : w8.cell? ⟨gb587, 0, none⟩ = some (.int .u64 0) := (blk_cell BK587.out 0).trans rfl
            have hcz24_1 : w8.cell? ⟨gb587, 1, none⟩ = some (.slice none 0 0) := (blk_cell BK587.out 1).trans rfl
            have hfz24_0 := blk_frozen BK587.out 0
            have hfz24_1 := blk_frozen BK587.out 1
            go_wp2_with (first | (go_at_call 28; (with_reducible refine (lead_Check.calls t583 _ _ t584 t588 _ ?side1 ?side2 A15.out).mono ?_); (case side1 => refine (Kd.V_reads' (e := 2) (base := w.heap.size) (ok := fun k_ => (k_ ≠ gb582 ∧ k_ ≠ gb587)) (n := t584.length) (c := co11) ?_).2.2; exact (by (with_reducible repeat (first | apply Kd.V_alloc | apply Kd.V_drewN | apply Kd.V_drew)); exact (Kd.V_mono (Kd.V_far (p := ⟨gb587, 1, none⟩) (Kd.V_far (p := ⟨gb587, 0, none⟩) (Kd.V_mono HO586.out (fun k_ hk => (⟨hk, hk.2⟩ : _ ∧ k_ ≠ gb587))) (fun _ hk => hk.2) (.int .u64 t583)) (fun _ hk => hk.2) (.slice Ao11 t584.length co11)) (fun _ h_ => h_.1)))); (case side2 => exact (Kd.V_reads' HO586.out).2.1); rintro e w25 ⟨rfl, hb⟩; have n0_ := Aside0.mk (Kd.V_below (by (with_reducible repeat (first | apply Kd.V_alloc | apply Kd.V_drewN | apply Kd.V_drew)); exact (Kd.V_mono (Kd.V_far (p := ⟨gb587, 1, none⟩) (Kd.V_far (p := ⟨gb587, 0, none⟩) (Kd.V_mono HO586.out (fun k_ hk => (⟨hk, hk.2⟩ : _ ∧ k_ ≠ gb587))) (fun _ hk => hk.2) (.int .u64 t583)) (fun _ hk => hk.2) (.slice Ao11 t584.length co11)) (fun _ h_ => h_.1))) hb); have n1_ := Aside0.mk (blk_below (g := gb582) (o := .cells #[.int .i64 a0_0, .int .i64 a0_1, .int .i64 a0_2, .int .u64 a0_3, .slice A0_4 l0_4.length c0_4, .int .i64 a0_5, .int .u64 a0_6, .int .i64 a0_7, .int .i64 a0_8] 54 (0, 0)) (by (with_reducible repeat (first | refine blk_drewN ?_ _ | refine blk_drew ?_ | refine blk_alloc ?_ _)); refine blk_far ?_ NB582_587.out _; (with_reducible repeat (first | refine blk_drewN ?_ _ | refine blk_drew ?_ | refine blk_alloc ?_ _)); refine blk_far ?_ NB582_587.out _; (with_reducible repeat (first | refine blk_drewN ?_ _ | refine blk_drew ?_ | refine blk_alloc ?_ _)); exact BK582.out) hb); have n2_ := Aside0.mk (blk_below (g := gb587) (o := .cells #[.int .u64 t583, .slice Ao11 t584.length co11] 52 (0, 0)) (by (with_reducible repeat (first | refine blk_drewN ?_ _ | refine blk_drew ?_ | refine blk_alloc ?_ _)); refine blk_put (cs := #[.int .u64 t583, .slice none 0 0]) ?_ 1 _ rfl; (with_reducible repeat (first | refine blk_drewN ?_ _ | refine blk_drew ?_ | refine blk_alloc ?_ _)); refine blk_put (cs := #[.int .u64 0, .slice none 0 0]) ?_ 0 _ rfl; (with_reducible repeat (first | refine blk_drewN ?_ _ | refine blk_drew ?_ | refine blk_alloc ?_ _)); exact BK587.out) hb); have n3_ := Aside0.mk (below_step (by repeat (first | (with_reducible first | exact HB.out | apply below_alloc | apply pw_below_drewN | apply below_drew1 | refine below_set ?_ GE582.out | refine below_set ?_ GE587.out) | exact HB.out)) hb); clear HO586; clear BK582; clear BK587; clear HB; have HO586 := n0_; have BK582 := n1_; have BK587 := n2_; have HB := n3_; clear n0_ n1_ n2_ n3_; (try clear hb); (try clear hb2); (try clear hk); (try clear hi); have hcz26_0 : w25.cell? ⟨gb587, 0, none⟩ = some (.int .u64 t583) := (blk_cell BK587.out 0).trans rfl; have hcz26_1 : w25.cell? ⟨gb587, 1, none⟩ = some (.slice Ao11 t584.length co11) := (blk_cell BK587.out 1).trans rfl; have hfz26_0 := blk_frozen BK587.out 0; have hfz26_1 := blk_frozen BK587.out 1; have hcz27_0 : w25.cell? ⟨gb582, 0, none⟩ = some (.int .i64 a0_0) := (blk_cell BK582.out 0).trans rfl; have hcz27_1 : w25.cell? ⟨gb582, 1, none⟩ = some (.int .i64 a0_1) := (blk_cell BK582.out 1).trans rfl; have hcz27_2 : w25.cell? ⟨gb582, 2, none⟩ = some (.int .i64 a0_2) := (blk_cell BK582.out 2).trans rfl; have hcz27_3 : w25.cell? ⟨gb582, 3, none⟩ = some (.int .u64 a0_3) := (blk_cell BK582.out 3).trans rfl; have hcz27_4 : w25.cell? ⟨gb582, 4, none⟩ = some (.slice A0_4 l0_4.length c0_4) := (blk_cell BK582.out 4).trans rfl; have hcz27_5 : w25.cell? ⟨gb582, 5, none⟩ = some (.int .i64 a0_5) := (blk_cell BK582.out 5).trans rfl; have hcz27_6 : w25.cell? ⟨gb582, 6, none⟩ = some (.int .u64 a0_6) := (blk_cell BK582.out 6).trans rfl; have hcz27_7 : w25.cell? ⟨gb582, 7, none⟩ = some (.int .i64 a0_7) := (blk_cell BK582.out 7).trans rfl; have hcz27_8 : w25.cell? ⟨gb582, 8, none⟩ = some (.int .i64 a0_8) := (blk_cell BK582.out 8).trans rfl; have hfz27_0 := blk_frozen BK582.out 0; have hfz27_1 := blk_frozen BK582.out 1; have hfz27_2 := blk_frozen BK582.out 2; have hfz27_3 := blk_frozen BK582.out 3; have hfz27_4 := blk_frozen BK582.out 4; have hfz27_5 := blk_frozen BK582.out 5; have hfz27_6 := blk_frozen BK582.out 6; have hfz27_7 := blk_frozen BK582.out 7; have hfz27_8 := blk_frozen BK582.out 8))
            go_meet
            case rel => exact ⟨_, (true), (by first | rfl | (simp; done) | (simp [*]; done)), H', ⟨by first | omega | exact Nat.le_refl _⟩, ⟨by (with_reducible repeat (first | apply Kd.V_alloc | apply Kd.V_drewN | apply Kd.V_drew)); exact HO586.out⟩, ⟨by (with_reducible repeat (first | refine blk_drewN ?_ _ | refine blk_drew ?_ | refine blk_alloc ?_ _)); exact BK582.out⟩, ⟨by (with_reducible repeat (first | refine blk_drewN ?_ _ | refine blk_drew ?_ | refine blk_alloc ?_ _)); exact BK587.out⟩, ⟨by repeat (first | (with_reducible first | exact HB.out | apply below_alloc | apply pw_below_drewN | apply below_drew1 | refine below_set ?_ GE582.out | refine below_set ?_ GE587.out) | exact HB.out)⟩⟩
          · rw [if_neg c22] at H
            have c22b0 : decide (a0_7 < 0) = false := decide_eq_false c22
            clear c22
            have H' := Aside0.mk H
            clear H
            have hnb28 := NB587_582.out
            have hnc28 := NB582_587.out
            have hcz29_0 : w8.cell? ⟨gb587, 0, none⟩ = some (.int .u64 0) := (blk_cell BK587.out 0).trans rfl
            have hcz29_1 : w8.cell? ⟨gb587, 1, none⟩ = some (.slice none 0 0) := (blk_cell BK587.out 1).trans rfl
            have hfz29_0 := blk_frozen BK587.out 0
            have hfz29_1 := blk_frozen BK587.out 1
            go_wp2_with (first | (go_at_call 28; (with_reducible refine (lead_Check.calls t583 _ _ t584 t588 _ ?side1 ?side2 A15.out).mono ?_); (case side1 => refine (Kd.V_reads' (e := 2) (base := w.heap.size) (ok := fun k_ => (k_ ≠ gb582 ∧ k_ ≠ gb587)) (n := t584.length) (c := co11) ?_).2.2; exact (by (with_reducible repeat (first | apply Kd.V_alloc | apply Kd.V_drewN | apply Kd.V_drew)); exact (Kd.V_mono (Kd.V_far (p := ⟨gb587, 1, none⟩) (Kd.V_far (p := ⟨gb587, 0, none⟩) (Kd.V_mono HO586.out (fun k_ hk => (⟨hk, hk.2⟩ : _ ∧ k_ ≠ gb587))) (fun _ hk => hk.2) (.int .u64 t583)) (fun _ hk => hk.2) (.slice Ao11 t584.length co11)) (fun _ h_ => h_.1)))); (case side2 => exact (Kd.V_reads' HO586.out).2.1); rintro e w30 ⟨rfl, hb⟩; have n0_ := Aside0.mk (Kd.V_below (by (with_reducible repeat (first | apply Kd.V_alloc | apply Kd.V_drewN | apply Kd.V_drew)); exact (Kd.V_mono (Kd.V_far (p := ⟨gb587, 1, none⟩) (Kd.V_far (p := ⟨gb587, 0, none⟩) (Kd.V_mono HO586.out (fun k_ hk => (⟨hk, hk.2⟩ : _ ∧ k_ ≠ gb587))) (fun _ hk => hk.2) (.int .u64 t583)) (fun _ hk => hk.2) (.slice Ao11 t584.length co11)) (fun _ h_ => h_.1))) hb); have n1_ := Aside0.mk (blk_below (g := gb582) (o := .cells #[.int .i64 a0_0, .int .i64 a0_1, .int .i64 a0_2, .int .u64 a0_3, .slice A0_4 l0_4.length c0_4, .int .i64 a0_5, .int .u64 a0_6, .int .i64 a0_7, .int .i64 a0_8] 54 (0, 0)) (by (with_reducible repeat (first | refine blk_drewN ?_ _ | refine blk_drew ?_ | refine blk_alloc ?_ _)); refine blk_far ?_ NB582_587.out _; (with_reducible repeat (first | refine blk_drewN ?_ _ | refine blk_drew ?_ | refine blk_alloc ?_ _)); refine blk_far ?_ NB582_587.out _; (with_reducible repeat (first | refine blk_drewN ?_ _ | refine blk_drew ?_ | refine blk_alloc ?_ _)); exact BK582.out) hb); have n2_ := Aside0.mk (blk_below (g := gb587) (o := .cells #[.int .u64 t583, .slice Ao11 t584.length co11] 52 (0, 0)) (by (with_reducible repeat (first | refine blk_drewN ?_ _ | refine blk_drew ?_ | refine blk_alloc ?_ _)); refine blk_put (cs := #[.int .u64 t583, .slice none 0 0]) ?_ 1 _ rfl; (with_reducible repeat (first | refine blk_drewN ?_ _ | refine blk_drew ?_ | refine blk_alloc ?_ _)); refine blk_put (cs := #[.int .u64 0, .slice none 0 0]) ?_ 0 _ rfl; (with_reducible repeat (first | refine blk_drewN ?_ _ | refine blk_drew ?_ | refine blk_alloc ?_ _)); exact BK587.out) hb); have n3_ := Aside0.mk (below_step (by repeat (first | (with_reducible first | exact HB.out | apply below_alloc | apply pw_below_drewN | apply below_drew1 | refine below_set ?_ GE582.out | refine below_set ?_ GE587.out) | exact HB.out)) hb); clear HO586; clear BK582; clear BK587; clear HB; have HO586 := n0_; have BK582 := n1_; have BK587 := n2_; have HB := n3_; clear n0_ n1_ n2_ n3_; (try clear hb); (try clear hb2); (try clear hk); (try clear hi); have hcz31_0 : w30.cell? ⟨gb587, 0, none⟩ = some (.int .u64 t583) := (blk_cell BK587.out 0).trans rfl; have hcz31_1 : w30.cell? ⟨gb587, 1, none⟩ = some (.slice Ao11 t584.length co11) := (blk_cell BK587.out 1).trans rfl; have hfz31_0 := blk_frozen BK587.out 0; have hfz31_1 := blk_frozen BK587.out 1; have hcz32_0 : w30.cell? ⟨gb582, 0, none⟩ = some (.int .i64 a0_0) := (blk_cell BK582.out 0).trans rfl; have hcz32_1 : w30.cell? ⟨gb582, 1, none⟩ = some (.int .i64 a0_1) := (blk_cell BK582.out 1).trans rfl; have hcz32_2 : w30.cell? ⟨gb582, 2, none⟩ = some (.int .i64 a0_2) := (blk_cell BK582.out 2).trans rfl; have hcz32_3 : w30.cell? ⟨gb582, 3, none⟩ = some (.int .u64 a0_3) := (blk_cell BK582.out 3).trans rfl; have hcz32_4 : w30.cell? ⟨gb582, 4, none⟩ = some (.slice A0_4 l0_4.length c0_4) := (blk_cell BK582.out 4).trans rfl; have hcz32_5 : w30.cell? ⟨gb582, 5, none⟩ = some (.int .i64 a0_5) := (blk_cell BK582.out 5).trans rfl; have hcz32_6 : w30.cell? ⟨gb582, 6, none⟩ = some (.int .u64 a0_6) := (blk_cell BK582.out 6).trans rfl; have hcz32_7 : w30.cell? ⟨gb582, 7, none⟩ = some (.int .i64 a0_7) := (blk_cell BK582.out 7).trans rfl; have hcz32_8 : w30.cell? ⟨gb582, 8, none⟩ = some (.int .i64 a0_8) := (blk_cell BK582.out 8).trans rfl; have hfz32_0 := blk_frozen BK582.out 0; have hfz32_1 := blk_frozen BK582.out 1; have hfz32_2 := blk_frozen BK582.out 2; have hfz32_3 := blk_frozen BK582.out 3; have hfz32_4 := blk_frozen BK582.out 4; have hfz32_5 := blk_frozen BK582.out 5; have hfz32_6 := blk_frozen BK582.out 6; have hfz32_7 := blk_frozen BK582.out 7; have hfz32_8 := blk_frozen BK582.out 8))
            go_meet
            case rel => exact ⟨_, (decide (a0_7 > 1099511627776)), (by first | rfl | (simp; done) | (simp [*]; done)), H', ⟨by first | omega | exact Nat.le_refl _⟩, ⟨by (with_reducible repeat (first | apply Kd.V_alloc | apply Kd.V_drewN | apply Kd.V_drew)); exact HO586.out⟩, ⟨by (with_reducible repeat (first | refine blk_drewN ?_ _ | refine blk_drew ?_ | refine blk_alloc ?_ _)); exact BK582.out⟩, ⟨by (with_reducible repeat (first | refine blk_drewN ?_ _ | refine blk_drew ?_ | refine blk_alloc ?_ _)); exact BK587.out⟩, ⟨by repeat (first | (with_reducible first | exact HB.out | apply below_alloc | apply pw_below_drewN | apply below_drew1 | refine below_set ?_ GE582.out | refine below_set ?_ GE587.out) | exact HB.out)⟩⟩
      · rw [if_neg c16] at H
        have c16b0 : (t588 == 0) = false := beq_eq_false_iff_ne.mpr c16
        have c16b1 : (t588 != 0) = true := bne_iff_ne.mpr c16
        have H' := Aside0.mk H
        clear H
        have hnb33 := NB587_582.out
        have hnc33 := NB582_587.out
        have hcz34_0 : w8.cell? ⟨gb587, 0, none⟩ = some (.int .u64 0) := (blk_cell BK587.out 0).trans rfl
        have hcz34_1 : w8.cell? ⟨gb587, 1, none⟩ = some (.slice none 0 0) := (blk_cell BK587.out 1).trans rfl
        have hfz34_0 := blk_frozen BK587.out 0
        have hfz34_1 := blk_frozen BK587.out 1
        go_wp2_with (first | (go_at_call 28; (with_reducible refine (lead_Check.calls t583 _ _ t584 t588 _ ?side1 ?side2 A15.out).mono ?_); (case side1 => refine (Kd.V_reads' (e := 2) (base := w.heap.size) (ok := fun k_ => (k_ ≠ gb582 ∧ k_ ≠ gb587)) (n := t584.length) (c := co11) ?_).2.2; exact (by (with_reducible repeat (first | apply Kd.V_alloc | apply Kd.V_drewN | apply Kd.V_drew)); exact (Kd.V_mono (Kd.V_far (p := ⟨gb587, 1, none⟩) (Kd.V_far (p := ⟨gb587, 0, none⟩) (Kd.V_mono HO586.out (fun k_ hk => (⟨hk, hk.2⟩ : _ ∧ k_ ≠ gb587))) (fun _ hk => hk.2) (.int .u64 t583)) (fun _ hk => hk.2) (.slice Ao11 t584.length co11)) (fun _ h_ => h_.1)))); (case side2 => exact (Kd.V_reads' HO586.out).2.1); rintro e w35 ⟨rfl, hb⟩; have n0_ := Aside0.mk (Kd.V_below (by (with_reducible repeat (first | apply Kd.V_alloc | apply Kd.V_drewN | apply Kd.V_drew)); exact (Kd.V_mono (Kd.V_far (p := ⟨gb587, 1, none⟩) (Kd.V_far (p := ⟨gb587, 0, none⟩) (Kd.V_mono HO586.out (fun k_ hk => (⟨hk, hk.2⟩ : _ ∧ k_ ≠ gb587))) (fun _ hk => hk.2) (.int .u64 t583)) (fun _ hk => hk.2) (.slice Ao11 t584.length co11)) (fun _ h_ => h_.1))) hb); have n1_ := Aside0.mk (blk_below (g := gb582) (o := .cells #[.int .i64 a0_0, .int .i64 a0_1, .int .i64 a0_2, .int .u64 a0_3, .slice A0_4 l0_4.length c0_4, .int .i64 a0_5, .int .u64 a0_6, .int .i64 a0_7, .int .i64 a0_8] 54 (0, 0)) (by (with_reducible repeat (first | refine blk_drewN ?_ _ | refine blk_drew ?_ | refine blk_alloc ?_ _)); refine blk_far ?_ NB582_587.out _; (with_reducible repeat (first | refine blk_drewN ?_ _ | refine blk_drew ?_ | refine blk_alloc ?_ _)); refine blk_far ?_ NB582_587.out _; (with_reducible repeat (first | refine blk_drewN ?_ _ | refine blk_drew ?_ | refine blk_alloc ?_ _)); exact BK582.out) hb); have n2_ := Aside0.mk (blk_below (g := gb587) (o := .cells #[.int .u64 t583, .slice Ao11 t584.length co11] 52 (0, 0)) (by (with_reducible repeat (first | refine blk_drewN ?_ _ | refine blk_drew ?_ | refine blk_alloc ?_ _)); refine blk_put (cs := #[.int .u64 t583, .slice none 0 0]) ?_ 1 _ rfl; (with_reducible repeat (first | refine blk_drewN ?_ _ | refine blk_drew ?_ | refine blk_alloc ?_ _)); refine blk_put (cs := #[.int .u64 0, .slice none 0 0]) ?_ 0 _ rfl; (with_reducible repeat (first | refine blk_drewN ?_ _ | refine blk_drew ?_ | refine blk_alloc ?_ _)); exact BK587.out) hb); have n3_ := Aside0.mk (below_step (by repeat (first | (with_reducible first | exact HB.out | apply below_alloc | apply pw_below_drewN | apply below_drew1 | refine below_set ?_ GE582.out | refine below_set ?_ GE587.out) | exact HB.out)) hb); clear HO586; clear BK582; clear BK587; clear HB; have HO586 := n0_; have BK582 := n1_; have BK587 := n2_; have HB := n3_; clear n0_ n1_ n2_ n3_; (try clear hb); (try clear hb2); (try clear hk); (try clear hi)))
        go_meet
        case rel => exact ⟨_, (true), (by first | rfl | (simp; done) | (simp [*]; done)), H', ⟨by first | omega | exact Nat.le_refl _⟩, ⟨by (with_reducible repeat (first | apply Kd.V_alloc | apply Kd.V_drewN | apply Kd.V_drew)); exact HO586.out⟩, ⟨by (with_reducible repeat (first | refine blk_drewN ?_ _ | refine blk_drew ?_ | refine blk_alloc ?_ _)); exact BK582.out⟩, ⟨by (with_reducible repeat (first | refine blk_drewN ?_ _ | refine blk_drew ?_ | refine blk_alloc ?_ _)); exact BK587.out⟩, ⟨by repeat (first | (with_reducible first | exact HB.out | apply below_alloc | apply pw_below_drewN | apply below_drew1 | refine below_set ?_ GE582.out | refine below_set ?_ GE587.out) | exact HB.out)⟩⟩
  case rest =>
    clear HC4
    try clear c1
    try clear c2
    try clear p2
    try clear c3
    try clear c9
    try clear c11
    try clear c12
    try clear c12b0
    try clear c13
    try clear c16
    try clear c16b0
    try clear c16b1
    try clear c17
    try clear c17b0
    try clear c17b1
    try clear c17b2
    try clear c18
    try clear c21
    try clear c22
    try clear c22b0
    try clear c23
    try clear c28
    try clear c33
    try clear hcz10_0
    try clear hcz10_1
    try clear hcz14_0
    try clear hcz14_1
    try clear hcz19_0
    try clear hcz19_1
    try clear hcz21_0
    try clear hcz21_1
    try clear hcz24_0
    try clear hcz24_1
    try clear hcz26_0
    try clear hcz26_1
    try clear hcz27_0
    try clear hcz27_1
    try clear hcz27_2
    try clear hcz27_3
    try clear hcz27_4
    try clear hcz27_5
    try clear hcz27_6
    try clear hcz27_7
    try clear hcz27_8
    try clear hcz29_0
    try clear hcz29_1
    try clear hcz31_0
    try clear hcz31_1
    try clear hcz32_0
    try clear hcz32_1
    try clear hcz32_2
    try clear hcz32_3
    try clear hcz32_4
    try clear hcz32_5
    try clear hcz32_6
    try clear hcz32_7
    try clear hcz32_8
    try clear hcz34_0
    try clear hcz34_1
    try clear hcz6_0
    try clear hcz6_1
    try clear hcz6_2
    try clear hcz6_3
    try clear hcz6_4
    try clear hcz6_5
    try clear hcz6_6
    try clear hcz6_7
    try clear hcz6_8
    try clear hfz10_0
    try clear hfz10_1
    try clear hfz14_0
    try clear hfz14_1
    try clear hfz19_0
    try clear hfz19_1
    try clear hfz21_0
    try clear hfz21_1
    try clear hfz24_0
    try clear hfz24_1
    try clear hfz26_0
    try clear hfz26_1
    try clear hfz27_0
    try clear hfz27_1
    try clear hfz27_2
    try clear hfz27_3
    try clear hfz27_4
    try clear hfz27_5
    try clear hfz27_6
    try clear hfz27_7
    try clear hfz27_8
    try clear hfz29_0
    try clear hfz29_1
    try clear hfz31_0
    try clear hfz31_1
    try clear hfz32_0
    try clear hfz32_1
    try clear hfz32_2
    try clear hfz32_3
    try clear hfz32_4
    try clear hfz32_5
    try clear hfz32_6
    try clear hfz32_7
    try clear hfz32_8
    try clear hfz34_0
    try clear hfz34_1
    try clear hfz6_0
    try clear hfz6_1
    try clear hfz6_2
    try clear hfz6_3
    try clear hfz6_4
    try clear hfz6_5
    try clear hfz6_6
    try clear hfz6_7
    try clear hfz6_8
    obtain ⟨kq, x50_3, rfl, HA, HJ3, HO_588001, BK582, BK587, HB⟩ := hcut
    cases kq with
    | zero => exact absurd HA.out (by simp [tattlelaw18_LeadStarts.j0])
    | succ kj3 =>
      have H := HA.out
      clear HA
      simp only [tattlelaw18_LeadStarts.j0] at H
      by_cases c36 : x50_3 = true
      · subst c36
        have H1 : ((tattlelaw18_awakeT.f).bind fun t589 => (some t589)) = some r := by rw [if_pos rfl] at H; exact H
        clear H
        have H := H1
        clear H1
        replace H := Option.bind_eq_some_iff.mp H
        obtain ⟨t589, A370, H⟩ := H
        replace H : (some t589) = some r := H
        have A37 := Aside0.mk A370
        clear A370
        obtain rfl := Option.some.inj H
        go_wp2_with (first | ((with_reducible refine gate_callee (f := 24) rfl ?_); refine goesL_ (some 51) rfl rfl Try.func24 (by kernel_rfl) rfl #[] rfl (by (try simp only [List.map_toArray, List.map_cons, List.map_nil]); first | done | rfl | (simp only [List.length_drop, List.length_take]; rfl)) ?_; (with_reducible refine (tattlelaw18_awakeT.calls  t589 _ A37.out).mono ?_); rintro e w38 ⟨rfl, hb⟩; refine ⟨_, rfl, ?_⟩; have n0_ := Aside0.mk (Kd.V_below (by (with_reducible repeat (first | apply Kd.V_alloc | apply Kd.V_drewN | apply Kd.V_drew)); exact HO_588001.out) hb); have n1_ := Aside0.mk (blk_below (g := gb582) (o := .cells #[.int .i64 a0_0, .int .i64 a0_1, .int .i64 a0_2, .int .u64 a0_3, .slice A0_4 l0_4.length c0_4, .int .i64 a0_5, .int .u64 a0_6, .int .i64 a0_7, .int .i64 a0_8] 54 (0, 0)) (by (with_reducible repeat (first | refine blk_drewN ?_ _ | refine blk_drew ?_ | refine blk_alloc ?_ _)); exact BK582.out) hb); have n2_ := Aside0.mk (blk_below (g := gb587) (o := .cells #[.int .u64 t583, .slice Ao11 t584.length co11] 52 (0, 0)) (by (with_reducible repeat (first | refine blk_drewN ?_ _ | refine blk_drew ?_ | refine blk_alloc ?_ _)); exact BK587.out) hb); have n3_ := Aside0.mk (below_step (by repeat (first | (with_reducible first | exact HB.out | apply below_alloc | apply pw_below_drewN | apply below_drew1 | refine below_set ?_ GE582.out | refine below_set ?_ GE587.out) | exact HB.out)) hb); clear HO_588001; clear BK582; clear BK587; clear HB; have HO_588001 := n0_; have BK582 := n1_; have BK587 := n2_; have HB := n3_; clear n0_ n1_ n2_ n3_; (try clear hb); (try clear hb2); (try clear hk); (try clear hi)))
        go_ret
        exact ⟨by first | rfl | (simp [errW_none, errW_some] <;> rfl) | (simp [*, errW_none, errW_some] <;> rfl), by repeat (first | (with_reducible first | exact HB.out | apply below_alloc | apply pw_below_drewN | apply below_drew1 | refine below_set ?_ GE582.out | refine below_set ?_ GE587.out) | exact HB.out)⟩
      · replace c36 := Bool.eq_false_iff.mpr c36
        subst c36
        have H1 : ((lead_Start.f t583 t584 (IntKind.u64.wrap ((IntKind.u64.wrap (t583 + 1)) + (IntKind.u64.wrap (a1))))).bind fun bt590 => (if bt590.2.2 = 0 then (if bt590.1 = (IntKind.u64.wrap ((IntKind.u64.wrap (t583 + 1)) + (IntKind.u64.wrap (a1)))) then (if (bt590.2.1.length : Int) = (t584.length : Int) then ((lead_Valid.f a0_0 a0_1 a0_2 bt590.1 bt590.2.1 0).bind fun t596 => (tattlelaw18_LeadStarts.j1 kj3 (IntKind.u64.wrap ((IntKind.u64.wrap (t583 + 1)) + (IntKind.u64.wrap (a1)))) t596 a0_0 a0_1 a0_2 a0_3 l0_4 a0_5 a0_6 a0_7 a0_8 t583 t584 bt590.1 bt590.2.1)) else (tattlelaw18_LeadStarts.j1 kj3 (IntKind.u64.wrap ((IntKind.u64.wrap (t583 + 1)) + (IntKind.u64.wrap (a1)))) true a0_0 a0_1 a0_2 a0_3 l0_4 a0_5 a0_6 a0_7 a0_8 t583 t584 bt590.1 bt590.2.1)) else (tattlelaw18_LeadStarts.j1 kj3 (IntKind.u64.wrap ((IntKind.u64.wrap (t583 + 1)) + (IntKind.u64.wrap (a1)))) true a0_0 a0_1 a0_2 a0_3 l0_4 a0_5 a0_6 a0_7 a0_8 t583 t584 bt590.1 bt590.2.1)) else (tattlelaw18_LeadStarts.j1 kj3 (IntKind.u64.wrap ((IntKind.u64.wrap (t583 + 1)) + (IntKind.u64.wrap (a1)))) true a0_0 a0_1 a0_2 a0_3 l0_4 a0_5 a0_6 a0_7 a0_8 t583 t584 bt590.1 bt590.2.1))) = some r := by rw [if_neg (show ¬ (false = true) by decide)] at H; exact H
        clear H
        have H := H1
        clear H1
        replace H := Option.bind_eq_some_iff.mp H
        obtain ⟨⟨t590, t591, t594⟩, A390, H⟩ := H
        replace H : (if t594 = 0 then (if t590 = (IntKind.u64.wrap ((IntKind.u64.wrap (t583 + 1)) + (IntKind.u64.wrap (a1)))) then (if (t591.length : Int) = (t584.length : Int) then ((lead_Valid.f a0_0 a0_1 a0_2 t590 t591 0).bind fun t596 => (tattlelaw18_LeadStarts.j1 kj3 (IntKind.u64.wrap ((IntKind.u64.wrap (t583 + 1)) + (IntKind.u64.wrap (a1)))) t596 a0_0 a0_1 a0_2 a0_3 l0_4 a0_5 a0_6 a0_7 a0_8 t583 t584 t590 t591)) else (tattlelaw18_LeadStarts.j1 kj3 (IntKind.u64.wrap ((IntKind.u64.wrap (t583 + 1)) + (IntKind.u64.wrap (a1)))) true a0_0 a0_1 a0_2 a0_3 l0_4 a0_5 a0_6 a0_7 a0_8 t583 t584 t590 t591)) else (tattlelaw18_LeadStarts.j1 kj3 (IntKind.u64.wrap ((IntKind.u64.wrap (t583 + 1)) + (IntKind.u64.wrap (a1)))) true a0_0 a0_1 a0_2 a0_3 l0_4 a0_5 a0_6 a0_7 a0_8 t583 t584 t590 t591)) else (tattlelaw18_LeadStarts.j1 kj3 (IntKind.u64.wrap ((IntKind.u64.wrap (t583 + 1)) + (IntKind.u64.wrap (a1)))) true a0_0 a0_1 a0_2 a0_3 l0_4 a0_5 a0_6 a0_7 a0_8 t583 t584 t590 t591)) = some r := H
        have A39 := Aside0.mk A390
        clear A390
        have HC40 := Aside0.mk H
        clear H
        have hnb41 := NB587_582.out
        have hnc41 := NB582_587.out
        have hcz42_0 : wc.cell? ⟨gb587, 0, none⟩ = some (.int .u64 t583) := (blk_cell BK587.out 0).trans rfl
        have hcz42_1 : wc.cell? ⟨gb587, 1, none⟩ = some (.slice Ao11 t584.length co11) := (blk_cell BK587.out 1).trans rfl
        have hfz42_0 := blk_frozen BK587.out 0
        have hfz42_1 := blk_frozen BK587.out 1
        go_upto_region 6 with (first | ((with_reducible refine gate_callee (f := 29) rfl ?_); refine goesL_ (some 55) rfl rfl Try.func29 (by kernel_rfl) rfl #[.agg #[.int .u64 t583, .slice Ao11 t584.length co11], .int .u64 (IntKind.u64.wrap ((IntKind.u64.wrap (t583 + 1)) + (IntKind.u64.wrap (a1))))] rfl (by (try simp only [List.map_toArray, List.map_cons, List.map_nil]); first | done | rfl | (simp only [List.length_drop, List.length_take]; rfl)) ?_; (with_reducible refine (lead_Start.calls t583 (fun k_ => (k_ ≠ gb582 ∧ k_ ≠ gb587)) _ _ t584 (IntKind.u64.wrap ((IntKind.u64.wrap (t583 + 1)) + (IntKind.u64.wrap (a1)))) t590 t591 t594 _ ?side1 A39.out).mono ?_); (case side1 => exact HO_588001.out); rintro e w43 ⟨v592, rfl, ho0, hb⟩; refine ⟨_, rfl, ?_⟩; have n0_ := Aside0.mk (Kd.V_below (by (with_reducible repeat (first | apply Kd.V_alloc | apply Kd.V_drewN | apply Kd.V_drew)); exact HO_588001.out) hb); have n1_ := Aside0.mk (Kd.V_lower (Kd.V_mono (ok' := fun k_ => k_ ≠ gb582 ∧ k_ ≠ gb587) ho0 (fun k_ hk_ => ⟨Or.elim hk_ (fun hs_ => hs_.1) (fun hn_ => (Kd.freshB (g := gb582) (o := .cells #[.int .i64 a0_0, .int .i64 a0_1, .int .i64 a0_2, .int .u64 a0_3, .slice A0_4 l0_4.length c0_4, .int .i64 a0_5, .int .u64 a0_6, .int .i64 a0_7, .int .i64 a0_8] 54 (0, 0)) (by (with_reducible repeat (first | refine blk_drewN ?_ _ | refine blk_drew ?_ | refine blk_alloc ?_ _)); exact BK582.out) k_ hn_)), Or.elim hk_ (fun hs_ => hs_.2) (fun hn_ => (Kd.freshB (g := gb587) (o := .cells #[.int .u64 t583, .slice Ao11 t584.length co11] 52 (0, 0)) (by (with_reducible repeat (first | refine blk_drewN ?_ _ | refine blk_drew ?_ | refine blk_alloc ?_ _)); exact BK587.out) k_ hn_))⟩)) (below_size (by repeat (first | (with_reducible first | exact HB.out | apply below_alloc | apply pw_below_drewN | apply below_drew1 | refine below_set ?_ GE582.out | refine below_set ?_ GE587.out) | exact HB.out)))); have n2_ := Aside0.mk (blk_below (g := gb582) (o := .cells #[.int .i64 a0_0, .int .i64 a0_1, .int .i64 a0_2, .int .u64 a0_3, .slice A0_4 l0_4.length c0_4, .int .i64 a0_5, .int .u64 a0_6, .int .i64 a0_7, .int .i64 a0_8] 54 (0, 0)) (by (with_reducible repeat (first | refine blk_drewN ?_ _ | refine blk_drew ?_ | refine blk_alloc ?_ _)); exact BK582.out) hb); have n3_ := Aside0.mk (blk_below (g := gb587) (o := .cells #[.int .u64 t583, .slice Ao11 t584.length co11] 52 (0, 0)) (by (with_reducible repeat (first | refine blk_drewN ?_ _ | refine blk_drew ?_ | refine blk_alloc ?_ _)); exact BK587.out) hb); have n4_ := Aside0.mk (below_step (by repeat (first | (with_reducible first | exact HB.out | apply below_alloc | apply pw_below_drewN | apply below_drew1 | refine below_set ?_ GE582.out | refine below_set ?_ GE587.out) | exact HB.out)) hb); clear HO_588001; clear BK582; clear BK587; clear HB; have HO_588001 := n0_; have HO593 := n1_; have BK582 := n2_; have BK587 := n3_; have HB := n4_; clear n0_ n1_ n2_ n3_ n4_; (try clear hb); (try clear hb2); (try clear hk); (try clear hi); (try clear ho0)) | ((with_reducible refine gate_dst (N := 7) rfl ?_); (try (refine gate_guard (by rfl) ?_; dsimp only)); refine box_event ?hg (N := 7) ?hd (cs := #[.int .u64 0, .slice none 0 0]) (t := 52) ?hr ?_; (case hd => rfl); (case hg => rfl); (case hr => first | (go_simp; done) | (go_simp; rfl)); intro gb595 hg w44 hbox hb; have n0_ := Aside0.mk (Kd.V_below (Kd.V_elderB (by (with_reducible repeat (first | apply Kd.V_alloc | apply Kd.V_drewN | apply Kd.V_drew)); exact HO_588001.out) gb595 (Nat.le_of_eq hg.symm)) hb); have n1_ := Aside0.mk (Kd.V_below (Kd.V_elderB (by (with_reducible repeat (first | apply Kd.V_alloc | apply Kd.V_drewN | apply Kd.V_drew)); exact HO593.out) gb595 (Nat.le_of_eq hg.symm)) hb); have n2_ := Aside0.mk (blk_below (g := gb582) (o := .cells #[.int .i64 a0_0, .int .i64 a0_1, .int .i64 a0_2, .int .u64 a0_3, .slice A0_4 l0_4.length c0_4, .int .i64 a0_5, .int .u64 a0_6, .int .i64 a0_7, .int .i64 a0_8] 54 (0, 0)) (by (with_reducible repeat (first | refine blk_drewN ?_ _ | refine blk_drew ?_ | refine blk_alloc ?_ _)); exact BK582.out) hb); have n3_ := Aside0.mk (blk_below (g := gb587) (o := .cells #[.int .u64 t583, .slice Ao11 t584.length co11] 52 (0, 0)) (by (with_reducible repeat (first | refine blk_drewN ?_ _ | refine blk_drew ?_ | refine blk_alloc ?_ _)); exact BK587.out) hb); have n4_ := Aside0.mk (below_step (by repeat (first | (with_reducible first | exact HB.out | apply below_alloc | apply pw_below_drewN | apply below_drew1 | refine below_set ?_ GE582.out | refine below_set ?_ GE587.out) | exact HB.out)) hb); have n5_ := Aside0.mk (hbox); have n6_ := Aside0.mk ((by rw [hg]; exact (below_size (by repeat (first | (with_reducible first | exact HB.out | apply below_alloc | apply pw_below_drewN | apply below_drew1 | refine below_set ?_ GE582.out | refine below_set ?_ GE587.out) | exact HB.out))) : w.heap.size ≤ gb595)); have n7_ := Aside0.mk ((by rw [hg]; exact (below_size (by repeat (first | (with_reducible first | exact HB.out | apply below_alloc | apply pw_below_drewN | apply below_drew1 | refine below_set ?_ GE582.out | refine below_set ?_ GE587.out) | exact HB.out))) : w.heap.size ≤ gb595)); have n8_ := Aside0.mk ((by rw [hg]; exact Nat.ne_of_lt (blk_lt (g := gb582) (o := .cells #[.int .i64 a0_0, .int .i64 a0_1, .int .i64 a0_2, .int .u64 a0_3, .slice A0_4 l0_4.length c0_4, .int .i64 a0_5, .int .u64 a0_6, .int .i64 a0_7, .int .i64 a0_8] 54 (0, 0)) (by (with_reducible repeat (first | refine blk_drewN ?_ _ | refine blk_drew ?_ | refine blk_alloc ?_ _)); exact BK582.out)) : gb582 ≠ gb595)); have n9_ := Aside0.mk ((by rw [hg]; exact Nat.ne_of_gt (blk_lt (g := gb582) (o := .cells #[.int .i64 a0_0, .int .i64 a0_1, .int .i64 a0_2, .int .u64 a0_3, .slice A0_4 l0_4.length c0_4, .int .i64 a0_5, .int .u64 a0_6, .int .i64 a0_7, .int .i64 a0_8] 54 (0, 0)) (by (with_reducible repeat (first | refine blk_drewN ?_ _ | refine blk_drew ?_ | refine blk_alloc ?_ _)); exact BK582.out)) : gb595 ≠ gb582)); have n10_ := Aside0.mk ((by rw [hg]; exact Nat.ne_of_lt (blk_lt (g := gb587) (o := .cells #[.int .u64 t583, .slice Ao11 t584.length co11] 52 (0, 0)) (by (with_reducible repeat (first | refine blk_drewN ?_ _ | refine blk_drew ?_ | refine blk_alloc ?_ _)); exact BK587.out)) : gb587 ≠ gb595)); have n11_ := Aside0.mk ((by rw [hg]; exact Nat.ne_of_gt (blk_lt (g := gb587) (o := .cells #[.int .u64 t583, .slice Ao11 t584.length co11] 52 (0, 0)) (by (with_reducible repeat (first | refine blk_drewN ?_ _ | refine blk_drew ?_ | refine blk_alloc ?_ _)); exact BK587.out)) : gb595 ≠ gb587)); clear HO_588001; clear HO593; clear BK582; clear BK587; clear HB; have HO_588001 := n0_; have HO593 := n1_; have BK582 := n2_; have BK587 := n3_; have HB := n4_; have BK595 := n5_; have GW595 := n6_; have GE595 := n7_; have NB582_595 := n8_; have NB595_582 := n9_; have NB587_595 := n10_; have NB595_587 := n11_; clear n0_ n1_ n2_ n3_ n4_ n5_ n6_ n7_ n8_ n9_ n10_ n11_; clear hb hbox hg; have hnb45 := NB595_582.out; have hnc45 := NB582_595.out; have hnb46 := NB595_587.out; have hnc46 := NB587_595.out; have hcz47_0 : w44.cell? ⟨gb595, 0, none⟩ = some (.int .u64 0) := (blk_cell BK595.out 0).trans rfl; have hcz47_1 : w44.cell? ⟨gb595, 1, none⟩ = some (.slice none 0 0) := (blk_cell BK595.out 1).trans rfl; have hfz47_0 := blk_frozen BK595.out 0; have hfz47_1 := blk_frozen BK595.out 1; obtain ⟨Ao48, co48, eo48⟩ := Kd.V_slice HO593.out; subst eo48))
        (try simp only [Act.put, List.setIfInBounds_toArray, List.set_cons_zero, List.set_cons_succ])
        go_cut [80] (fun v80 wc => ∃ (kq : Nat) (x80_39 : Bool), v80 = .bool x80_39 ∧ Aside0 (tattlelaw18_LeadStarts.j1 kq (IntKind.u64.wrap ((IntKind.u64.wrap (t583 + 1)) + (IntKind.u64.wrap (a1)))) x80_39 a0_0 a0_1 a0_2 a0_3 l0_4 a0_5 a0_6 a0_7 a0_8 t583 t584 t590 t591 = some r) ∧ Aside0 (kq ≤ kj3) ∧ Aside0 (Kd.V (Kd.int .i64) 2 wc w.heap.size (fun k_ => k_ ≠ gb582 ∧ k_ ≠ gb587 ∧ k_ ≠ gb595) (.slice Ao11 t584.length co11) t584) ∧ Aside0 (Kd.V (Kd.int .i64) 2 wc w.heap.size (fun k_ => k_ ≠ gb582 ∧ k_ ≠ gb587 ∧ k_ ≠ gb595) (.slice Ao48 t591.length co48) t591) ∧ Aside0 (wc.heap[gb582]? = some (.cells #[.int .i64 a0_0, .int .i64 a0_1, .int .i64 a0_2, .int .u64 a0_3, (.slice A0_4 l0_4.length c0_4), .int .i64 a0_5, .int .u64 a0_6, .int .i64 a0_7, .int .i64 a0_8] 54 (0, 0))) ∧ Aside0 (wc.heap[gb587]? = some (.cells #[.int .u64 t583, (.slice Ao11 t584.length co11)] 52 (0, 0))) ∧ Aside0 (wc.heap[gb595]? = some (.cells #[.int .u64 t590, (.slice Ao48 t591.length co48)] 52 (0, 0))) ∧ Aside0 (Below w.heap.size w wc))
        case first =>
          have H := HC40.out
          clear HC40
          by_cases c49 : t594 = 0
          · rw [if_pos c49] at H
            have c49b0 : (t594 == 0) = true := beq_iff_eq.mpr c49
            have c49b1 : (t594 != 0) = false := bne_eq_false_iff_eq.mpr c49
            clear c49
            (first | rw [c49b0] | (simp only [i64_w, i32_w]; rw [c49b0]) | skip)
            by_cases c50 : t590 = (IntKind.u64.wrap ((IntKind.u64.wrap (t583 + 1)) + (IntKind.u64.wrap (a1))))
            · rw [if_pos c50] at H
              have c50b0 : (t590 == (IntKind.u64.wrap ((IntKind.u64.wrap (t583 + 1)) + (IntKind.u64.wrap (a1))))) = true := beq_iff_eq.mpr c50
              have c50b1 : (t590 != (IntKind.u64.wrap ((IntKind.u64.wrap (t583 + 1)) + (IntKind.u64.wrap (a1))))) = false := bne_eq_false_iff_eq.mpr c50
              clear c50
              by_cases c51 : (t591.length : Int) = (t584.length : Int)
              · rw [if_pos c51] at H
                have c51b0 : ((t591.length : Int) == (t584.length : Int)) = true := beq_iff_eq.mpr c51
                have c51b1 : ((t591.length : Int) != (t584.length : Int)) = false := bne_eq_false_iff_eq.mpr c51
                have c51b2 : (t591.length == t584.length) = true := by first | simpa using c51 | (simp at c51 ⊢; omega)
                clear c51
                replace H := Option.bind_eq_some_iff.mp H
                obtain ⟨t596, A520, H⟩ := H
                replace H : (tattlelaw18_LeadStarts.j1 kj3 (IntKind.u64.wrap ((IntKind.u64.wrap (t583 + 1)) + (IntKind.u64.wrap (a1)))) t596 a0_0 a0_1 a0_2 a0_3 l0_4 a0_5 a0_6 a0_7 a0_8 t583 t584 t590 t591) = some r := H
                have A52 := Aside0.mk A520
                clear A520
                have H' := Aside0.mk H
                clear H
                have hnb53 := NB595_582.out
                have hnc53 := NB582_595.out
                have hnb54 := NB595_587.out
                have hnc54 := NB587_595.out
                have hcz55_0 : w44.cell? ⟨gb595, 0, none⟩ = some (.int .u64 0) := (blk_cell BK595.out 0).trans rfl
                have hcz55_1 : w44.cell? ⟨gb595, 1, none⟩ = some (.slice none 0 0) := (blk_cell BK595.out 1).trans rfl
                have hfz55_0 := blk_frozen BK595.out 0
                have hfz55_1 := blk_frozen BK595.out 1
                have hnb56 := NB587_582.out
                have hnc56 := NB582_587.out
                have hcz57_0 : w44.cell? ⟨gb587, 0, none⟩ = some (.int .u64 t583) := (blk_cell BK587.out 0).trans rfl
                have hcz57_1 : w44.cell? ⟨gb587, 1, none⟩ = some (.slice Ao11 t584.length co11) := (blk_cell BK587.out 1).trans rfl
                have hfz57_0 := blk_frozen BK587.out 0
                have hfz57_1 := blk_frozen BK587.out 1
                have hcz58_0 : w44.cell? ⟨gb582, 0, none⟩ = some (.int .i64 a0_0) := (blk_cell BK582.out 0).trans rfl
                have hcz58_1 : w44.cell? ⟨gb582, 1, none⟩ = some (.int .i64 a0_1) := (blk_cell BK582.out 1).trans rfl
                have hcz58_2 : w44.cell? ⟨gb582, 2, none⟩ = some (.int .i64 a0_2) := (blk_cell BK582.out 2).trans rfl
                have hcz58_3 : w44.cell? ⟨gb582, 3, none⟩ = some (.int .u64 a0_3) := (blk_cell BK582.out 3).trans rfl
                have hcz58_4 : w44.cell? ⟨gb582, 4, none⟩ = some (.slice A0_4 l0_4.length c0_4) := (blk_cell BK582.out 4).trans rfl
                have hcz58_5 : w44.cell? ⟨gb582, 5, none⟩ = some (.int .i64 a0_5) := (blk_cell BK582.out 5).trans rfl
                have hcz58_6 : w44.cell? ⟨gb582, 6, none⟩ = some (.int .u64 a0_6) := (blk_cell BK582.out 6).trans rfl
                have hcz58_7 : w44.cell? ⟨gb582, 7, none⟩ = some (.int .i64 a0_7) := (blk_cell BK582.out 7).trans rfl
                have hcz58_8 : w44.cell? ⟨gb582, 8, none⟩ = some (.int .i64 a0_8) := (blk_cell BK582.out 8).trans rfl
                have hfz58_0 := blk_frozen BK582.out 0
                have hfz58_1 := blk_frozen BK582.out 1
                have hfz58_2 := blk_frozen BK582.out 2
                have hfz58_3 := blk_frozen BK582.out 3
                have hfz58_4 := blk_frozen BK582.out 4
                have hfz58_5 := blk_frozen BK582.out 5
                have hfz58_6 := blk_frozen BK582.out 6
                have hfz58_7 := blk_frozen BK582.out 7
                have hfz58_8 := blk_frozen BK582.out 8
                go_wp2_with (first | (go_at_call 30; (with_reducible refine (lead_Valid.calls a0_0 a0_1 a0_2 t590 _ _ t591 0 t596 _ ?side1 ?side2 A52.out).mono ?_); (case side1 => refine (Kd.V_reads' (e := 2) (base := w.heap.size) (ok := fun k_ => ((k_ ≠ gb582 ∧ k_ ≠ gb587) ∧ k_ ≠ gb595)) (n := t591.length) (c := co48) ?_).2.2; exact (by (with_reducible repeat (first | apply Kd.V_alloc | apply Kd.V_drewN | apply Kd.V_drew)); exact (Kd.V_mono (Kd.V_far (p := ⟨gb595, 1, none⟩) (Kd.V_far (p := ⟨gb595, 0, none⟩) (Kd.V_mono HO593.out (fun k_ hk => (⟨hk, hk.2⟩ : _ ∧ k_ ≠ gb595))) (fun _ hk => hk.2) (.int .u64 t590)) (fun _ hk => hk.2) (.slice Ao48 t591.length co48)) (fun _ h_ => h_.1)))); (case side2 => exact (Kd.V_reads' HO593.out).2.1); rintro e w59 ⟨rfl, hb⟩; have n0_ := Aside0.mk (Kd.V_below (by (with_reducible repeat (first | apply Kd.V_alloc | apply Kd.V_drewN | apply Kd.V_drew)); exact (Kd.V_mono (Kd.V_far (p := ⟨gb595, 1, none⟩) (Kd.V_far (p := ⟨gb595, 0, none⟩) (Kd.V_mono HO_588001.out (fun k_ hk => (⟨hk, hk.2⟩ : _ ∧ k_ ≠ gb595))) (fun _ hk => hk.2) (.int .u64 t590)) (fun _ hk => hk.2) (.slice Ao48 t591.length co48)) (fun _ h_ => h_.1))) hb); have n1_ := Aside0.mk (Kd.V_below (by (with_reducible repeat (first | apply Kd.V_alloc | apply Kd.V_drewN | apply Kd.V_drew)); exact (Kd.V_mono (Kd.V_far (p := ⟨gb595, 1, none⟩) (Kd.V_far (p := ⟨gb595, 0, none⟩) (Kd.V_mono HO593.out (fun k_ hk => (⟨hk, hk.2⟩ : _ ∧ k_ ≠ gb595))) (fun _ hk => hk.2) (.int .u64 t590)) (fun _ hk => hk.2) (.slice Ao48 t591.length co48)) (fun _ h_ => h_.1))) hb); have n2_ := Aside0.mk (blk_below (g := gb582) (o := .cells #[.int .i64 a0_0, .int .i64 a0_1, .int .i64 a0_2, .int .u64 a0_3, .slice A0_4 l0_4.length c0_4, .int .i64 a0_5, .int .u64 a0_6, .int .i64 a0_7, .int .i64 a0_8] 54 (0, 0)) (by (with_reducible repeat (first | refine blk_drewN ?_ _ | refine blk_drew ?_ | refine blk_alloc ?_ _)); refine blk_far ?_ NB582_595.out _; (with_reducible repeat (first | refine blk_drewN ?_ _ | refine blk_drew ?_ | refine blk_alloc ?_ _)); refine blk_far ?_ NB582_595.out _; (with_reducible repeat (first | refine blk_drewN ?_ _ | refine blk_drew ?_ | refine blk_alloc ?_ _)); exact BK582.out) hb); have n3_ := Aside0.mk (blk_below (g := gb587) (o := .cells #[.int .u64 t583, .slice Ao11 t584.length co11] 52 (0, 0)) (by (with_reducible repeat (first | refine blk_drewN ?_ _ | refine blk_drew ?_ | refine blk_alloc ?_ _)); refine blk_far ?_ NB587_595.out _; (with_reducible repeat (first | refine blk_drewN ?_ _ | refine blk_drew ?_ | refine blk_alloc ?_ _)); refine blk_far ?_ NB587_595.out _; (with_reducible repeat (first | refine blk_drewN ?_ _ | refine blk_drew ?_ | refine blk_alloc ?_ _)); exact BK587.out) hb); have n4_ := Aside0.mk (blk_below (g := gb595) (o := .cells #[.int .u64 t590, .slice Ao48 t591.length co48] 52 (0, 0)) (by (with_reducible repeat (first | refine blk_drewN ?_ _ | refine blk_drew ?_ | refine blk_alloc ?_ _)); refine blk_put (cs := #[.int .u64 t590, .slice none 0 0]) ?_ 1 _ rfl; (with_reducible repeat (first | refine blk_drewN ?_ _ | refine blk_drew ?_ | refine blk_alloc ?_ _)); refine blk_put (cs := #[.int .u64 0, .slice none 0 0]) ?_ 0 _ rfl; (with_reducible repeat (first | refine blk_drewN ?_ _ | refine blk_drew ?_ | refine blk_alloc ?_ _)); exact BK595.out) hb); have n5_ := Aside0.mk (below_step (by repeat (first | (with_reducible first | exact HB.out | apply below_alloc | apply pw_below_drewN | apply below_drew1 | refine below_set ?_ GE582.out | refine below_set ?_ GE587.out | refine below_set ?_ GE595.out) | exact HB.out)) hb); clear HO_588001; clear HO593; clear BK582; clear BK587; clear BK595; clear HB; have HO_588001 := n0_; have HO593 := n1_; have BK582 := n2_; have BK587 := n3_; have BK595 := n4_; have HB := n5_; clear n0_ n1_ n2_ n3_ n4_ n5_; (try clear hb); (try clear hb2); (try clear hk); (try clear hi)))
                go_meet
                case rel => exact ⟨_, (t596), (by first | rfl | (simp; done) | (simp [*]; done)), H', ⟨by have := HJ3.out; first | omega | exact Nat.le_refl _⟩, ⟨by (with_reducible repeat (first | apply Kd.V_alloc | apply Kd.V_drewN | apply Kd.V_drew)); exact Kd.V_mono HO_588001.out (fun _ hk => ⟨hk.1.1, ⟨hk.1.2, hk.2⟩⟩)⟩, ⟨by (with_reducible repeat (first | apply Kd.V_alloc | apply Kd.V_drewN | apply Kd.V_drew)); exact Kd.V_mono HO593.out (fun _ hk => ⟨hk.1.1, ⟨hk.1.2, hk.2⟩⟩)⟩, ⟨by (with_reducible repeat (first | refine blk_drewN ?_ _ | refine blk_drew ?_ | refine blk_alloc ?_ _)); exact BK582.out⟩, ⟨by (with_reducible repeat (first | refine blk_drewN ?_ _ | refine blk_drew ?_ | refine blk_alloc ?_ _)); exact BK587.out⟩, ⟨by (with_reducible repeat (first | refine blk_drewN ?_ _ | refine blk_drew ?_ | refine blk_alloc ?_ _)); exact BK595.out⟩, ⟨by repeat (first | (with_reducible first | exact HB.out | apply below_alloc | apply pw_below_drewN | apply below_drew1 | refine below_set ?_ GE582.out | refine below_set ?_ GE587.out | refine below_set ?_ GE595.out) | exact HB.out)⟩⟩
              · rw [if_neg c51] at H
                have c51b0 : ((t591.length : Int) == (t584.length : Int)) = false := beq_eq_false_iff_ne.mpr c51
                have c51b1 : ((t591.length : Int) != (t584.length : Int)) = true := bne_iff_ne.mpr c51
                have c51b2 : (t591.length == t584.length) = false := by first | simpa using c51 | (simp at c51 ⊢; omega)
                have H' := Aside0.mk H
                clear H
                have hnb60 := NB595_582.out
                have hnc60 := NB582_595.out
                have hnb61 := NB595_587.out
                have hnc61 := NB587_595.out
                have hcz62_0 : w44.cell? ⟨gb595, 0, none⟩ = some (.int .u64 0) := (blk_cell BK595.out 0).trans rfl
                have hcz62_1 : w44.cell? ⟨gb595, 1, none⟩ = some (.slice none 0 0) := (blk_cell BK595.out 1).trans rfl
                have hfz62_0 := blk_frozen BK595.out 0
                have hfz62_1 := blk_frozen BK595.out 1
                have hnb63 := NB587_582.out
                have hnc63 := NB582_587.out
                have hcz64_0 : w44.cell? ⟨gb587, 0, none⟩ = some (.int .u64 t583) := (blk_cell BK587.out 0).trans rfl
                have hcz64_1 : w44.cell? ⟨gb587, 1, none⟩ = some (.slice Ao11 t584.length co11) := (blk_cell BK587.out 1).trans rfl
                have hfz64_0 := blk_frozen BK587.out 0
                have hfz64_1 := blk_frozen BK587.out 1
                go_wp2
                go_meet
                case rel => exact ⟨_, (true), (by first | rfl | (simp; done) | (simp [*]; done)), H', ⟨by have := HJ3.out; first | omega | exact Nat.le_refl _⟩, ⟨by (with_reducible repeat (first | apply Kd.V_alloc | apply Kd.V_drewN | apply Kd.V_drew)); exact Kd.V_mono (Kd.V_far (p := ⟨gb595, 1, none⟩) (Kd.V_far (p := ⟨gb595, 0, none⟩) (Kd.V_mono HO_588001.out (fun k_ hk => (⟨hk, hk.2⟩ : _ ∧ k_ ≠ gb595))) (fun _ hk => hk.2) (.int .u64 t590)) (fun _ hk => hk.2) (.slice Ao48 t591.length co48)) (fun _ hk => ⟨hk.1.1.1, ⟨hk.1.1.2, hk.1.2⟩⟩)⟩, ⟨by (with_reducible repeat (first | apply Kd.V_alloc | apply Kd.V_drewN | apply Kd.V_drew)); exact Kd.V_mono (Kd.V_far (p := ⟨gb595, 1, none⟩) (Kd.V_far (p := ⟨gb595, 0, none⟩) (Kd.V_mono HO593.out (fun k_ hk => (⟨hk, hk.2⟩ : _ ∧ k_ ≠ gb595))) (fun _ hk => hk.2) (.int .u64 t590)) (fun _ hk => hk.2) (.slice Ao48 t591.length co48)) (fun _ hk => ⟨hk.1.1.1, ⟨hk.1.1.2, hk.1.2⟩⟩)⟩, ⟨by (with_reducible repeat (first | refine blk_drewN ?_ _ | refine blk_drew ?_ | refine blk_alloc ?_ _)); refine blk_far ?_ NB582_595.out _; (with_reducible repeat (first | refine blk_drewN ?_ _ | refine blk_drew ?_ | refine blk_alloc ?_ _)); refine blk_far ?_ NB582_595.out _; (with_reducible repeat (first | refine blk_drewN ?_ _ | refine blk_drew ?_ | refine blk_alloc ?_ _)); exact BK582.out⟩, ⟨by (with_reducible repeat (first | refine blk_drewN ?_ _ | refine blk_drew ?_ | refine blk_alloc ?_ _)); refine blk_far ?_ NB587_595.out _; (with_reducible repeat (first | refine blk_drewN ?_ _ | refine blk_drew ?_ | refine blk_alloc ?_ _)); refine blk_far ?_ NB587_595.out _; (with_reducible repeat (first | refine blk_drewN ?_ _ | refine blk_drew ?_ | refine blk_alloc ?_ _)); exact BK587.out⟩, ⟨by (with_reducible repeat (first | refine blk_drewN ?_ _ | refine blk_drew ?_ | refine blk_alloc ?_ _)); refine blk_put (cs := #[.int .u64 t590, .slice none 0 0]) ?_ 1 _ rfl; (with_reducible repeat (first | refine blk_drewN ?_ _ | refine blk_drew ?_ | refine blk_alloc ?_ _)); refine blk_put (cs := #[.int .u64 0, .slice none 0 0]) ?_ 0 _ rfl; (with_reducible repeat (first | refine blk_drewN ?_ _ | refine blk_drew ?_ | refine blk_alloc ?_ _)); exact BK595.out⟩, ⟨by repeat (first | (with_reducible first | exact HB.out | apply below_alloc | apply pw_below_drewN | apply below_drew1 | refine below_set ?_ GE582.out | refine below_set ?_ GE587.out | refine below_set ?_ GE595.out) | exact HB.out)⟩⟩
            · rw [if_neg c50] at H
              have c50b0 : (t590 == (IntKind.u64.wrap ((IntKind.u64.wrap (t583 + 1)) + (IntKind.u64.wrap (a1))))) = false := beq_eq_false_iff_ne.mpr c50
              have c50b1 : (t590 != (IntKind.u64.wrap ((IntKind.u64.wrap (t583 + 1)) + (IntKind.u64.wrap (a1))))) = true := bne_iff_ne.mpr c50
              have H' := Aside0.mk H
              clear H
              have hnb65 := NB595_582.out
              have hnc65 := NB582_595.out
              have hnb66 := NB595_587.out
              have hnc66 := NB587_595.out
              have hcz67_0 : w44.cell? ⟨gb595, 0, none⟩ = some (.int .u64 0) := (blk_cell BK595.out 0).trans rfl
              have hcz67_1 : w44.cell? ⟨gb595, 1, none⟩ = some (.slice none 0 0) := (blk_cell BK595.out 1).trans rfl
              have hfz67_0 := blk_frozen BK595.out 0
              have hfz67_1 := blk_frozen BK595.out 1
              go_wp2
              go_meet
              case rel => exact ⟨_, (true), (by first | rfl | (simp; done) | (simp [*]; done)), H', ⟨by have := HJ3.out; first | omega | exact Nat.le_refl _⟩, ⟨by (with_reducible repeat (first | apply Kd.V_alloc | apply Kd.V_drewN | apply Kd.V_drew)); exact Kd.V_mono (Kd.V_far (p := ⟨gb595, 1, none⟩) (Kd.V_far (p := ⟨gb595, 0, none⟩) (Kd.V_mono HO_588001.out (fun k_ hk => (⟨hk, hk.2⟩ : _ ∧ k_ ≠ gb595))) (fun _ hk => hk.2) (.int .u64 t590)) (fun _ hk => hk.2) (.slice Ao48 t591.length co48)) (fun _ hk => ⟨hk.1.1.1, ⟨hk.1.1.2, hk.1.2⟩⟩)⟩, ⟨by (with_reducible repeat (first | apply Kd.V_alloc | apply Kd.V_drewN | apply Kd.V_drew)); exact Kd.V_mono (Kd.V_far (p := ⟨gb595, 1, none⟩) (Kd.V_far (p := ⟨gb595, 0, none⟩) (Kd.V_mono HO593.out (fun k_ hk => (⟨hk, hk.2⟩ : _ ∧ k_ ≠ gb595))) (fun _ hk => hk.2) (.int .u64 t590)) (fun _ hk => hk.2) (.slice Ao48 t591.length co48)) (fun _ hk => ⟨hk.1.1.1, ⟨hk.1.1.2, hk.1.2⟩⟩)⟩, ⟨by (with_reducible repeat (first | refine blk_drewN ?_ _ | refine blk_drew ?_ | refine blk_alloc ?_ _)); refine blk_far ?_ NB582_595.out _; (with_reducible repeat (first | refine blk_drewN ?_ _ | refine blk_drew ?_ | refine blk_alloc ?_ _)); refine blk_far ?_ NB582_595.out _; (with_reducible repeat (first | refine blk_drewN ?_ _ | refine blk_drew ?_ | refine blk_alloc ?_ _)); exact BK582.out⟩, ⟨by (with_reducible repeat (first | refine blk_drewN ?_ _ | refine blk_drew ?_ | refine blk_alloc ?_ _)); refine blk_far ?_ NB587_595.out _; (with_reducible repeat (first | refine blk_drewN ?_ _ | refine blk_drew ?_ | refine blk_alloc ?_ _)); refine blk_far ?_ NB587_595.out _; (with_reducible repeat (first | refine blk_drewN ?_ _ | refine blk_drew ?_ | refine blk_alloc ?_ _)); exact BK587.out⟩, ⟨by (with_reducible repeat (first | refine blk_drewN ?_ _ | refine blk_drew ?_ | refine blk_alloc ?_ _)); refine blk_put (cs := #[.int .u64 t590, .slice none 0 0]) ?_ 1 _ rfl; (with_reducible repeat (first | refine blk_drewN ?_ _ | refine blk_drew ?_ | refine blk_alloc ?_ _)); refine blk_put (cs := #[.int .u64 0, .slice none 0 0]) ?_ 0 _ rfl; (with_reducible repeat (first | refine blk_drewN ?_ _ | refine blk_drew ?_ | refine blk_alloc ?_ _)); exact BK595.out⟩, ⟨by repeat (first | (with_reducible first | exact HB.out | apply below_alloc | apply pw_below_drewN | apply below_drew1 | refine below_set ?_ GE582.out | refine below_set ?_ GE587.out | refine below_set ?_ GE595.out) | exact HB.out)⟩⟩
          · rw [if_neg c49] at H
            have c49b0 : (t594 == 0) = false := beq_eq_false_iff_ne.mpr c49
            have c49b1 : (t594 != 0) = true := bne_iff_ne.mpr c49
            (first | rw [c49b0] | (simp only [i64_w, i32_w]; rw [c49b0]) | skip)
            have H' := Aside0.mk H
            clear H
            go_wp2
            go_meet
            case rel => exact ⟨_, (true), (by first | rfl | (simp; done) | (simp [*]; done)), H', ⟨by have := HJ3.out; first | omega | exact Nat.le_refl _⟩, ⟨by (with_reducible repeat (first | apply Kd.V_alloc | apply Kd.V_drewN | apply Kd.V_drew)); exact Kd.V_mono (Kd.V_far (p := ⟨gb595, 1, none⟩) (Kd.V_far (p := ⟨gb595, 0, none⟩) (Kd.V_mono HO_588001.out (fun k_ hk => (⟨hk, hk.2⟩ : _ ∧ k_ ≠ gb595))) (fun _ hk => hk.2) (.int .u64 t590)) (fun _ hk => hk.2) (.slice Ao48 t591.length co48)) (fun _ hk => ⟨hk.1.1.1, ⟨hk.1.1.2, hk.1.2⟩⟩)⟩, ⟨by (with_reducible repeat (first | apply Kd.V_alloc | apply Kd.V_drewN | apply Kd.V_drew)); exact Kd.V_mono (Kd.V_far (p := ⟨gb595, 1, none⟩) (Kd.V_far (p := ⟨gb595, 0, none⟩) (Kd.V_mono HO593.out (fun k_ hk => (⟨hk, hk.2⟩ : _ ∧ k_ ≠ gb595))) (fun _ hk => hk.2) (.int .u64 t590)) (fun _ hk => hk.2) (.slice Ao48 t591.length co48)) (fun _ hk => ⟨hk.1.1.1, ⟨hk.1.1.2, hk.1.2⟩⟩)⟩, ⟨by (with_reducible repeat (first | refine blk_drewN ?_ _ | refine blk_drew ?_ | refine blk_alloc ?_ _)); refine blk_far ?_ NB582_595.out _; (with_reducible repeat (first | refine blk_drewN ?_ _ | refine blk_drew ?_ | refine blk_alloc ?_ _)); refine blk_far ?_ NB582_595.out _; (with_reducible repeat (first | refine blk_drewN ?_ _ | refine blk_drew ?_ | refine blk_alloc ?_ _)); exact BK582.out⟩, ⟨by (with_reducible repeat (first | refine blk_drewN ?_ _ | refine blk_drew ?_ | refine blk_alloc ?_ _)); refine blk_far ?_ NB587_595.out _; (with_reducible repeat (first | refine blk_drewN ?_ _ | refine blk_drew ?_ | refine blk_alloc ?_ _)); refine blk_far ?_ NB587_595.out _; (with_reducible repeat (first | refine blk_drewN ?_ _ | refine blk_drew ?_ | refine blk_alloc ?_ _)); exact BK587.out⟩, ⟨by (with_reducible repeat (first | refine blk_drewN ?_ _ | refine blk_drew ?_ | refine blk_alloc ?_ _)); refine blk_put (cs := #[.int .u64 t590, .slice none 0 0]) ?_ 1 _ rfl; (with_reducible repeat (first | refine blk_drewN ?_ _ | refine blk_drew ?_ | refine blk_alloc ?_ _)); refine blk_put (cs := #[.int .u64 0, .slice none 0 0]) ?_ 0 _ rfl; (with_reducible repeat (first | refine blk_drewN ?_ _ | refine blk_drew ?_ | refine blk_alloc ?_ _)); exact BK595.out⟩, ⟨by repeat (first | (with_reducible first | exact HB.out | apply below_alloc | apply pw_below_drewN | apply below_drew1 | refine below_set ?_ GE582.out | refine below_set ?_ GE587.out | refine below_set ?_ GE595.out) | exact HB.out)⟩⟩
        case rest =>
          clear HC40
          try clear c1
          try clear c2
          try clear p2
          try clear c3
          try clear c4
          try clear c5
          try clear c6
          try clear c9
          try clear c11
          try clear c12
          try clear c12b0
          try clear c13
          try clear c16
          try clear c16b0
          try clear c16b1
          try clear c17
          try clear c17b0
          try clear c17b1
          try clear c17b2
          try clear c18
          try clear c21
          try clear c22
          try clear c22b0
          try clear c23
          try clear c24
          try clear c28
          try clear c29
          try clear c33
          try clear c36
          try clear c41
          try clear c45
          try clear c46
          try clear c49
          try clear c49b0
          try clear c49b1
          try clear c50
          try clear c50b0
          try clear c50b1
          try clear c51
          try clear c51b0
          try clear c51b1
          try clear c51b2
          try clear c53
          try clear c54
          try clear c56
          try clear c60
          try clear c61
          try clear c63
          try clear c65
          try clear c66
          try clear hcz10_0
          try clear hcz10_1
          try clear hcz14_0
          try clear hcz14_1
          try clear hcz19_0
          try clear hcz19_1
          try clear hcz21_0
          try clear hcz21_1
          try clear hcz24_0
          try clear hcz24_1
          try clear hcz26_0
          try clear hcz26_1
          try clear hcz27_0
          try clear hcz27_1
          try clear hcz27_2
          try clear hcz27_3
          try clear hcz27_4
          try clear hcz27_5
          try clear hcz27_6
          try clear hcz27_7
          try clear hcz27_8
          try clear hcz29_0
          try clear hcz29_1
          try clear hcz31_0
          try clear hcz31_1
          try clear hcz32_0
          try clear hcz32_1
          try clear hcz32_2
          try clear hcz32_3
          try clear hcz32_4
          try clear hcz32_5
          try clear hcz32_6
          try clear hcz32_7
          try clear hcz32_8
          try clear hcz34_0
          try clear hcz34_1
          try clear hcz42_0
          try clear hcz42_1
          try clear hcz47_0
          try clear hcz47_1
          try clear hcz55_0
          try clear hcz55_1
          try clear hcz57_0
          try clear hcz57_1
          try clear hcz58_0
          try clear hcz58_1
          try clear hcz58_2
          try clear hcz58_3
          try clear hcz58_4
          try clear hcz58_5
          try clear hcz58_6
          try clear hcz58_7
          try clear hcz58_8
          try clear hcz62_0
          try clear hcz62_1
          try clear hcz64_0
          try clear hcz64_1
          try clear hcz67_0
          try clear hcz67_1
          try clear hcz6_0
          try clear hcz6_1
          try clear hcz6_2
          try clear hcz6_3
          try clear hcz6_4
          try clear hcz6_5
          try clear hcz6_6
          try clear hcz6_7
          try clear hcz6_8
          try clear hfz10_0
          try clear hfz10_1
          try clear hfz14_0
          try clear hfz14_1
          try clear hfz19_0
          try clear hfz19_1
          try clear hfz21_0
          try clear hfz21_1
          try clear hfz24_0
          try clear hfz24_1
          try clear hfz26_0
          try clear hfz26_1
          try clear hfz27_0
          try clear hfz27_1
          try clear hfz27_2
          try clear hfz27_3
          try clear hfz27_4
          try clear hfz27_5
          try clear hfz27_6
          try clear hfz27_7
          try clear hfz27_8
          try clear hfz29_0
          try clear hfz29_1
          try clear hfz31_0
          try clear hfz31_1
          try clear hfz32_0
          try clear hfz32_1
          try clear hfz32_2
          try clear hfz32_3
          try clear hfz32_4
          try clear hfz32_5
          try clear hfz32_6
          try clear hfz32_7
          try clear hfz32_8
          try clear hfz34_0
          try clear hfz34_1
          try clear hfz42_0
          try clear hfz42_1
          try clear hfz47_0
          try clear hfz47_1
          try clear hfz55_0
          try clear hfz55_1
          try clear hfz57_0
          try clear hfz57_1
          try clear hfz58_0
          try clear hfz58_1
          try clear hfz58_2
          try clear hfz58_3
          try clear hfz58_4
          try clear hfz58_5
          try clear hfz58_6
          try clear hfz58_7
          try clear hfz58_8
          try clear hfz62_0
          try clear hfz62_1
          try clear hfz64_0
          try clear hfz64_1
          try clear hfz67_0
          try clear hfz67_1
          try clear hfz6_0
          try clear hfz6_1
          try clear hfz6_2
          try clear hfz6_3
          try clear hfz6_4
          try clear hfz6_5
          try clear hfz6_6
          try clear hfz6_7
          try clear hfz6_8
          try clear p2
          obtain ⟨kq, x80_39, rfl, HA, HJ39, HO_588001, HO_596001, BK582, BK587, BK595, HB⟩ := hcut
          cases kq with
          | zero => exact absurd HA.out (by simp [tattlelaw18_LeadStarts.j1])
          | succ kj39 =>
            have H := HA.out
            clear HA
            simp only [tattlelaw18_LeadStarts.j1] at H
            by_cases c68 : x80_39 = true
            · subst c68
              have H1 : (some false) = some r := by rw [if_pos rfl] at H; exact H
              clear H
              have H := H1
              clear H1
              exact absurd ((Option.some.inj H).trans hrt.out) (by decide)
            · replace c68 := Bool.eq_false_iff.mpr c68
              subst c68
              have H1 : ((lead_Granted.f kj39 t590 t591 0 t583 a0_7).bind fun bt597 => (if bt597.2.2 = 8 then ((tattleref18_Same.f kj39 bt597.1 bt597.2.1 t590 t591).bind fun t603 => (tattlelaw18_LeadStarts.j2 kj39 (IntKind.u64.wrap ((IntKind.u64.wrap (t583 + 1)) + (IntKind.u64.wrap (a1)))) (!t603) a0_0 a0_1 a0_2 a0_3 l0_4 a0_5 a0_6 a0_7 a0_8 t590 t591)) else (tattlelaw18_LeadStarts.j2 kj39 (IntKind.u64.wrap ((IntKind.u64.wrap (t583 + 1)) + (IntKind.u64.wrap (a1)))) true a0_0 a0_1 a0_2 a0_3 l0_4 a0_5 a0_6 a0_7 a0_8 t590 t591))) = some r := by rw [if_neg (show ¬ (false = true) by decide)] at H; exact H
              clear H
              have H := H1
              clear H1
              replace H := Option.bind_eq_some_iff.mp H
              obtain ⟨⟨t597, t598, t601⟩, A690, H⟩ := H
              replace H : (if t601 = 8 then ((tattleref18_Same.f kj39 t597 t598 t590 t591).bind fun t603 => (tattlelaw18_LeadStarts.j2 kj39 (IntKind.u64.wrap ((IntKind.u64.wrap (t583 + 1)) + (IntKind.u64.wrap (a1)))) (!t603) a0_0 a0_1 a0_2 a0_3 l0_4 a0_5 a0_6 a0_7 a0_8 t590 t591)) else (tattlelaw18_LeadStarts.j2 kj39 (IntKind.u64.wrap ((IntKind.u64.wrap (t583 + 1)) + (IntKind.u64.wrap (a1)))) true a0_0 a0_1 a0_2 a0_3 l0_4 a0_5 a0_6 a0_7 a0_8 t590 t591)) = some r := H
              have A69 := Aside0.mk A690
              clear A690
              have HC70 := Aside0.mk H
              clear H
              have hnb71 := NB595_582.out
              have hnc71 := NB582_595.out
              have hnb72 := NB595_587.out
              have hnc72 := NB587_595.out
              have hcz73_0 : wc.cell? ⟨gb595, 0, none⟩ = some (.int .u64 t590) := (blk_cell BK595.out 0).trans rfl
              have hcz73_1 : wc.cell? ⟨gb595, 1, none⟩ = some (.slice Ao48 t591.length co48) := (blk_cell BK595.out 1).trans rfl
              have hfz73_0 := blk_frozen BK595.out 0
              have hfz73_1 := blk_frozen BK595.out 1
              have hnb74 := NB587_582.out
              have hnc74 := NB582_587.out
              have hcz75_0 : wc.cell? ⟨gb587, 0, none⟩ = some (.int .u64 t583) := (blk_cell BK587.out 0).trans rfl
              have hcz75_1 : wc.cell? ⟨gb587, 1, none⟩ = some (.slice Ao11 t584.length co11) := (blk_cell BK587.out 1).trans rfl
              have hfz75_0 := blk_frozen BK587.out 0
              have hfz75_1 := blk_frozen BK587.out 1
              have hcz76_0 : wc.cell? ⟨gb582, 0, none⟩ = some (.int .i64 a0_0) := (blk_cell BK582.out 0).trans rfl
              have hcz76_1 : wc.cell? ⟨gb582, 1, none⟩ = some (.int .i64 a0_1) := (blk_cell BK582.out 1).trans rfl
              have hcz76_2 : wc.cell? ⟨gb582, 2, none⟩ = some (.int .i64 a0_2) := (blk_cell BK582.out 2).trans rfl
              have hcz76_3 : wc.cell? ⟨gb582, 3, none⟩ = some (.int .u64 a0_3) := (blk_cell BK582.out 3).trans rfl
              have hcz76_4 : wc.cell? ⟨gb582, 4, none⟩ = some (.slice A0_4 l0_4.length c0_4) := (blk_cell BK582.out 4).trans rfl
              have hcz76_5 : wc.cell? ⟨gb582, 5, none⟩ = some (.int .i64 a0_5) := (blk_cell BK582.out 5).trans rfl
              have hcz76_6 : wc.cell? ⟨gb582, 6, none⟩ = some (.int .u64 a0_6) := (blk_cell BK582.out 6).trans rfl
              have hcz76_7 : wc.cell? ⟨gb582, 7, none⟩ = some (.int .i64 a0_7) := (blk_cell BK582.out 7).trans rfl
              have hcz76_8 : wc.cell? ⟨gb582, 8, none⟩ = some (.int .i64 a0_8) := (blk_cell BK582.out 8).trans rfl
              have hfz76_0 := blk_frozen BK582.out 0
              have hfz76_1 := blk_frozen BK582.out 1
              have hfz76_2 := blk_frozen BK582.out 2
              have hfz76_3 := blk_frozen BK582.out 3
              have hfz76_4 := blk_frozen BK582.out 4
              have hfz76_5 := blk_frozen BK582.out 5
              have hfz76_6 := blk_frozen BK582.out 6
              have hfz76_7 := blk_frozen BK582.out 7
              have hfz76_8 := blk_frozen BK582.out 8
              go_upto_region 9 with (first | ((with_reducible refine gate_callee (f := 22) rfl ?_); refine goesL_ (some 87) rfl rfl Try.func22 (by kernel_rfl) rfl #[.agg #[.int .u64 t590, .slice Ao48 t591.length co48], .int .i64 0, .int .u64 t583, .int .i64 a0_7] rfl (by (try simp only [List.map_toArray, List.map_cons, List.map_nil]); first | done | rfl | (simp only [List.length_drop, List.length_take]; rfl)) ?_; (with_reducible refine (lead_Granted.calls kj39 t590 (fun k_ => (k_ ≠ gb582 ∧ (k_ ≠ gb587 ∧ k_ ≠ gb595))) _ _ t591 0 t583 a0_7 t597 t598 t601 _ ?side1 A69.out).mono ?_); (case side1 => exact HO_596001.out); rintro e w77 ⟨v599, rfl, ho0, hb⟩; refine ⟨_, rfl, ?_⟩; have n0_ := Aside0.mk (Kd.V_below (by (with_reducible repeat (first | apply Kd.V_alloc | apply Kd.V_drewN | apply Kd.V_drew)); exact HO_588001.out) hb); have n1_ := Aside0.mk (Kd.V_below (by (with_reducible repeat (first | apply Kd.V_alloc | apply Kd.V_drewN | apply Kd.V_drew)); exact HO_596001.out) hb); have n2_ := Aside0.mk (Kd.V_lower (Kd.V_mono (ok' := fun k_ => k_ ≠ gb582 ∧ k_ ≠ gb587 ∧ k_ ≠ gb595) ho0 (fun k_ hk_ => ⟨Or.elim hk_ (fun hs_ => hs_.1) (fun hn_ => (Kd.freshB (g := gb582) (o := .cells #[.int .i64 a0_0, .int .i64 a0_1, .int .i64 a0_2, .int .u64 a0_3, .slice A0_4 l0_4.length c0_4, .int .i64 a0_5, .int .u64 a0_6, .int .i64 a0_7, .int .i64 a0_8] 54 (0, 0)) (by (with_reducible repeat (first | refine blk_drewN ?_ _ | refine blk_drew ?_ | refine blk_alloc ?_ _)); exact BK582.out) k_ hn_)), Or.elim hk_ (fun hs_ => hs_.2.1) (fun hn_ => (Kd.freshB (g := gb587) (o := .cells #[.int .u64 t583, .slice Ao11 t584.length co11] 52 (0, 0)) (by (with_reducible repeat (first | refine blk_drewN ?_ _ | refine blk_drew ?_ | refine blk_alloc ?_ _)); exact BK587.out) k_ hn_)), Or.elim hk_ (fun hs_ => hs_.2.2) (fun hn_ => (Kd.freshB (g := gb595) (o := .cells #[.int .u64 t590, .slice Ao48 t591.length co48] 52 (0, 0)) (by (with_reducible repeat (first | refine blk_drewN ?_ _ | refine blk_drew ?_ | refine blk_alloc ?_ _)); exact BK595.out) k_ hn_))⟩)) (below_size (by repeat (first | (with_reducible first | exact HB.out | apply below_alloc | apply pw_below_drewN | apply below_drew1 | refine below_set ?_ GE582.out | refine below_set ?_ GE587.out | refine below_set ?_ GE595.out) | exact HB.out)))); have n3_ := Aside0.mk (blk_below (g := gb582) (o := .cells #[.int .i64 a0_0, .int .i64 a0_1, .int .i64 a0_2, .int .u64 a0_3, .slice A0_4 l0_4.length c0_4, .int .i64 a0_5, .int .u64 a0_6, .int .i64 a0_7, .int .i64 a0_8] 54 (0, 0)) (by (with_reducible repeat (first | refine blk_drewN ?_ _ | refine blk_drew ?_ | refine blk_alloc ?_ _)); exact BK582.out) hb); have n4_ := Aside0.mk (blk_below (g := gb587) (o := .cells #[.int .u64 t583, .slice Ao11 t584.length co11] 52 (0, 0)) (by (with_reducible repeat (first | refine blk_drewN ?_ _ | refine blk_drew ?_ | refine blk_alloc ?_ _)); exact BK587.out) hb); have n5_ := Aside0.mk (blk_below (g := gb595) (o := .cells #[.int .u64 t590, .slice Ao48 t591.length co48] 52 (0, 0)) (by (with_reducible repeat (first | refine blk_drewN ?_ _ | refine blk_drew ?_ | refine blk_alloc ?_ _)); exact BK595.out) hb); have n6_ := Aside0.mk (below_step (by repeat (first | (with_reducible first | exact HB.out | apply below_alloc | apply pw_below_drewN | apply below_drew1 | refine below_set ?_ GE582.out | refine below_set ?_ GE587.out | refine below_set ?_ GE595.out) | exact HB.out)) hb); clear HO_588001; clear HO_596001; clear BK582; clear BK587; clear BK595; clear HB; have HO_588001 := n0_; have HO_596001 := n1_; have HO600 := n2_; have BK582 := n3_; have BK587 := n4_; have BK595 := n5_; have HB := n6_; clear n0_ n1_ n2_ n3_ n4_ n5_ n6_; (try clear hb); (try clear hb2); (try clear hk); (try clear hi); (try clear ho0)) | ((with_reducible refine gate_dst (N := 9) rfl ?_); (try (refine gate_guard (by rfl) ?_; dsimp only)); refine box_event ?hg (N := 9) ?hd (cs := #[.int .u64 0, .slice none 0 0]) (t := 52) ?hr ?_; (case hd => rfl); (case hg => rfl); (case hr => first | (go_simp; done) | (go_simp; rfl)); intro gb602 hg w78 hbox hb; have n0_ := Aside0.mk (Kd.V_below (Kd.V_elderB (by (with_reducible repeat (first | apply Kd.V_alloc | apply Kd.V_drewN | apply Kd.V_drew)); exact HO_588001.out) gb602 (Nat.le_of_eq hg.symm)) hb); have n1_ := Aside0.mk (Kd.V_below (Kd.V_elderB (by (with_reducible repeat (first | apply Kd.V_alloc | apply Kd.V_drewN | apply Kd.V_drew)); exact HO_596001.out) gb602 (Nat.le_of_eq hg.symm)) hb); have n2_ := Aside0.mk (Kd.V_below (Kd.V_elderB (by (with_reducible repeat (first | apply Kd.V_alloc | apply Kd.V_drewN | apply Kd.V_drew)); exact HO600.out) gb602 (Nat.le_of_eq hg.symm)) hb); have n3_ := Aside0.mk (blk_below (g := gb582) (o := .cells #[.int .i64 a0_0, .int .i64 a0_1, .int .i64 a0_2, .int .u64 a0_3, .slice A0_4 l0_4.length c0_4, .int .i64 a0_5, .int .u64 a0_6, .int .i64 a0_7, .int .i64 a0_8] 54 (0, 0)) (by (with_reducible repeat (first | refine blk_drewN ?_ _ | refine blk_drew ?_ | refine blk_alloc ?_ _)); exact BK582.out) hb); have n4_ := Aside0.mk (blk_below (g := gb587) (o := .cells #[.int .u64 t583, .slice Ao11 t584.length co11] 52 (0, 0)) (by (with_reducible repeat (first | refine blk_drewN ?_ _ | refine blk_drew ?_ | refine blk_alloc ?_ _)); exact BK587.out) hb); have n5_ := Aside0.mk (blk_below (g := gb595) (o := .cells #[.int .u64 t590, .slice Ao48 t591.length co48] 52 (0, 0)) (by (with_reducible repeat (first | refine blk_drewN ?_ _ | refine blk_drew ?_ | refine blk_alloc ?_ _)); exact BK595.out) hb); have n6_ := Aside0.mk (below_step (by repeat (first | (with_reducible first | exact HB.out | apply below_alloc | apply pw_below_drewN | apply below_drew1 | refine below_set ?_ GE582.out | refine below_set ?_ GE587.out | refine below_set ?_ GE595.out) | exact HB.out)) hb); have n7_ := Aside0.mk (hbox); have n8_ := Aside0.mk ((by rw [hg]; exact (below_size (by repeat (first | (with_reducible first | exact HB.out | apply below_alloc | apply pw_below_drewN | apply below_drew1 | refine below_set ?_ GE582.out | refine below_set ?_ GE587.out | refine below_set ?_ GE595.out) | exact HB.out))) : w.heap.size ≤ gb602)); have n9_ := Aside0.mk ((by rw [hg]; exact (below_size (by repeat (first | (with_reducible first | exact HB.out | apply below_alloc | apply pw_below_drewN | apply below_drew1 | refine below_set ?_ GE582.out | refine below_set ?_ GE587.out | refine below_set ?_ GE595.out) | exact HB.out))) : w.heap.size ≤ gb602)); have n10_ := Aside0.mk ((by rw [hg]; exact Nat.ne_of_lt (blk_lt (g := gb582) (o := .cells #[.int .i64 a0_0, .int .i64 a0_1, .int .i64 a0_2, .int .u64 a0_3, .slice A0_4 l0_4.length c0_4, .int .i64 a0_5, .int .u64 a0_6, .int .i64 a0_7, .int .i64 a0_8] 54 (0, 0)) (by (with_reducible repeat (first | refine blk_drewN ?_ _ | refine blk_drew ?_ | refine blk_alloc ?_ _)); exact BK582.out)) : gb582 ≠ gb602)); have n11_ := Aside0.mk ((by rw [hg]; exact Nat.ne_of_gt (blk_lt (g := gb582) (o := .cells #[.int .i64 a0_0, .int .i64 a0_1, .int .i64 a0_2, .int .u64 a0_3, .slice A0_4 l0_4.length c0_4, .int .i64 a0_5, .int .u64 a0_6, .int .i64 a0_7, .int .i64 a0_8] 54 (0, 0)) (by (with_reducible repeat (first | refine blk_drewN ?_ _ | refine blk_drew ?_ | refine blk_alloc ?_ _)); exact BK582.out)) : gb602 ≠ gb582)); have n12_ := Aside0.mk ((by rw [hg]; exact Nat.ne_of_lt (blk_lt (g := gb587) (o := .cells #[.int .u64 t583, .slice Ao11 t584.length co11] 52 (0, 0)) (by (with_reducible repeat (first | refine blk_drewN ?_ _ | refine blk_drew ?_ | refine blk_alloc ?_ _)); exact BK587.out)) : gb587 ≠ gb602)); have n13_ := Aside0.mk ((by rw [hg]; exact Nat.ne_of_gt (blk_lt (g := gb587) (o := .cells #[.int .u64 t583, .slice Ao11 t584.length co11] 52 (0, 0)) (by (with_reducible repeat (first | refine blk_drewN ?_ _ | refine blk_drew ?_ | refine blk_alloc ?_ _)); exact BK587.out)) : gb602 ≠ gb587)); have n14_ := Aside0.mk ((by rw [hg]; exact Nat.ne_of_lt (blk_lt (g := gb595) (o := .cells #[.int .u64 t590, .slice Ao48 t591.length co48] 52 (0, 0)) (by (with_reducible repeat (first | refine blk_drewN ?_ _ | refine blk_drew ?_ | refine blk_alloc ?_ _)); exact BK595.out)) : gb595 ≠ gb602)); have n15_ := Aside0.mk ((by rw [hg]; exact Nat.ne_of_gt (blk_lt (g := gb595) (o := .cells #[.int .u64 t590, .slice Ao48 t591.length co48] 52 (0, 0)) (by (with_reducible repeat (first | refine blk_drewN ?_ _ | refine blk_drew ?_ | refine blk_alloc ?_ _)); exact BK595.out)) : gb602 ≠ gb595)); clear HO_588001; clear HO_596001; clear HO600; clear BK582; clear BK587; clear BK595; clear HB; have HO_588001 := n0_; have HO_596001 := n1_; have HO600 := n2_; have BK582 := n3_; have BK587 := n4_; have BK595 := n5_; have HB := n6_; have BK602 := n7_; have GW602 := n8_; have GE602 := n9_; have NB582_602 := n10_; have NB602_582 := n11_; have NB587_602 := n12_; have NB602_587 := n13_; have NB595_602 := n14_; have NB602_595 := n15_; clear n0_ n1_ n2_ n3_ n4_ n5_ n6_ n7_ n8_ n9_ n10_ n11_ n12_ n13_ n14_ n15_; clear hb hbox hg; have hnb79 := NB602_582.out; have hnc79 := NB582_602.out; have hnb80 := NB602_587.out; have hnc80 := NB587_602.out; have hnb81 := NB602_595.out; have hnc81 := NB595_602.out; have hcz82_0 : w78.cell? ⟨gb602, 0, none⟩ = some (.int .u64 0) := (blk_cell BK602.out 0).trans rfl; have hcz82_1 : w78.cell? ⟨gb602, 1, none⟩ = some (.slice none 0 0) := (blk_cell BK602.out 1).trans rfl; have hfz82_0 := blk_frozen BK602.out 0; have hfz82_1 := blk_frozen BK602.out 1; obtain ⟨Ao83, co83, eo83⟩ := Kd.V_slice HO600.out; subst eo83))
              (try simp only [Act.put, List.setIfInBounds_toArray, List.set_cons_zero, List.set_cons_succ])
              go_cut [97] (fun v97 wc => ∃ (kq : Nat) (x97_69 : Bool), v97 = .bool x97_69 ∧ Aside0 (tattlelaw18_LeadStarts.j2 kq (IntKind.u64.wrap ((IntKind.u64.wrap (t583 + 1)) + (IntKind.u64.wrap (a1)))) x97_69 a0_0 a0_1 a0_2 a0_3 l0_4 a0_5 a0_6 a0_7 a0_8 t590 t591 = some r) ∧ Aside0 (kq ≤ kj39) ∧ Aside0 (Kd.V (Kd.int .i64) 2 wc w.heap.size (fun k_ => k_ ≠ gb582 ∧ k_ ≠ gb587 ∧ k_ ≠ gb595 ∧ k_ ≠ gb602) (.slice Ao11 t584.length co11) t584) ∧ Aside0 (Kd.V (Kd.int .i64) 2 wc w.heap.size (fun k_ => k_ ≠ gb582 ∧ k_ ≠ gb587 ∧ k_ ≠ gb595 ∧ k_ ≠ gb602) (.slice Ao48 t591.length co48) t591) ∧ Aside0 (Kd.V (Kd.int .i64) 2 wc w.heap.size (fun k_ => k_ ≠ gb582 ∧ k_ ≠ gb587 ∧ k_ ≠ gb595 ∧ k_ ≠ gb602) (.slice Ao83 t598.length co83) t598) ∧ Aside0 (wc.heap[gb582]? = some (.cells #[.int .i64 a0_0, .int .i64 a0_1, .int .i64 a0_2, .int .u64 a0_3, (.slice A0_4 l0_4.length c0_4), .int .i64 a0_5, .int .u64 a0_6, .int .i64 a0_7, .int .i64 a0_8] 54 (0, 0))) ∧ Aside0 (wc.heap[gb587]? = some (.cells #[.int .u64 t583, (.slice Ao11 t584.length co11)] 52 (0, 0))) ∧ Aside0 (wc.heap[gb595]? = some (.cells #[.int .u64 t590, (.slice Ao48 t591.length co48)] 52 (0, 0))) ∧ Aside0 (wc.heap[gb602]? = some (.cells #[.int .u64 t597, (.slice Ao83 t598.length co83)] 52 (0, 0))) ∧ Aside0 (Below w.heap.size w wc))
              case first =>
                have H := HC70.out
                clear HC70
                by_cases c84 : t601 = 8
                · rw [if_pos c84] at H
                  have c84b0 : (t601 == 8) = true := beq_iff_eq.mpr c84
                  have c84b1 : (t601 != 8) = false := bne_eq_false_iff_eq.mpr c84
                  clear c84
                  (first | rw [c84b0] | (simp only [i64_w, i32_w]; rw [c84b0]) | skip)
                  replace H := Option.bind_eq_some_iff.mp H
                  obtain ⟨t603, A850, H⟩ := H
                  replace H : (tattlelaw18_LeadStarts.j2 kj39 (IntKind.u64.wrap ((IntKind.u64.wrap (t583 + 1)) + (IntKind.u64.wrap (a1)))) (!t603) a0_0 a0_1 a0_2 a0_3 l0_4 a0_5 a0_6 a0_7 a0_8 t590 t591) = some r := H
                  have A85 := Aside0.mk A850
                  clear A850
                  have H' := Aside0.mk H
                  clear H
                  have hnb86 := NB602_582.out
                  have hnc86 := NB582_602.out
                  have hnb87 := NB602_587.out
                  have hnc87 := NB587_602.out
                  have hnb88 := NB602_595.out
                  have hnc88 := NB595_602.out
                  have hcz89_0 : w78.cell? ⟨gb602, 0, none⟩ = some (.int .u64 0) := (blk_cell BK602.out 0).trans rfl
                  have hcz89_1 : w78.cell? ⟨gb602, 1, none⟩ = some (.slice none 0 0) := (blk_cell BK602.out 1).trans rfl
                  have hfz89_0 := blk_frozen BK602.out 0
                  have hfz89_1 := blk_frozen BK602.out 1
                  have hnb90 := NB595_582.out
                  have hnc90 := NB582_595.out
                  have hnb91 := NB595_587.out
                  have hnc91 := NB587_595.out
                  have hcz92_0 : w78.cell? ⟨gb595, 0, none⟩ = some (.int .u64 t590) := (blk_cell BK595.out 0).trans rfl
                  have hcz92_1 : w78.cell? ⟨gb595, 1, none⟩ = some (.slice Ao48 t591.length co48) := (blk_cell BK595.out 1).trans rfl
                  have hfz92_0 := blk_frozen BK595.out 0
                  have hfz92_1 := blk_frozen BK595.out 1
                  go_wp2_with (first | (go_at_call 31; (with_reducible refine (tattleref18_Same.calls kj39 t597 _ _ t598 t590 _ _ t591 t603 _ ?side1 ?side2 ?side3 ?side4 A85.out).mono ?_); (case side1 => refine (Kd.V_reads' (e := 2) (base := w.heap.size) (ok := fun k_ => ((k_ ≠ gb582 ∧ (k_ ≠ gb587 ∧ k_ ≠ gb595)) ∧ k_ ≠ gb602)) (n := t598.length) (c := co83) ?_).2.2; exact (by (with_reducible repeat (first | apply Kd.V_alloc | apply Kd.V_drewN | apply Kd.V_drew)); exact (Kd.V_mono (Kd.V_far (p := ⟨gb602, 1, none⟩) (Kd.V_far (p := ⟨gb602, 0, none⟩) (Kd.V_mono HO600.out (fun k_ hk => (⟨hk, hk.2⟩ : _ ∧ k_ ≠ gb602))) (fun _ hk => hk.2) (.int .u64 t597)) (fun _ hk => hk.2) (.slice Ao83 t598.length co83)) (fun _ h_ => h_.1)))); (case side2 => exact (Kd.V_reads' HO600.out).2.1); (case side3 => refine (Kd.V_reads' (e := 2) (base := w.heap.size) (ok := fun k_ => ((k_ ≠ gb582 ∧ (k_ ≠ gb587 ∧ k_ ≠ gb595)) ∧ k_ ≠ gb602)) (n := t591.length) (c := co48) ?_).2.2; exact (by (with_reducible repeat (first | apply Kd.V_alloc | apply Kd.V_drewN | apply Kd.V_drew)); exact (Kd.V_mono (Kd.V_far (p := ⟨gb602, 1, none⟩) (Kd.V_far (p := ⟨gb602, 0, none⟩) (Kd.V_mono HO_596001.out (fun k_ hk => (⟨hk, hk.2⟩ : _ ∧ k_ ≠ gb602))) (fun _ hk => hk.2) (.int .u64 t597)) (fun _ hk => hk.2) (.slice Ao83 t598.length co83)) (fun _ h_ => h_.1)))); (case side4 => exact (Kd.V_reads' HO_596001.out).2.1); rintro e w93 ⟨rfl, hb⟩; have n0_ := Aside0.mk (Kd.V_below (by (with_reducible repeat (first | apply Kd.V_alloc | apply Kd.V_drewN | apply Kd.V_drew)); exact (Kd.V_mono (Kd.V_far (p := ⟨gb602, 1, none⟩) (Kd.V_far (p := ⟨gb602, 0, none⟩) (Kd.V_mono HO_588001.out (fun k_ hk => (⟨hk, hk.2⟩ : _ ∧ k_ ≠ gb602))) (fun _ hk => hk.2) (.int .u64 t597)) (fun _ hk => hk.2) (.slice Ao83 t598.length co83)) (fun _ h_ => h_.1))) hb); have n1_ := Aside0.mk (Kd.V_below (by (with_reducible repeat (first | apply Kd.V_alloc | apply Kd.V_drewN | apply Kd.V_drew)); exact (Kd.V_mono (Kd.V_far (p := ⟨gb602, 1, none⟩) (Kd.V_far (p := ⟨gb602, 0, none⟩) (Kd.V_mono HO_596001.out (fun k_ hk => (⟨hk, hk.2⟩ : _ ∧ k_ ≠ gb602))) (fun _ hk => hk.2) (.int .u64 t597)) (fun _ hk => hk.2) (.slice Ao83 t598.length co83)) (fun _ h_ => h_.1))) hb); have n2_ := Aside0.mk (Kd.V_below (by (with_reducible repeat (first | apply Kd.V_alloc | apply Kd.V_drewN | apply Kd.V_drew)); exact (Kd.V_mono (Kd.V_far (p := ⟨gb602, 1, none⟩) (Kd.V_far (p := ⟨gb602, 0, none⟩) (Kd.V_mono HO600.out (fun k_ hk => (⟨hk, hk.2⟩ : _ ∧ k_ ≠ gb602))) (fun _ hk => hk.2) (.int .u64 t597)) (fun _ hk => hk.2) (.slice Ao83 t598.length co83)) (fun _ h_ => h_.1))) hb); have n3_ := Aside0.mk (blk_below (g := gb582) (o := .cells #[.int .i64 a0_0, .int .i64 a0_1, .int .i64 a0_2, .int .u64 a0_3, .slice A0_4 l0_4.length c0_4, .int .i64 a0_5, .int .u64 a0_6, .int .i64 a0_7, .int .i64 a0_8] 54 (0, 0)) (by (with_reducible repeat (first | refine blk_drewN ?_ _ | refine blk_drew ?_ | refine blk_alloc ?_ _)); refine blk_far ?_ NB582_602.out _; (with_reducible repeat (first | refine blk_drewN ?_ _ | refine blk_drew ?_ | refine blk_alloc ?_ _)); refine blk_far ?_ NB582_602.out _; (with_reducible repeat (first | refine blk_drewN ?_ _ | refine blk_drew ?_ | refine blk_alloc ?_ _)); exact BK582.out) hb); have n4_ := Aside0.mk (blk_below (g := gb587) (o := .cells #[.int .u64 t583, .slice Ao11 t584.length co11] 52 (0, 0)) (by (with_reducible repeat (first | refine blk_drewN ?_ _ | refine blk_drew ?_ | refine blk_alloc ?_ _)); refine blk_far ?_ NB587_602.out _; (with_reducible repeat (first | refine blk_drewN ?_ _ | refine blk_drew ?_ | refine blk_alloc ?_ _)); refine blk_far ?_ NB587_602.out _; (with_reducible repeat (first | refine blk_drewN ?_ _ | refine blk_drew ?_ | refine blk_alloc ?_ _)); exact BK587.out) hb); have n5_ := Aside0.mk (blk_below (g := gb595) (o := .cells #[.int .u64 t590, .slice Ao48 t591.length co48] 52 (0, 0)) (by (with_reducible repeat (first | refine blk_drewN ?_ _ | refine blk_drew ?_ | refine blk_alloc ?_ _)); refine blk_far ?_ NB595_602.out _; (with_reducible repeat (first | refine blk_drewN ?_ _ | refine blk_drew ?_ | refine blk_alloc ?_ _)); refine blk_far ?_ NB595_602.out _; (with_reducible repeat (first | refine blk_drewN ?_ _ | refine blk_drew ?_ | refine blk_alloc ?_ _)); exact BK595.out) hb); have n6_ := Aside0.mk (blk_below (g := gb602) (o := .cells #[.int .u64 t597, .slice Ao83 t598.length co83] 52 (0, 0)) (by (with_reducible repeat (first | refine blk_drewN ?_ _ | refine blk_drew ?_ | refine blk_alloc ?_ _)); refine blk_put (cs := #[.int .u64 t597, .slice none 0 0]) ?_ 1 _ rfl; (with_reducible repeat (first | refine blk_drewN ?_ _ | refine blk_drew ?_ | refine blk_alloc ?_ _)); refine blk_put (cs := #[.int .u64 0, .slice none 0 0]) ?_ 0 _ rfl; (with_reducible repeat (first | refine blk_drewN ?_ _ | refine blk_drew ?_ | refine blk_alloc ?_ _)); exact BK602.out) hb); have n7_ := Aside0.mk (below_step (by repeat (first | (with_reducible first | exact HB.out | apply below_alloc | apply pw_below_drewN | apply below_drew1 | refine below_set ?_ GE582.out | refine below_set ?_ GE587.out | refine below_set ?_ GE595.out | refine below_set ?_ GE602.out) | exact HB.out)) hb); clear HO_588001; clear HO_596001; clear HO600; clear BK582; clear BK587; clear BK595; clear BK602; clear HB; have HO_588001 := n0_; have HO_596001 := n1_; have HO600 := n2_; have BK582 := n3_; have BK587 := n4_; have BK595 := n5_; have BK602 := n6_; have HB := n7_; clear n0_ n1_ n2_ n3_ n4_ n5_ n6_ n7_; (try clear hb); (try clear hb2); (try clear hk); (try clear hi)))
                  go_meet
                  case rel => exact ⟨_, (!t603), (by first | rfl | (simp; done) | (simp [*]; done)), H', ⟨by have := HJ3.out; have := HJ39.out; first | omega | exact Nat.le_refl _⟩, ⟨by (with_reducible repeat (first | apply Kd.V_alloc | apply Kd.V_drewN | apply Kd.V_drew)); exact Kd.V_mono HO_588001.out (fun _ hk => ⟨hk.1.1, ⟨hk.1.2.1, ⟨hk.1.2.2, hk.2⟩⟩⟩)⟩, ⟨by (with_reducible repeat (first | apply Kd.V_alloc | apply Kd.V_drewN | apply Kd.V_drew)); exact Kd.V_mono HO_596001.out (fun _ hk => ⟨hk.1.1, ⟨hk.1.2.1, ⟨hk.1.2.2, hk.2⟩⟩⟩)⟩, ⟨by (with_reducible repeat (first | apply Kd.V_alloc | apply Kd.V_drewN | apply Kd.V_drew)); exact Kd.V_mono HO600.out (fun _ hk => ⟨hk.1.1, ⟨hk.1.2.1, ⟨hk.1.2.2, hk.2⟩⟩⟩)⟩, ⟨by (with_reducible repeat (first | refine blk_drewN ?_ _ | refine blk_drew ?_ | refine blk_alloc ?_ _)); exact BK582.out⟩, ⟨by (with_reducible repeat (first | refine blk_drewN ?_ _ | refine blk_drew ?_ | refine blk_alloc ?_ _)); exact BK587.out⟩, ⟨by (with_reducible repeat (first | refine blk_drewN ?_ _ | refine blk_drew ?_ | refine blk_alloc ?_ _)); exact BK595.out⟩, ⟨by (with_reducible repeat (first | refine blk_drewN ?_ _ | refine blk_drew ?_ | refine blk_alloc ?_ _)); exact BK602.out⟩, ⟨by repeat (first | (with_reducible first | exact HB.out | apply below_alloc | apply pw_below_drewN | apply below_drew1 | refine below_set ?_ GE582.out | refine below_set ?_ GE587.out | refine below_set ?_ GE595.out | refine below_set ?_ GE602.out) | exact HB.out)⟩⟩
                · rw [if_neg c84] at H
                  have c84b0 : (t601 == 8) = false := beq_eq_false_iff_ne.mpr c84
                  have c84b1 : (t601 != 8) = true := bne_iff_ne.mpr c84
                  (first | rw [c84b0] | (simp only [i64_w, i32_w]; rw [c84b0]) | skip)
                  have H' := Aside0.mk H
                  clear H
                  go_wp2
                  go_meet
                  case rel => exact ⟨_, (true), (by first | rfl | (simp; done) | (simp [*]; done)), H', ⟨by have := HJ3.out; have := HJ39.out; first | omega | exact Nat.le_refl _⟩, ⟨by (with_reducible repeat (first | apply Kd.V_alloc | apply Kd.V_drewN | apply Kd.V_drew)); exact Kd.V_mono (Kd.V_far (p := ⟨gb602, 1, none⟩) (Kd.V_far (p := ⟨gb602, 0, none⟩) (Kd.V_mono HO_588001.out (fun k_ hk => (⟨hk, hk.2⟩ : _ ∧ k_ ≠ gb602))) (fun _ hk => hk.2) (.int .u64 t597)) (fun _ hk => hk.2) (.slice Ao83 t598.length co83)) (fun _ hk => ⟨hk.1.1.1, ⟨hk.1.1.2.1, ⟨hk.1.1.2.2, hk.1.2⟩⟩⟩)⟩, ⟨by (with_reducible repeat (first | apply Kd.V_alloc | apply Kd.V_drewN | apply Kd.V_drew)); exact Kd.V_mono (Kd.V_far (p := ⟨gb602, 1, none⟩) (Kd.V_far (p := ⟨gb602, 0, none⟩) (Kd.V_mono HO_596001.out (fun k_ hk => (⟨hk, hk.2⟩ : _ ∧ k_ ≠ gb602))) (fun _ hk => hk.2) (.int .u64 t597)) (fun _ hk => hk.2) (.slice Ao83 t598.length co83)) (fun _ hk => ⟨hk.1.1.1, ⟨hk.1.1.2.1, ⟨hk.1.1.2.2, hk.1.2⟩⟩⟩)⟩, ⟨by (with_reducible repeat (first | apply Kd.V_alloc | apply Kd.V_drewN | apply Kd.V_drew)); exact Kd.V_mono (Kd.V_far (p := ⟨gb602, 1, none⟩) (Kd.V_far (p := ⟨gb602, 0, none⟩) (Kd.V_mono HO600.out (fun k_ hk => (⟨hk, hk.2⟩ : _ ∧ k_ ≠ gb602))) (fun _ hk => hk.2) (.int .u64 t597)) (fun _ hk => hk.2) (.slice Ao83 t598.length co83)) (fun _ hk => ⟨hk.1.1.1, ⟨hk.1.1.2.1, ⟨hk.1.1.2.2, hk.1.2⟩⟩⟩)⟩, ⟨by (with_reducible repeat (first | refine blk_drewN ?_ _ | refine blk_drew ?_ | refine blk_alloc ?_ _)); refine blk_far ?_ NB582_602.out _; (with_reducible repeat (first | refine blk_drewN ?_ _ | refine blk_drew ?_ | refine blk_alloc ?_ _)); refine blk_far ?_ NB582_602.out _; (with_reducible repeat (first | refine blk_drewN ?_ _ | refine blk_drew ?_ | refine blk_alloc ?_ _)); exact BK582.out⟩, ⟨by (with_reducible repeat (first | refine blk_drewN ?_ _ | refine blk_drew ?_ | refine blk_alloc ?_ _)); refine blk_far ?_ NB587_602.out _; (with_reducible repeat (first | refine blk_drewN ?_ _ | refine blk_drew ?_ | refine blk_alloc ?_ _)); refine blk_far ?_ NB587_602.out _; (with_reducible repeat (first | refine blk_drewN ?_ _ | refine blk_drew ?_ | refine blk_alloc ?_ _)); exact BK587.out⟩, ⟨by (with_reducible repeat (first | refine blk_drewN ?_ _ | refine blk_drew ?_ | refine blk_alloc ?_ _)); refine blk_far ?_ NB595_602.out _; (with_reducible repeat (first | refine blk_drewN ?_ _ | refine blk_drew ?_ | refine blk_alloc ?_ _)); refine blk_far ?_ NB595_602.out _; (with_reducible repeat (first | refine blk_drewN ?_ _ | refine blk_drew ?_ | refine blk_alloc ?_ _)); exact BK595.out⟩, ⟨by (with_reducible repeat (first | refine blk_drewN ?_ _ | refine blk_drew ?_ | refine blk_alloc ?_ _)); refine blk_put (cs := #[.int .u64 t597, .slice none 0 0]) ?_ 1 _ rfl; (with_reducible repeat (first | refine blk_drewN ?_ _ | refine blk_drew ?_ | refine blk_alloc ?_ _)); refine blk_put (cs := #[.int .u64 0, .slice none 0 0]) ?_ 0 _ rfl; (with_reducible repeat (first | refine blk_drewN ?_ _ | refine blk_drew ?_ | refine blk_alloc ?_ _)); exact BK602.out⟩, ⟨by repeat (first | (with_reducible first | exact HB.out | apply below_alloc | apply pw_below_drewN | apply below_drew1 | refine below_set ?_ GE582.out | refine below_set ?_ GE587.out | refine below_set ?_ GE595.out | refine below_set ?_ GE602.out) | exact HB.out)⟩⟩
              case rest =>
                clear HC70
                try clear c1
                try clear c2
                try clear p2
                try clear c3
                try clear c4
                try clear c5
                try clear c6
                try clear c7
                try clear c8
                try clear c9
                try clear c11
                try clear c12
                try clear c12b0
                try clear c13
                try clear c16
                try clear c16b0
                try clear c16b1
                try clear c17
                try clear c17b0
                try clear c17b1
                try clear c17b2
                try clear c18
                try clear c21
                try clear c22
                try clear c22b0
                try clear c23
                try clear c24
                try clear c28
                try clear c29
                try clear c33
                try clear c36
                try clear c41
                try clear c45
                try clear c46
                try clear c49
                try clear c49b0
                try clear c49b1
                try clear c50
                try clear c50b0
                try clear c50b1
                try clear c51
                try clear c51b0
                try clear c51b1
                try clear c51b2
                try clear c53
                try clear c54
                try clear c56
                try clear c60
                try clear c61
                try clear c63
                try clear c65
                try clear c66
                try clear c68
                try clear c71
                try clear c72
                try clear c74
                try clear c79
                try clear c80
                try clear c81
                try clear c84
                try clear c84b0
                try clear c84b1
                try clear c86
                try clear c87
                try clear c88
                try clear c90
                try clear c91
                try clear hcz10_0
                try clear hcz10_1
                try clear hcz14_0
                try clear hcz14_1
                try clear hcz19_0
                try clear hcz19_1
                try clear hcz21_0
                try clear hcz21_1
                try clear hcz24_0
                try clear hcz24_1
                try clear hcz26_0
                try clear hcz26_1
                try clear hcz27_0
                try clear hcz27_1
                try clear hcz27_2
                try clear hcz27_3
                try clear hcz27_4
                try clear hcz27_5
                try clear hcz27_6
                try clear hcz27_7
                try clear hcz27_8
                try clear hcz29_0
                try clear hcz29_1
                try clear hcz31_0
                try clear hcz31_1
                try clear hcz32_0
                try clear hcz32_1
                try clear hcz32_2
                try clear hcz32_3
                try clear hcz32_4
                try clear hcz32_5
                try clear hcz32_6
                try clear hcz32_7
                try clear hcz32_8
                try clear hcz34_0
                try clear hcz34_1
                try clear hcz42_0
                try clear hcz42_1
                try clear hcz47_0
                try clear hcz47_1
                try clear hcz55_0
                try clear hcz55_1
                try clear hcz57_0
                try clear hcz57_1
                try clear hcz58_0
                try clear hcz58_1
                try clear hcz58_2
                try clear hcz58_3
                try clear hcz58_4
                try clear hcz58_5
                try clear hcz58_6
                try clear hcz58_7
                try clear hcz58_8
                try clear hcz62_0
                try clear hcz62_1
                try clear hcz64_0
                try clear hcz64_1
                try clear hcz67_0
                try clear hcz67_1
                try clear hcz6_0
                try clear hcz6_1
                try clear hcz6_2
                try clear hcz6_3
                try clear hcz6_4
                try clear hcz6_5
                try clear hcz6_6
                try clear hcz6_7
                try clear hcz6_8
                try clear hcz73_0
                try clear hcz73_1
                try clear hcz75_0
                try clear hcz75_1
                try clear hcz76_0
                try clear hcz76_1
                try clear hcz76_2
                try clear hcz76_3
                try clear hcz76_4
                try clear hcz76_5
                try clear hcz76_6
                try clear hcz76_7
                try clear hcz76_8
                try clear hcz82_0
                try clear hcz82_1
                try clear hcz89_0
                try clear hcz89_1
                try clear hcz92_0
                try clear hcz92_1
                try clear hfz10_0
                try clear hfz10_1
                try clear hfz14_0
                try clear hfz14_1
                try clear hfz19_0
                try clear hfz19_1
                try clear hfz21_0
                try clear hfz21_1
                try clear hfz24_0
                try clear hfz24_1
                try clear hfz26_0
                try clear hfz26_1
                try clear hfz27_0
                try clear hfz27_1
                try clear hfz27_2
                try clear hfz27_3
                try clear hfz27_4
                try clear hfz27_5
                try clear hfz27_6
                try clear hfz27_7
                try clear hfz27_8
                try clear hfz29_0
                try clear hfz29_1
                try clear hfz31_0
                try clear hfz31_1
                try clear hfz32_0
                try clear hfz32_1
                try clear hfz32_2
                try clear hfz32_3
                try clear hfz32_4
                try clear hfz32_5
                try clear hfz32_6
                try clear hfz32_7
                try clear hfz32_8
                try clear hfz34_0
                try clear hfz34_1
                try clear hfz42_0
                try clear hfz42_1
                try clear hfz47_0
                try clear hfz47_1
                try clear hfz55_0
                try clear hfz55_1
                try clear hfz57_0
                try clear hfz57_1
                try clear hfz58_0
                try clear hfz58_1
                try clear hfz58_2
                try clear hfz58_3
                try clear hfz58_4
                try clear hfz58_5
                try clear hfz58_6
                try clear hfz58_7
                try clear hfz58_8
                try clear hfz62_0
                try clear hfz62_1
                try clear hfz64_0
                try clear hfz64_1
                try clear hfz67_0
                try clear hfz67_1
                try clear hfz6_0
                try clear hfz6_1
                try clear hfz6_2
                try clear hfz6_3
                try clear hfz6_4
                try clear hfz6_5
                try clear hfz6_6
                try clear hfz6_7
                try clear hfz6_8
                try clear hfz73_0
                try clear hfz73_1
                try clear hfz75_0
                try clear hfz75_1
                try clear hfz76_0
                try clear hfz76_1
                try clear hfz76_2
                try clear hfz76_3
                try clear hfz76_4
                try clear hfz76_5
                try clear hfz76_6
                try clear hfz76_7
                try clear hfz76_8
                try clear hfz82_0
                try clear hfz82_1
                try clear hfz89_0
                try clear hfz89_1
                try clear hfz92_0
                try clear hfz92_1
                try clear p2
                obtain ⟨kq, x97_69, rfl, HA, HJ69, HO_588001, HO_596001, HO_603001, BK582, BK587, BK595, BK602, HB⟩ := hcut
                cases kq with
                | zero => exact absurd HA.out (by simp [tattlelaw18_LeadStarts.j2])
                | succ kj69 =>
                  have H := HA.out
                  clear HA
                  simp only [tattlelaw18_LeadStarts.j2] at H
                  by_cases c94 : x97_69 = true
                  · subst c94
                    have H1 : (some false) = some r := by rw [if_pos rfl] at H; exact H
                    clear H
                    have H := H1
                    clear H1
                    exact absurd ((Option.some.inj H).trans hrt.out) (by decide)
                  · replace c94 := Bool.eq_false_iff.mpr c94
                    subst c94
                    have H1 : (tattlelaw18_LeadStarts.l0 kj69 (IntKind.u64.wrap ((IntKind.u64.wrap (t583 + 1)) + (IntKind.u64.wrap (a1)))) 0 a0_0 a0_1 a0_2 a0_3 l0_4 a0_5 a0_6 a0_7 a0_8 t590 t591) = some r := by rw [if_neg (show ¬ (false = true) by decide)] at H; exact H
                    clear H
                    have H := H1
                    clear H1
                    have H' := Aside0.mk H
                    clear H
                    go_wp2
                    go_loopg [11] kj69 (fun kq v11 w' => ∃ (x11_4 : Int) (x596000_4 : Int) (x596001_4 : List Int) (u596001 : Value), v11 = .int .i64 x11_4 ∧ Aside0 (tattlelaw18_LeadStarts.l0 kq (IntKind.u64.wrap ((IntKind.u64.wrap (t583 + 1)) + (IntKind.u64.wrap (a1)))) x11_4 a0_0 a0_1 a0_2 a0_3 l0_4 a0_5 a0_6 a0_7 a0_8 x596000_4 x596001_4 = some r) ∧ Aside0 (kq ≤ kj69) ∧ Aside0 (Kd.V (Kd.int .i64) 2 w' w.heap.size (fun k_ => k_ ≠ gb582 ∧ k_ ≠ gb587 ∧ k_ ≠ gb595 ∧ k_ ≠ gb602) (.slice Ao11 t584.length co11) t584) ∧ Aside0 (Kd.V (Kd.int .i64) 2 w' w.heap.size (fun k_ => k_ ≠ gb582 ∧ k_ ≠ gb587 ∧ k_ ≠ gb595 ∧ k_ ≠ gb602) u596001 x596001_4) ∧ Aside0 (Kd.V (Kd.int .i64) 2 w' w.heap.size (fun k_ => k_ ≠ gb582 ∧ k_ ≠ gb587 ∧ k_ ≠ gb595 ∧ k_ ≠ gb602) (.slice Ao83 t598.length co83) t598) ∧ Aside0 (w'.heap[gb582]? = some (.cells #[.int .i64 a0_0, .int .i64 a0_1, .int .i64 a0_2, .int .u64 a0_3, (.slice A0_4 l0_4.length c0_4), .int .i64 a0_5, .int .u64 a0_6, .int .i64 a0_7, .int .i64 a0_8] 54 (0, 0))) ∧ Aside0 (w'.heap[gb587]? = some (.cells #[.int .u64 t583, (.slice Ao11 t584.length co11)] 52 (0, 0))) ∧ Aside0 (w'.heap[gb595]? = some (.cells #[.int .u64 x596000_4, u596001] 52 (0, 0))) ∧ Aside0 (w'.heap[gb602]? = some (.cells #[.int .u64 t597, (.slice Ao83 t598.length co83)] 52 (0, 0))) ∧ Aside0 (Below w.heap.size w w'))
                    case atStart => exact ⟨(0), (t590), (t591), (.slice Ao48 t591.length co48), (by first | rfl | (simp; done) | (simp [*]; done)), H', ⟨Nat.le_refl _⟩, ⟨by (with_reducible repeat (first | apply Kd.V_alloc | apply Kd.V_drewN | apply Kd.V_drew)); exact HO_588001.out⟩, ⟨by (with_reducible repeat (first | apply Kd.V_alloc | apply Kd.V_drewN | apply Kd.V_drew)); exact HO_596001.out⟩, ⟨by (with_reducible repeat (first | apply Kd.V_alloc | apply Kd.V_drewN | apply Kd.V_drew)); exact HO_603001.out⟩, ⟨by (with_reducible repeat (first | refine blk_drewN ?_ _ | refine blk_drew ?_ | refine blk_alloc ?_ _)); exact BK582.out⟩, ⟨by (with_reducible repeat (first | refine blk_drewN ?_ _ | refine blk_drew ?_ | refine blk_alloc ?_ _)); exact BK587.out⟩, ⟨by (with_reducible repeat (first | refine blk_drewN ?_ _ | refine blk_drew ?_ | refine blk_alloc ?_ _)); exact BK595.out⟩, ⟨by (with_reducible repeat (first | refine blk_drewN ?_ _ | refine blk_drew ?_ | refine blk_alloc ?_ _)); exact BK602.out⟩, ⟨by repeat (first | (with_reducible first | exact HB.out | apply below_alloc | apply pw_below_drewN | apply below_drew1 | refine below_set ?_ GE582.out | refine below_set ?_ GE587.out | refine below_set ?_ GE595.out | refine below_set ?_ GE602.out) | exact HB.out)⟩⟩
                    case round =>
                      clear H'
                      try clear c1
                      try clear c2
                      try clear p2
                      try clear c3
                      try clear c4
                      try clear c5
                      try clear c6
                      try clear c7
                      try clear c8
                      try clear c9
                      try clear c11
                      try clear c12
                      try clear c12b0
                      try clear c13
                      try clear c16
                      try clear c16b0
                      try clear c16b1
                      try clear c17
                      try clear c17b0
                      try clear c17b1
                      try clear c17b2
                      try clear c18
                      try clear c21
                      try clear c22
                      try clear c22b0
                      try clear c23
                      try clear c24
                      try clear c28
                      try clear c29
                      try clear c33
                      try clear c36
                      try clear c41
                      try clear c45
                      try clear c46
                      try clear c49
                      try clear c49b0
                      try clear c49b1
                      try clear c50
                      try clear c50b0
                      try clear c50b1
                      try clear c51
                      try clear c51b0
                      try clear c51b1
                      try clear c51b2
                      try clear c53
                      try clear c54
                      try clear c56
                      try clear c60
                      try clear c61
                      try clear c63
                      try clear c65
                      try clear c66
                      try clear c68
                      try clear c71
                      try clear c72
                      try clear c74
                      try clear c79
                      try clear c80
                      try clear c81
                      try clear c84
                      try clear c84b0
                      try clear c84b1
                      try clear c86
                      try clear c87
                      try clear c88
                      try clear c90
                      try clear c91
                      try clear c94
                      try clear hcz10_0
                      try clear hcz10_1
                      try clear hcz14_0
                      try clear hcz14_1
                      try clear hcz19_0
                      try clear hcz19_1
                      try clear hcz21_0
                      try clear hcz21_1
                      try clear hcz24_0
                      try clear hcz24_1
                      try clear hcz26_0
                      try clear hcz26_1
                      try clear hcz27_0
                      try clear hcz27_1
                      try clear hcz27_2
                      try clear hcz27_3
                      try clear hcz27_4
                      try clear hcz27_5
                      try clear hcz27_6
                      try clear hcz27_7
                      try clear hcz27_8
                      try clear hcz29_0
                      try clear hcz29_1
                      try clear hcz31_0
                      try clear hcz31_1
                      try clear hcz32_0
                      try clear hcz32_1
                      try clear hcz32_2
                      try clear hcz32_3
                      try clear hcz32_4
                      try clear hcz32_5
                      try clear hcz32_6
                      try clear hcz32_7
                      try clear hcz32_8
                      try clear hcz34_0
                      try clear hcz34_1
                      try clear hcz42_0
                      try clear hcz42_1
                      try clear hcz47_0
                      try clear hcz47_1
                      try clear hcz55_0
                      try clear hcz55_1
                      try clear hcz57_0
                      try clear hcz57_1
                      try clear hcz58_0
                      try clear hcz58_1
                      try clear hcz58_2
                      try clear hcz58_3
                      try clear hcz58_4
                      try clear hcz58_5
                      try clear hcz58_6
                      try clear hcz58_7
                      try clear hcz58_8
                      try clear hcz62_0
                      try clear hcz62_1
                      try clear hcz64_0
                      try clear hcz64_1
                      try clear hcz67_0
                      try clear hcz67_1
                      try clear hcz6_0
                      try clear hcz6_1
                      try clear hcz6_2
                      try clear hcz6_3
                      try clear hcz6_4
                      try clear hcz6_5
                      try clear hcz6_6
                      try clear hcz6_7
                      try clear hcz6_8
                      try clear hcz73_0
                      try clear hcz73_1
                      try clear hcz75_0
                      try clear hcz75_1
                      try clear hcz76_0
                      try clear hcz76_1
                      try clear hcz76_2
                      try clear hcz76_3
                      try clear hcz76_4
                      try clear hcz76_5
                      try clear hcz76_6
                      try clear hcz76_7
                      try clear hcz76_8
                      try clear hcz82_0
                      try clear hcz82_1
                      try clear hcz89_0
                      try clear hcz89_1
                      try clear hcz92_0
                      try clear hcz92_1
                      try clear hfz10_0
                      try clear hfz10_1
                      try clear hfz14_0
                      try clear hfz14_1
                      try clear hfz19_0
                      try clear hfz19_1
                      try clear hfz21_0
                      try clear hfz21_1
                      try clear hfz24_0
                      try clear hfz24_1
                      try clear hfz26_0
                      try clear hfz26_1
                      try clear hfz27_0
                      try clear hfz27_1
                      try clear hfz27_2
                      try clear hfz27_3
                      try clear hfz27_4
                      try clear hfz27_5
                      try clear hfz27_6
                      try clear hfz27_7
                      try clear hfz27_8
                      try clear hfz29_0
                      try clear hfz29_1
                      try clear hfz31_0
                      try clear hfz31_1
                      try clear hfz32_0
                      try clear hfz32_1
                      try clear hfz32_2
                      try clear hfz32_3
                      try clear hfz32_4
                      try clear hfz32_5
                      try clear hfz32_6
                      try clear hfz32_7
                      try clear hfz32_8
                      try clear hfz34_0
                      try clear hfz34_1
                      try clear hfz42_0
                      try clear hfz42_1
                      try clear hfz47_0
                      try clear hfz47_1
                      try clear hfz55_0
                      try clear hfz55_1
                      try clear hfz57_0
                      try clear hfz57_1
                      try clear hfz58_0
                      try clear hfz58_1
                      try clear hfz58_2
                      try clear hfz58_3
                      try clear hfz58_4
                      try clear hfz58_5
                      try clear hfz58_6
                      try clear hfz58_7
                      try clear hfz58_8
                      try clear hfz62_0
                      try clear hfz62_1
                      try clear hfz64_0
                      try clear hfz64_1
                      try clear hfz67_0
                      try clear hfz67_1
                      try clear hfz6_0
                      try clear hfz6_1
                      try clear hfz6_2
                      try clear hfz6_3
                      try clear hfz6_4
                      try clear hfz6_5
                      try clear hfz6_6
                      try clear hfz6_7
                      try clear hfz6_8
                      try clear hfz73_0
                      try clear hfz73_1
                      try clear hfz75_0
                      try clear hfz75_1
                      try clear hfz76_0
                      try clear hfz76_1
                      try clear hfz76_2
                      try clear hfz76_3
                      try clear hfz76_4
                      try clear hfz76_5
                      try clear hfz76_6
                      try clear hfz76_7
                      try clear hfz76_8
                      try clear hfz82_0
                      try clear hfz82_1
                      try clear hfz89_0
                      try clear hfz89_1
                      try clear hfz92_0
                      try clear hfz92_1
                      try clear p2
                      obtain ⟨x11_4, x596000_4, x596001_4, u596001, rfl, HA, HK4, HO_588001, HO_596001, HO_603001, BK582, BK587, BK595, BK602, HB⟩ := hrel
                      cases gk with
                      | zero => exact absurd HA.out (by simp [tattlelaw18_LeadStarts.l0])
                      | succ k4 =>
                        have H := HA.out
                        clear HA
                        simp only [tattlelaw18_LeadStarts.l0] at H
                        by_cases c95 : x11_4 < (x596001_4.length : Int)
                        · rw [if_pos c95] at H
                          have c95b0 : decide (x11_4 < (x596001_4.length : Int)) = true := decide_eq_true c95
                          clear c95
                          replace H := Option.bind_eq_some_iff.mp H
                          obtain ⟨⟨t604, t605, t608⟩, A960, H⟩ := H
                          replace H : (if t608 = 0 then (tattlelaw18_LeadStarts.l0 k4 (IntKind.u64.wrap ((IntKind.u64.wrap (t583 + 1)) + (IntKind.u64.wrap (a1)))) (wrap64 (x11_4 + 1)) a0_0 a0_1 a0_2 a0_3 l0_4 a0_5 a0_6 a0_7 a0_8 t604 t605) else (some false)) = some r := H
                          have A96 := Aside0.mk A960
                          clear A960
                          by_cases c97 : t608 = 0
                          · rw [if_pos c97] at H
                            have c97b0 : (t608 == 0) = true := beq_iff_eq.mpr c97
                            have c97b1 : (t608 != 0) = false := bne_eq_false_iff_eq.mpr c97
                            clear c97
                            have H' := Aside0.mk H
                            clear H
                            have hnb98 := NB595_582.out
                            have hnc98 := NB582_595.out
                            have hnb99 := NB595_587.out
                            have hnc99 := NB587_595.out
                            have hnb100 := NB595_602.out
                            have hnc100 := NB602_595.out
                            have hcz101_0 : wr.cell? ⟨gb595, 0, none⟩ = some (.int .u64 x596000_4) := (blk_cell BK595.out 0).trans rfl
                            have hcz101_1 : wr.cell? ⟨gb595, 1, none⟩ = some (u596001) := (blk_cell BK595.out 1).trans rfl
                            have hfz101_0 := blk_frozen BK595.out 0
                            have hfz101_1 := blk_frozen BK595.out 1
                            obtain ⟨Ao102, co102, eo102⟩ := Kd.V_slice HO_596001.out
                            subst eo102
                            have hnb103 := NB582_587.out
                            have hnc103 := NB587_582.out
                            have hnb104 := NB582_602.out
                            have hnc104 := NB602_582.out
                            have hcz105_0 : wr.cell? ⟨gb582, 0, none⟩ = some (.int .i64 a0_0) := (blk_cell BK582.out 0).trans rfl
                            have hcz105_1 : wr.cell? ⟨gb582, 1, none⟩ = some (.int .i64 a0_1) := (blk_cell BK582.out 1).trans rfl
                            have hcz105_2 : wr.cell? ⟨gb582, 2, none⟩ = some (.int .i64 a0_2) := (blk_cell BK582.out 2).trans rfl
                            have hcz105_3 : wr.cell? ⟨gb582, 3, none⟩ = some (.int .u64 a0_3) := (blk_cell BK582.out 3).trans rfl
                            have hcz105_4 : wr.cell? ⟨gb582, 4, none⟩ = some (.slice A0_4 l0_4.length c0_4) := (blk_cell BK582.out 4).trans rfl
                            have hcz105_5 : wr.cell? ⟨gb582, 5, none⟩ = some (.int .i64 a0_5) := (blk_cell BK582.out 5).trans rfl
                            have hcz105_6 : wr.cell? ⟨gb582, 6, none⟩ = some (.int .u64 a0_6) := (blk_cell BK582.out 6).trans rfl
                            have hcz105_7 : wr.cell? ⟨gb582, 7, none⟩ = some (.int .i64 a0_7) := (blk_cell BK582.out 7).trans rfl
                            have hcz105_8 : wr.cell? ⟨gb582, 8, none⟩ = some (.int .i64 a0_8) := (blk_cell BK582.out 8).trans rfl
                            have hfz105_0 := blk_frozen BK582.out 0
                            have hfz105_1 := blk_frozen BK582.out 1
                            have hfz105_2 := blk_frozen BK582.out 2
                            have hfz105_3 := blk_frozen BK582.out 3
                            have hfz105_4 := blk_frozen BK582.out 4
                            have hfz105_5 := blk_frozen BK582.out 5
                            have hfz105_6 := blk_frozen BK582.out 6
                            have hfz105_7 := blk_frozen BK582.out 7
                            have hfz105_8 := blk_frozen BK582.out 8
                            go_wp2_with (first | ((with_reducible refine gate_callee (f := 22) rfl ?_); refine goesL_ (some 111) rfl rfl Try.func22 (by kernel_rfl) rfl #[.agg #[.int .u64 x596000_4, .slice Ao102 x596001_4.length co102], .int .i64 x11_4, .int .u64 (IntKind.u64.wrap ((IntKind.u64.wrap (t583 + 1)) + (IntKind.u64.wrap (a1)))), .int .i64 a0_7] rfl (by (try simp only [List.map_toArray, List.map_cons, List.map_nil]); first | done | rfl | (simp only [List.length_drop, List.length_take]; rfl)) ?_; (with_reducible refine (lead_Granted.calls k4 x596000_4 (fun k_ => (k_ ≠ gb582 ∧ (k_ ≠ gb587 ∧ (k_ ≠ gb595 ∧ k_ ≠ gb602)))) _ _ x596001_4 x11_4 (IntKind.u64.wrap ((IntKind.u64.wrap (t583 + 1)) + (IntKind.u64.wrap (a1)))) a0_7 t604 t605 t608 _ ?side1 A96.out).mono ?_); (case side1 => exact HO_596001.out); rintro e w106 ⟨v606, rfl, ho0, hb⟩; refine ⟨_, rfl, ?_⟩; have n0_ := Aside0.mk (Kd.V_below (by (with_reducible repeat (first | apply Kd.V_alloc | apply Kd.V_drewN | apply Kd.V_drew)); exact HO_588001.out) hb); have n1_ := Aside0.mk (Kd.V_below (by (with_reducible repeat (first | apply Kd.V_alloc | apply Kd.V_drewN | apply Kd.V_drew)); exact HO_596001.out) hb); have n2_ := Aside0.mk (Kd.V_below (by (with_reducible repeat (first | apply Kd.V_alloc | apply Kd.V_drewN | apply Kd.V_drew)); exact HO_603001.out) hb); have n3_ := Aside0.mk (Kd.V_lower (Kd.V_mono (ok' := fun k_ => k_ ≠ gb582 ∧ k_ ≠ gb587 ∧ k_ ≠ gb595 ∧ k_ ≠ gb602) ho0 (fun k_ hk_ => ⟨Or.elim hk_ (fun hs_ => hs_.1) (fun hn_ => (Kd.freshB (g := gb582) (o := .cells #[.int .i64 a0_0, .int .i64 a0_1, .int .i64 a0_2, .int .u64 a0_3, .slice A0_4 l0_4.length c0_4, .int .i64 a0_5, .int .u64 a0_6, .int .i64 a0_7, .int .i64 a0_8] 54 (0, 0)) (by (with_reducible repeat (first | refine blk_drewN ?_ _ | refine blk_drew ?_ | refine blk_alloc ?_ _)); exact BK582.out) k_ hn_)), Or.elim hk_ (fun hs_ => hs_.2.1) (fun hn_ => (Kd.freshB (g := gb587) (o := .cells #[.int .u64 t583, .slice Ao11 t584.length co11] 52 (0, 0)) (by (with_reducible repeat (first | refine blk_drewN ?_ _ | refine blk_drew ?_ | refine blk_alloc ?_ _)); exact BK587.out) k_ hn_)), Or.elim hk_ (fun hs_ => hs_.2.2.1) (fun hn_ => (Kd.freshB (g := gb595) (o := .cells #[.int .u64 x596000_4, .slice Ao102 x596001_4.length co102] 52 (0, 0)) (by (with_reducible repeat (first | refine blk_drewN ?_ _ | refine blk_drew ?_ | refine blk_alloc ?_ _)); exact BK595.out) k_ hn_)), Or.elim hk_ (fun hs_ => hs_.2.2.2) (fun hn_ => (Kd.freshB (g := gb602) (o := .cells #[.int .u64 t597, .slice Ao83 t598.length co83] 52 (0, 0)) (by (with_reducible repeat (first | refine blk_drewN ?_ _ | refine blk_drew ?_ | refine blk_alloc ?_ _)); exact BK602.out) k_ hn_))⟩)) (below_size (by repeat (first | (with_reducible first | exact HB.out | apply below_alloc | apply pw_below_drewN | apply below_drew1 | refine below_set ?_ GE582.out | refine below_set ?_ GE587.out | refine below_set ?_ GE595.out | refine below_set ?_ GE602.out) | exact HB.out)))); have n4_ := Aside0.mk (blk_below (g := gb582) (o := .cells #[.int .i64 a0_0, .int .i64 a0_1, .int .i64 a0_2, .int .u64 a0_3, .slice A0_4 l0_4.length c0_4, .int .i64 a0_5, .int .u64 a0_6, .int .i64 a0_7, .int .i64 a0_8] 54 (0, 0)) (by (with_reducible repeat (first | refine blk_drewN ?_ _ | refine blk_drew ?_ | refine blk_alloc ?_ _)); exact BK582.out) hb); have n5_ := Aside0.mk (blk_below (g := gb587) (o := .cells #[.int .u64 t583, .slice Ao11 t584.length co11] 52 (0, 0)) (by (with_reducible repeat (first | refine blk_drewN ?_ _ | refine blk_drew ?_ | refine blk_alloc ?_ _)); exact BK587.out) hb); have n6_ := Aside0.mk (blk_below (g := gb595) (o := .cells #[.int .u64 x596000_4, .slice Ao102 x596001_4.length co102] 52 (0, 0)) (by (with_reducible repeat (first | refine blk_drewN ?_ _ | refine blk_drew ?_ | refine blk_alloc ?_ _)); exact BK595.out) hb); have n7_ := Aside0.mk (blk_below (g := gb602) (o := .cells #[.int .u64 t597, .slice Ao83 t598.length co83] 52 (0, 0)) (by (with_reducible repeat (first | refine blk_drewN ?_ _ | refine blk_drew ?_ | refine blk_alloc ?_ _)); exact BK602.out) hb); have n8_ := Aside0.mk (below_step (by repeat (first | (with_reducible first | exact HB.out | apply below_alloc | apply pw_below_drewN | apply below_drew1 | refine below_set ?_ GE582.out | refine below_set ?_ GE587.out | refine below_set ?_ GE595.out | refine below_set ?_ GE602.out) | exact HB.out)) hb); clear HO_588001; clear HO_596001; clear HO_603001; clear BK582; clear BK587; clear BK595; clear BK602; clear HB; have HO_588001 := n0_; have HO_596001 := n1_; have HO_603001 := n2_; have HO607 := n3_; have BK582 := n4_; have BK587 := n5_; have BK595 := n6_; have BK602 := n7_; have HB := n8_; clear n0_ n1_ n2_ n3_ n4_ n5_ n6_ n7_ n8_; (try clear hb); (try clear hb2); (try clear hk); (try clear hi); (try clear ho0)) | ((with_reducible refine gate_dst (N := 12) rfl ?_); (try (refine gate_guard (by rfl) ?_; dsimp only)); refine box_event ?hg (N := 12) ?hd (cs := #[.int .u64 0, .slice none 0 0]) (t := 52) ?hr ?_; (case hd => rfl); (case hg => rfl); (case hr => first | (go_simp; done) | (go_simp; rfl)); intro gb609 hg w107 hbox hb; have n0_ := Aside0.mk (Kd.V_below (Kd.V_elderB (by (with_reducible repeat (first | apply Kd.V_alloc | apply Kd.V_drewN | apply Kd.V_drew)); exact HO_588001.out) gb609 (Nat.le_of_eq hg.symm)) hb); have n1_ := Aside0.mk (Kd.V_below (Kd.V_elderB (by (with_reducible repeat (first | apply Kd.V_alloc | apply Kd.V_drewN | apply Kd.V_drew)); exact HO_596001.out) gb609 (Nat.le_of_eq hg.symm)) hb); have n2_ := Aside0.mk (Kd.V_below (Kd.V_elderB (by (with_reducible repeat (first | apply Kd.V_alloc | apply Kd.V_drewN | apply Kd.V_drew)); exact HO_603001.out) gb609 (Nat.le_of_eq hg.symm)) hb); have n3_ := Aside0.mk (Kd.V_below (Kd.V_elderB (by (with_reducible repeat (first | apply Kd.V_alloc | apply Kd.V_drewN | apply Kd.V_drew)); exact HO607.out) gb609 (Nat.le_of_eq hg.symm)) hb); have n4_ := Aside0.mk (blk_below (g := gb582) (o := .cells #[.int .i64 a0_0, .int .i64 a0_1, .int .i64 a0_2, .int .u64 a0_3, .slice A0_4 l0_4.length c0_4, .int .i64 a0_5, .int .u64 a0_6, .int .i64 a0_7, .int .i64 a0_8] 54 (0, 0)) (by (with_reducible repeat (first | refine blk_drewN ?_ _ | refine blk_drew ?_ | refine blk_alloc ?_ _)); exact BK582.out) hb); have n5_ := Aside0.mk (blk_below (g := gb587) (o := .cells #[.int .u64 t583, .slice Ao11 t584.length co11] 52 (0, 0)) (by (with_reducible repeat (first | refine blk_drewN ?_ _ | refine blk_drew ?_ | refine blk_alloc ?_ _)); exact BK587.out) hb); have n6_ := Aside0.mk (blk_below (g := gb595) (o := .cells #[.int .u64 x596000_4, .slice Ao102 x596001_4.length co102] 52 (0, 0)) (by (with_reducible repeat (first | refine blk_drewN ?_ _ | refine blk_drew ?_ | refine blk_alloc ?_ _)); exact BK595.out) hb); have n7_ := Aside0.mk (blk_below (g := gb602) (o := .cells #[.int .u64 t597, .slice Ao83 t598.length co83] 52 (0, 0)) (by (with_reducible repeat (first | refine blk_drewN ?_ _ | refine blk_drew ?_ | refine blk_alloc ?_ _)); exact BK602.out) hb); have n8_ := Aside0.mk (below_step (by repeat (first | (with_reducible first | exact HB.out | apply below_alloc | apply pw_below_drewN | apply below_drew1 | refine below_set ?_ GE582.out | refine below_set ?_ GE587.out | refine below_set ?_ GE595.out | refine below_set ?_ GE602.out) | exact HB.out)) hb); have n9_ := Aside0.mk (hbox); have n10_ := Aside0.mk ((by rw [hg]; exact (below_size (by repeat (first | (with_reducible first | exact HB.out | apply below_alloc | apply pw_below_drewN | apply below_drew1 | refine below_set ?_ GE582.out | refine below_set ?_ GE587.out | refine below_set ?_ GE595.out | refine below_set ?_ GE602.out) | exact HB.out))) : w.heap.size ≤ gb609)); have n11_ := Aside0.mk ((by rw [hg]; exact (below_size (by repeat (first | (with_reducible first | exact HB.out | apply below_alloc | apply pw_below_drewN | apply below_drew1 | refine below_set ?_ GE582.out | refine below_set ?_ GE587.out | refine below_set ?_ GE595.out | refine below_set ?_ GE602.out) | exact HB.out))) : w.heap.size ≤ gb609)); have n12_ := Aside0.mk ((by rw [hg]; exact Nat.ne_of_lt (blk_lt (g := gb582) (o := .cells #[.int .i64 a0_0, .int .i64 a0_1, .int .i64 a0_2, .int .u64 a0_3, .slice A0_4 l0_4.length c0_4, .int .i64 a0_5, .int .u64 a0_6, .int .i64 a0_7, .int .i64 a0_8] 54 (0, 0)) (by (with_reducible repeat (first | refine blk_drewN ?_ _ | refine blk_drew ?_ | refine blk_alloc ?_ _)); exact BK582.out)) : gb582 ≠ gb609)); have n13_ := Aside0.mk ((by rw [hg]; exact Nat.ne_of_gt (blk_lt (g := gb582) (o := .cells #[.int .i64 a0_0, .int .i64 a0_1, .int .i64 a0_2, .int .u64 a0_3, .slice A0_4 l0_4.length c0_4, .int .i64 a0_5, .int .u64 a0_6, .int .i64 a0_7, .int .i64 a0_8] 54 (0, 0)) (by (with_reducible repeat (first | refine blk_drewN ?_ _ | refine blk_drew ?_ | refine blk_alloc ?_ _)); exact BK582.out)) : gb609 ≠ gb582)); have n14_ := Aside0.mk ((by rw [hg]; exact Nat.ne_of_lt (blk_lt (g := gb587) (o := .cells #[.int .u64 t583, .slice Ao11 t584.length co11] 52 (0, 0)) (by (with_reducible repeat (first | refine blk_drewN ?_ _ | refine blk_drew ?_ | refine blk_alloc ?_ _)); exact BK587.out)) : gb587 ≠ gb609)); have n15_ := Aside0.mk ((by rw [hg]; exact Nat.ne_of_gt (blk_lt (g := gb587) (o := .cells #[.int .u64 t583, .slice Ao11 t584.length co11] 52 (0, 0)) (by (with_reducible repeat (first | refine blk_drewN ?_ _ | refine blk_drew ?_ | refine blk_alloc ?_ _)); exact BK587.out)) : gb609 ≠ gb587)); have n16_ := Aside0.mk ((by rw [hg]; exact Nat.ne_of_lt (blk_lt (g := gb595) (o := .cells #[.int .u64 x596000_4, .slice Ao102 x596001_4.length co102] 52 (0, 0)) (by (with_reducible repeat (first | refine blk_drewN ?_ _ | refine blk_drew ?_ | refine blk_alloc ?_ _)); exact BK595.out)) : gb595 ≠ gb609)); have n17_ := Aside0.mk ((by rw [hg]; exact Nat.ne_of_gt (blk_lt (g := gb595) (o := .cells #[.int .u64 x596000_4, .slice Ao102 x596001_4.length co102] 52 (0, 0)) (by (with_reducible repeat (first | refine blk_drewN ?_ _ | refine blk_drew ?_ | refine blk_alloc ?_ _)); exact BK595.out)) : gb609 ≠ gb595)); have n18_ := Aside0.mk ((by rw [hg]; exact Nat.ne_of_lt (blk_lt (g := gb602) (o := .cells #[.int .u64 t597, .slice Ao83 t598.length co83] 52 (0, 0)) (by (with_reducible repeat (first | refine blk_drewN ?_ _ | refine blk_drew ?_ | refine blk_alloc ?_ _)); exact BK602.out)) : gb602 ≠ gb609)); have n19_ := Aside0.mk ((by rw [hg]; exact Nat.ne_of_gt (blk_lt (g := gb602) (o := .cells #[.int .u64 t597, .slice Ao83 t598.length co83] 52 (0, 0)) (by (with_reducible repeat (first | refine blk_drewN ?_ _ | refine blk_drew ?_ | refine blk_alloc ?_ _)); exact BK602.out)) : gb609 ≠ gb602)); clear HO_588001; clear HO_596001; clear HO_603001; clear HO607; clear BK582; clear BK587; clear BK595; clear BK602; clear HB; have HO_588001 := n0_; have HO_596001 := n1_; have HO_603001 := n2_; have HO607 := n3_; have BK582 := n4_; have BK587 := n5_; have BK595 := n6_; have BK602 := n7_; have HB := n8_; have BK609 := n9_; have GW609 := n10_; have GE609 := n11_; have NB582_609 := n12_; have NB609_582 := n13_; have NB587_609 := n14_; have NB609_587 := n15_; have NB595_609 := n16_; have NB609_595 := n17_; have NB602_609 := n18_; have NB609_602 := n19_; clear n0_ n1_ n2_ n3_ n4_ n5_ n6_ n7_ n8_ n9_ n10_ n11_ n12_ n13_ n14_ n15_ n16_ n17_ n18_ n19_; clear hb hbox hg; have hnb108 := NB609_582.out; have hnc108 := NB582_609.out; have hnb109 := NB609_587.out; have hnc109 := NB587_609.out; have hnb110 := NB609_595.out; have hnc110 := NB595_609.out; have hnb111 := NB609_602.out; have hnc111 := NB602_609.out; have hcz112_0 : w107.cell? ⟨gb609, 0, none⟩ = some (.int .u64 0) := (blk_cell BK609.out 0).trans rfl; have hcz112_1 : w107.cell? ⟨gb609, 1, none⟩ = some (.slice none 0 0) := (blk_cell BK609.out 1).trans rfl; have hfz112_0 := blk_frozen BK609.out 0; have hfz112_1 := blk_frozen BK609.out 1; obtain ⟨Ao113, co113, eo113⟩ := Kd.V_slice HO607.out; subst eo113; have hcz114_0 : w107.cell? ⟨gb595, 0, none⟩ = some (.int .u64 x596000_4) := (blk_cell BK595.out 0).trans rfl; have hcz114_1 : w107.cell? ⟨gb595, 1, none⟩ = some (.slice Ao102 x596001_4.length co102) := (blk_cell BK595.out 1).trans rfl; have hfz114_0 := blk_frozen BK595.out 0; have hfz114_1 := blk_frozen BK595.out 1))
                            go_roundg k4
                            case measure => have := HJ3.out; have := HJ39.out; have := HJ69.out; have := HK4.out; omega
                            case rel => exact ⟨(wrap64 (x11_4 + 1)), (t604), (t605), (.slice Ao113 t605.length co113), (by first | rfl | (simp; done) | (simp [*]; done)), H', ⟨by have := HJ3.out; have := HJ39.out; have := HJ69.out; have := HK4.out; omega⟩, ⟨by (with_reducible repeat (first | apply Kd.V_alloc | apply Kd.V_drewN | apply Kd.V_drew)); exact Kd.V_mono (Kd.V_far (p := ⟨gb595, 1, none⟩) (Kd.V_far (p := ⟨gb595, 0, none⟩) (Kd.V_far (p := ⟨gb609, 1, none⟩) (Kd.V_far (p := ⟨gb609, 0, none⟩) (Kd.V_mono (Kd.V_mono HO_588001.out (fun k_ hk => (⟨hk, hk.2⟩ : _ ∧ k_ ≠ gb609))) (fun k_ hk => (⟨hk, hk.1.1.2.2.1⟩ : _ ∧ k_ ≠ gb595))) (fun _ hk => hk.1.2) (.int .u64 t604)) (fun _ hk => hk.1.2) (.slice Ao113 t605.length co113)) (fun _ hk => hk.2) (.int .u64 t604)) (fun _ hk => hk.2) (.slice Ao113 t605.length co113)) (fun _ hk => ⟨hk.1.1.1.1, ⟨hk.1.1.1.2.1, ⟨hk.1.1.1.2.2.1, hk.1.1.1.2.2.2⟩⟩⟩)⟩, ⟨by (with_reducible repeat (first | apply Kd.V_alloc | apply Kd.V_drewN | apply Kd.V_drew)); exact Kd.V_mono (Kd.V_far (p := ⟨gb595, 1, none⟩) (Kd.V_far (p := ⟨gb595, 0, none⟩) (Kd.V_far (p := ⟨gb609, 1, none⟩) (Kd.V_far (p := ⟨gb609, 0, none⟩) (Kd.V_mono (Kd.V_mono HO607.out (fun k_ hk => (⟨hk, hk.2⟩ : _ ∧ k_ ≠ gb609))) (fun k_ hk => (⟨hk, hk.1.1.2.2.1⟩ : _ ∧ k_ ≠ gb595))) (fun _ hk => hk.1.2) (.int .u64 t604)) (fun _ hk => hk.1.2) (.slice Ao113 t605.length co113)) (fun _ hk => hk.2) (.int .u64 t604)) (fun _ hk => hk.2) (.slice Ao113 t605.length co113)) (fun _ hk => ⟨hk.1.1.1.1, ⟨hk.1.1.1.2.1, ⟨hk.1.1.1.2.2.1, hk.1.1.1.2.2.2⟩⟩⟩)⟩, ⟨by (with_reducible repeat (first | apply Kd.V_alloc | apply Kd.V_drewN | apply Kd.V_drew)); exact Kd.V_mono (Kd.V_far (p := ⟨gb595, 1, none⟩) (Kd.V_far (p := ⟨gb595, 0, none⟩) (Kd.V_far (p := ⟨gb609, 1, none⟩) (Kd.V_far (p := ⟨gb609, 0, none⟩) (Kd.V_mono (Kd.V_mono HO_603001.out (fun k_ hk => (⟨hk, hk.2⟩ : _ ∧ k_ ≠ gb609))) (fun k_ hk => (⟨hk, hk.1.1.2.2.1⟩ : _ ∧ k_ ≠ gb595))) (fun _ hk => hk.1.2) (.int .u64 t604)) (fun _ hk => hk.1.2) (.slice Ao113 t605.length co113)) (fun _ hk => hk.2) (.int .u64 t604)) (fun _ hk => hk.2) (.slice Ao113 t605.length co113)) (fun _ hk => ⟨hk.1.1.1.1, ⟨hk.1.1.1.2.1, ⟨hk.1.1.1.2.2.1, hk.1.1.1.2.2.2⟩⟩⟩)⟩, ⟨by (with_reducible repeat (first | refine blk_drewN ?_ _ | refine blk_drew ?_ | refine blk_alloc ?_ _)); refine blk_far ?_ NB582_595.out _; (with_reducible repeat (first | refine blk_drewN ?_ _ | refine blk_drew ?_ | refine blk_alloc ?_ _)); refine blk_far ?_ NB582_595.out _; (with_reducible repeat (first | refine blk_drewN ?_ _ | refine blk_drew ?_ | refine blk_alloc ?_ _)); refine blk_far ?_ NB582_609.out _; (with_reducible repeat (first | refine blk_drewN ?_ _ | refine blk_drew ?_ | refine blk_alloc ?_ _)); refine blk_far ?_ NB582_609.out _; (with_reducible repeat (first | refine blk_drewN ?_ _ | refine blk_drew ?_ | refine blk_alloc ?_ _)); exact BK582.out⟩, ⟨by (with_reducible repeat (first | refine blk_drewN ?_ _ | refine blk_drew ?_ | refine blk_alloc ?_ _)); refine blk_far ?_ NB587_595.out _; (with_reducible repeat (first | refine blk_drewN ?_ _ | refine blk_drew ?_ | refine blk_alloc ?_ _)); refine blk_far ?_ NB587_595.out _; (with_reducible repeat (first | refine blk_drewN ?_ _ | refine blk_drew ?_ | refine blk_alloc ?_ _)); refine blk_far ?_ NB587_609.out _; (with_reducible repeat (first | refine blk_drewN ?_ _ | refine blk_drew ?_ | refine blk_alloc ?_ _)); refine blk_far ?_ NB587_609.out _; (with_reducible repeat (first | refine blk_drewN ?_ _ | refine blk_drew ?_ | refine blk_alloc ?_ _)); exact BK587.out⟩, ⟨by (with_reducible repeat (first | refine blk_drewN ?_ _ | refine blk_drew ?_ | refine blk_alloc ?_ _)); refine blk_put (cs := #[.int .u64 t604, .slice Ao102 x596001_4.length co102]) ?_ 1 _ rfl; (with_reducible repeat (first | refine blk_drewN ?_ _ | refine blk_drew ?_ | refine blk_alloc ?_ _)); refine blk_put (cs := #[.int .u64 x596000_4, .slice Ao102 x596001_4.length co102]) ?_ 0 _ rfl; (with_reducible repeat (first | refine blk_drewN ?_ _ | refine blk_drew ?_ | refine blk_alloc ?_ _)); refine blk_far ?_ NB595_609.out _; (with_reducible repeat (first | refine blk_drewN ?_ _ | refine blk_drew ?_ | refine blk_alloc ?_ _)); refine blk_far ?_ NB595_609.out _; (with_reducible repeat (first | refine blk_drewN ?_ _ | refine blk_drew ?_ | refine blk_alloc ?_ _)); exact BK595.out⟩, ⟨by (with_reducible repeat (first | refine blk_drewN ?_ _ | refine blk_drew ?_ | refine blk_alloc ?_ _)); refine blk_far ?_ NB602_595.out _; (with_reducible repeat (first | refine blk_drewN ?_ _ | refine blk_drew ?_ | refine blk_alloc ?_ _)); refine blk_far ?_ NB602_595.out _; (with_reducible repeat (first | refine blk_drewN ?_ _ | refine blk_drew ?_ | refine blk_alloc ?_ _)); refine blk_far ?_ NB602_609.out _; (with_reducible repeat (first | refine blk_drewN ?_ _ | refine blk_drew ?_ | refine blk_alloc ?_ _)); refine blk_far ?_ NB602_609.out _; (with_reducible repeat (first | refine blk_drewN ?_ _ | refine blk_drew ?_ | refine blk_alloc ?_ _)); exact BK602.out⟩, ⟨by repeat (first | (with_reducible first | exact HB.out | apply below_alloc | apply pw_below_drewN | apply below_drew1 | refine below_set ?_ GE582.out | refine below_set ?_ GE587.out | refine below_set ?_ GE595.out | refine below_set ?_ GE602.out | refine below_set ?_ GE609.out) | exact HB.out)⟩⟩
                          · rw [if_neg c97] at H
                            have c97b0 : (t608 == 0) = false := beq_eq_false_iff_ne.mpr c97
                            have c97b1 : (t608 != 0) = true := bne_iff_ne.mpr c97
                            exact absurd ((Option.some.inj H).trans hrt.out) (by decide)
                        · rw [if_neg c95] at H
                          have c95b0 : decide (x11_4 < (x596001_4.length : Int)) = false := decide_eq_false c95
                          clear c95
                          replace H := Option.bind_eq_some_iff.mp H
                          obtain ⟨⟨t610, t611, t612⟩, A1150, H⟩ := H
                          replace H : ((tattleref17_Hold.f k4 a0_0 a0_1 a0_2).bind fun t613 => (if t613 = 0 then (if t612 = 1 then (if t611 = true then (some false) else ((tattlelaw18_awakeT.f).bind fun t614 => (some t614))) else (some false)) else (if t612 = 0 then (if t611 = true then ((tattleref17_Hold.f k4 a0_0 a0_1 a0_2).bind fun t615 => (if t610 = (wrap64 (a0_7 + t615)) then ((lead_Valid.f a0_0 a0_1 a0_2 x596000_4 x596001_4 a0_7).bind fun t616 => (if t616 = true then ((lead_Valid.f a0_0 a0_1 a0_2 x596000_4 x596001_4 t610).bind fun t617 => (if t617 = true then (some false) else ((tattlelaw18_awakeT.f).bind fun t618 => (some t618)))) else (some false))) else (some false))) else (some false)) else (some false)))) = some r := H
                          have A115 := Aside0.mk A1150
                          clear A1150
                          replace H := Option.bind_eq_some_iff.mp H
                          obtain ⟨t613, A1160, H⟩ := H
                          replace H : (if t613 = 0 then (if t612 = 1 then (if t611 = true then (some false) else ((tattlelaw18_awakeT.f).bind fun t614 => (some t614))) else (some false)) else (if t612 = 0 then (if t611 = true then ((tattleref17_Hold.f k4 a0_0 a0_1 a0_2).bind fun t615 => (if t610 = (wrap64 (a0_7 + t615)) then ((lead_Valid.f a0_0 a0_1 a0_2 x596000_4 x596001_4 a0_7).bind fun t616 => (if t616 = true then ((lead_Valid.f a0_0 a0_1 a0_2 x596000_4 x596001_4 t610).bind fun t617 => (if t617 = true then (some false) else ((tattlelaw18_awakeT.f).bind fun t618 => (some t618)))) else (some false))) else (some false))) else (some false)) else (some false))) = some r := H
                          have A116 := Aside0.mk A1160
                          clear A1160
                          by_cases c117 : t613 = 0
                          · rw [if_pos c117] at H
                            have c117b0 : (t613 == 0) = true := beq_iff_eq.mpr c117
                            have c117b1 : (t613 != 0) = false := bne_eq_false_iff_eq.mpr c117
                            clear c117
                            by_cases c118 : t612 = 1
                            · rw [if_pos c118] at H
                              have c118b0 : (t612 == 1) = true := beq_iff_eq.mpr c118
                              have c118b1 : (t612 != 1) = false := bne_eq_false_iff_eq.mpr c118
                              clear c118
                              by_cases c119 : t611 = true
                              · subst c119
                                have H1 : (some false) = some r := by rw [if_pos rfl] at H; exact H
                                clear H
                                have H := H1
                                clear H1
                                exact absurd ((Option.some.inj H).trans hrt.out) (by decide)
                              · replace c119 := Bool.eq_false_iff.mpr c119
                                subst c119
                                have H1 : ((tattlelaw18_awakeT.f).bind fun t614 => (some t614)) = some r := by rw [if_neg (show ¬ (false = true) by decide)] at H; exact H
                                clear H
                                have H := H1
                                clear H1
                                replace H := Option.bind_eq_some_iff.mp H
                                obtain ⟨t614, A1200, H⟩ := H
                                replace H : (some t614) = some r := H
                                have A120 := Aside0.mk A1200
                                clear A1200
                                obtain rfl := Option.some.inj H
                                have hnb121 := NB595_582.out
                                have hnc121 := NB582_595.out
                                have hnb122 := NB595_587.out
                                have hnc122 := NB587_595.out
                                have hnb123 := NB595_602.out
                                have hnc123 := NB602_595.out
                                have hcz124_0 : wr.cell? ⟨gb595, 0, none⟩ = some (.int .u64 x596000_4) := (blk_cell BK595.out 0).trans rfl
                                have hcz124_1 : wr.cell? ⟨gb595, 1, none⟩ = some (u596001) := (blk_cell BK595.out 1).trans rfl
                                have hfz124_0 := blk_frozen BK595.out 0
                                have hfz124_1 := blk_frozen BK595.out 1
                                obtain ⟨Ao125, co125, eo125⟩ := Kd.V_slice HO_596001.out
                                subst eo125
                                have hnb126 := NB582_587.out
                                have hnc126 := NB587_582.out
                                have hnb127 := NB582_602.out
                                have hnc127 := NB602_582.out
                                have hcz128_0 : wr.cell? ⟨gb582, 0, none⟩ = some (.int .i64 a0_0) := (blk_cell BK582.out 0).trans rfl
                                have hcz128_1 : wr.cell? ⟨gb582, 1, none⟩ = some (.int .i64 a0_1) := (blk_cell BK582.out 1).trans rfl
                                have hcz128_2 : wr.cell? ⟨gb582, 2, none⟩ = some (.int .i64 a0_2) := (blk_cell BK582.out 2).trans rfl
                                have hcz128_3 : wr.cell? ⟨gb582, 3, none⟩ = some (.int .u64 a0_3) := (blk_cell BK582.out 3).trans rfl
                                have hcz128_4 : wr.cell? ⟨gb582, 4, none⟩ = some (.slice A0_4 l0_4.length c0_4) := (blk_cell BK582.out 4).trans rfl
                                have hcz128_5 : wr.cell? ⟨gb582, 5, none⟩ = some (.int .i64 a0_5) := (blk_cell BK582.out 5).trans rfl
                                have hcz128_6 : wr.cell? ⟨gb582, 6, none⟩ = some (.int .u64 a0_6) := (blk_cell BK582.out 6).trans rfl
                                have hcz128_7 : wr.cell? ⟨gb582, 7, none⟩ = some (.int .i64 a0_7) := (blk_cell BK582.out 7).trans rfl
                                have hcz128_8 : wr.cell? ⟨gb582, 8, none⟩ = some (.int .i64 a0_8) := (blk_cell BK582.out 8).trans rfl
                                have hfz128_0 := blk_frozen BK582.out 0
                                have hfz128_1 := blk_frozen BK582.out 1
                                have hfz128_2 := blk_frozen BK582.out 2
                                have hfz128_3 := blk_frozen BK582.out 3
                                have hfz128_4 := blk_frozen BK582.out 4
                                have hfz128_5 := blk_frozen BK582.out 5
                                have hfz128_6 := blk_frozen BK582.out 6
                                have hfz128_7 := blk_frozen BK582.out 7
                                have hfz128_8 := blk_frozen BK582.out 8
                                go_wp2_with (first | ((with_reducible refine gate_callee (f := 23) rfl ?_); refine goesL_ (some 121) rfl rfl Try.func23 (by kernel_rfl) rfl #[.agg #[.int .i64 a0_0, .int .i64 a0_1, .int .i64 a0_2], .agg #[.int .u64 x596000_4, .slice Ao125 x596001_4.length co125]] rfl (by (try simp only [List.map_toArray, List.map_cons, List.map_nil]); first | done | rfl | (simp only [List.length_drop, List.length_take]; rfl)) ?_; (with_reducible refine (lead_Until.calls a0_0 a0_1 a0_2 x596000_4 _ _ x596001_4 t610 false t612 _ ?side1 ?side2 A115.out).mono ?_); (case side1 => repeat (first | exact (Kd.V_reads' HO_596001.out).2.2 | (with_reducible refine Kd.C_alloc ?_ _) | (with_reducible refine Kd.C_drewN ?_ _) | (with_reducible refine Kd.C_drew ?_))); (case side2 => exact (Kd.V_reads' HO_596001.out).2.1); rintro e w129 ⟨rfl, hb⟩; refine ⟨_, rfl, ?_⟩; have n0_ := Aside0.mk (Kd.V_below (by (with_reducible repeat (first | apply Kd.V_alloc | apply Kd.V_drewN | apply Kd.V_drew)); exact HO_588001.out) hb); have n1_ := Aside0.mk (Kd.V_below (by (with_reducible repeat (first | apply Kd.V_alloc | apply Kd.V_drewN | apply Kd.V_drew)); exact HO_596001.out) hb); have n2_ := Aside0.mk (Kd.V_below (by (with_reducible repeat (first | apply Kd.V_alloc | apply Kd.V_drewN | apply Kd.V_drew)); exact HO_603001.out) hb); have n3_ := Aside0.mk (blk_below (g := gb582) (o := .cells #[.int .i64 a0_0, .int .i64 a0_1, .int .i64 a0_2, .int .u64 a0_3, .slice A0_4 l0_4.length c0_4, .int .i64 a0_5, .int .u64 a0_6, .int .i64 a0_7, .int .i64 a0_8] 54 (0, 0)) (by (with_reducible repeat (first | refine blk_drewN ?_ _ | refine blk_drew ?_ | refine blk_alloc ?_ _)); exact BK582.out) hb); have n4_ := Aside0.mk (blk_below (g := gb587) (o := .cells #[.int .u64 t583, .slice Ao11 t584.length co11] 52 (0, 0)) (by (with_reducible repeat (first | refine blk_drewN ?_ _ | refine blk_drew ?_ | refine blk_alloc ?_ _)); exact BK587.out) hb); have n5_ := Aside0.mk (blk_below (g := gb595) (o := .cells #[.int .u64 x596000_4, .slice Ao125 x596001_4.length co125] 52 (0, 0)) (by (with_reducible repeat (first | refine blk_drewN ?_ _ | refine blk_drew ?_ | refine blk_alloc ?_ _)); exact BK595.out) hb); have n6_ := Aside0.mk (blk_below (g := gb602) (o := .cells #[.int .u64 t597, .slice Ao83 t598.length co83] 52 (0, 0)) (by (with_reducible repeat (first | refine blk_drewN ?_ _ | refine blk_drew ?_ | refine blk_alloc ?_ _)); exact BK602.out) hb); have n7_ := Aside0.mk (below_step (by repeat (first | (with_reducible first | exact HB.out | apply below_alloc | apply pw_below_drewN | apply below_drew1 | refine below_set ?_ GE582.out | refine below_set ?_ GE587.out | refine below_set ?_ GE595.out | refine below_set ?_ GE602.out) | exact HB.out)) hb); clear HO_588001; clear HO_596001; clear HO_603001; clear BK582; clear BK587; clear BK595; clear BK602; clear HB; have HO_588001 := n0_; have HO_596001 := n1_; have HO_603001 := n2_; have BK582 := n3_; have BK587 := n4_; have BK595 := n5_; have BK602 := n6_; have HB := n7_; clear n0_ n1_ n2_ n3_ n4_ n5_ n6_ n7_; (try clear hb); (try clear hb2); (try clear hk); (try clear hi); have hcz130_0 : w129.cell? ⟨gb582, 0, none⟩ = some (.int .i64 a0_0) := (blk_cell BK582.out 0).trans rfl; have hcz130_1 : w129.cell? ⟨gb582, 1, none⟩ = some (.int .i64 a0_1) := (blk_cell BK582.out 1).trans rfl; have hcz130_2 : w129.cell? ⟨gb582, 2, none⟩ = some (.int .i64 a0_2) := (blk_cell BK582.out 2).trans rfl; have hcz130_3 : w129.cell? ⟨gb582, 3, none⟩ = some (.int .u64 a0_3) := (blk_cell BK582.out 3).trans rfl; have hcz130_4 : w129.cell? ⟨gb582, 4, none⟩ = some (.slice A0_4 l0_4.length c0_4) := (blk_cell BK582.out 4).trans rfl; have hcz130_5 : w129.cell? ⟨gb582, 5, none⟩ = some (.int .i64 a0_5) := (blk_cell BK582.out 5).trans rfl; have hcz130_6 : w129.cell? ⟨gb582, 6, none⟩ = some (.int .u64 a0_6) := (blk_cell BK582.out 6).trans rfl; have hcz130_7 : w129.cell? ⟨gb582, 7, none⟩ = some (.int .i64 a0_7) := (blk_cell BK582.out 7).trans rfl; have hcz130_8 : w129.cell? ⟨gb582, 8, none⟩ = some (.int .i64 a0_8) := (blk_cell BK582.out 8).trans rfl; have hfz130_0 := blk_frozen BK582.out 0; have hfz130_1 := blk_frozen BK582.out 1; have hfz130_2 := blk_frozen BK582.out 2; have hfz130_3 := blk_frozen BK582.out 3; have hfz130_4 := blk_frozen BK582.out 4; have hfz130_5 := blk_frozen BK582.out 5; have hfz130_6 := blk_frozen BK582.out 6; have hfz130_7 := blk_frozen BK582.out 7; have hfz130_8 := blk_frozen BK582.out 8) | ((with_reducible refine gate_callee (f := 15) rfl ?_); refine goesL_ (some 127) rfl rfl Try.func15 (by kernel_rfl) rfl #[.agg #[.int .i64 a0_0, .int .i64 a0_1, .int .i64 a0_2]] rfl (by (try simp only [List.map_toArray, List.map_cons, List.map_nil]); first | done | rfl | (simp only [List.length_drop, List.length_take]; rfl)) ?_; (with_reducible refine (tattleref17_Hold.calls k4 a0_0 a0_1 a0_2 t613 _ A116.out).mono ?_); rintro e w131 ⟨rfl, hb⟩; refine ⟨_, rfl, ?_⟩; have n0_ := Aside0.mk (Kd.V_below (by (with_reducible repeat (first | apply Kd.V_alloc | apply Kd.V_drewN | apply Kd.V_drew)); exact HO_588001.out) hb); have n1_ := Aside0.mk (Kd.V_below (by (with_reducible repeat (first | apply Kd.V_alloc | apply Kd.V_drewN | apply Kd.V_drew)); exact HO_596001.out) hb); have n2_ := Aside0.mk (Kd.V_below (by (with_reducible repeat (first | apply Kd.V_alloc | apply Kd.V_drewN | apply Kd.V_drew)); exact HO_603001.out) hb); have n3_ := Aside0.mk (blk_below (g := gb582) (o := .cells #[.int .i64 a0_0, .int .i64 a0_1, .int .i64 a0_2, .int .u64 a0_3, .slice A0_4 l0_4.length c0_4, .int .i64 a0_5, .int .u64 a0_6, .int .i64 a0_7, .int .i64 a0_8] 54 (0, 0)) (by (with_reducible repeat (first | refine blk_drewN ?_ _ | refine blk_drew ?_ | refine blk_alloc ?_ _)); exact BK582.out) hb); have n4_ := Aside0.mk (blk_below (g := gb587) (o := .cells #[.int .u64 t583, .slice Ao11 t584.length co11] 52 (0, 0)) (by (with_reducible repeat (first | refine blk_drewN ?_ _ | refine blk_drew ?_ | refine blk_alloc ?_ _)); exact BK587.out) hb); have n5_ := Aside0.mk (blk_below (g := gb595) (o := .cells #[.int .u64 x596000_4, .slice Ao125 x596001_4.length co125] 52 (0, 0)) (by (with_reducible repeat (first | refine blk_drewN ?_ _ | refine blk_drew ?_ | refine blk_alloc ?_ _)); exact BK595.out) hb); have n6_ := Aside0.mk (blk_below (g := gb602) (o := .cells #[.int .u64 t597, .slice Ao83 t598.length co83] 52 (0, 0)) (by (with_reducible repeat (first | refine blk_drewN ?_ _ | refine blk_drew ?_ | refine blk_alloc ?_ _)); exact BK602.out) hb); have n7_ := Aside0.mk (below_step (by repeat (first | (with_reducible first | exact HB.out | apply below_alloc | apply pw_below_drewN | apply below_drew1 | refine below_set ?_ GE582.out | refine below_set ?_ GE587.out | refine below_set ?_ GE595.out | refine below_set ?_ GE602.out) | exact HB.out)) hb); clear HO_588001; clear HO_596001; clear HO_603001; clear BK582; clear BK587; clear BK595; clear BK602; clear HB; have HO_588001 := n0_; have HO_596001 := n1_; have HO_603001 := n2_; have BK582 := n3_; have BK587 := n4_; have BK595 := n5_; have BK602 := n6_; have HB := n7_; clear n0_ n1_ n2_ n3_ n4_ n5_ n6_ n7_; (try clear hb); (try clear hb2); (try clear hk); (try clear hi)) | (go_at_call 24; (with_reducible refine (tattlelaw18_awakeT.calls  t614 _ A120.out).mono ?_); rintro e w132 ⟨rfl, hb⟩; have n0_ := Aside0.mk (Kd.V_below (by (with_reducible repeat (first | apply Kd.V_alloc | apply Kd.V_drewN | apply Kd.V_drew)); exact HO_588001.out) hb); have n1_ := Aside0.mk (Kd.V_below (by (with_reducible repeat (first | apply Kd.V_alloc | apply Kd.V_drewN | apply Kd.V_drew)); exact HO_596001.out) hb); have n2_ := Aside0.mk (Kd.V_below (by (with_reducible repeat (first | apply Kd.V_alloc | apply Kd.V_drewN | apply Kd.V_drew)); exact HO_603001.out) hb); have n3_ := Aside0.mk (blk_below (g := gb582) (o := .cells #[.int .i64 a0_0, .int .i64 a0_1, .int .i64 a0_2, .int .u64 a0_3, .slice A0_4 l0_4.length c0_4, .int .i64 a0_5, .int .u64 a0_6, .int .i64 a0_7, .int .i64 a0_8] 54 (0, 0)) (by (with_reducible repeat (first | refine blk_drewN ?_ _ | refine blk_drew ?_ | refine blk_alloc ?_ _)); exact BK582.out) hb); have n4_ := Aside0.mk (blk_below (g := gb587) (o := .cells #[.int .u64 t583, .slice Ao11 t584.length co11] 52 (0, 0)) (by (with_reducible repeat (first | refine blk_drewN ?_ _ | refine blk_drew ?_ | refine blk_alloc ?_ _)); exact BK587.out) hb); have n5_ := Aside0.mk (blk_below (g := gb595) (o := .cells #[.int .u64 x596000_4, .slice Ao125 x596001_4.length co125] 52 (0, 0)) (by (with_reducible repeat (first | refine blk_drewN ?_ _ | refine blk_drew ?_ | refine blk_alloc ?_ _)); exact BK595.out) hb); have n6_ := Aside0.mk (blk_below (g := gb602) (o := .cells #[.int .u64 t597, .slice Ao83 t598.length co83] 52 (0, 0)) (by (with_reducible repeat (first | refine blk_drewN ?_ _ | refine blk_drew ?_ | refine blk_alloc ?_ _)); exact BK602.out) hb); have n7_ := Aside0.mk (below_step (by repeat (first | (with_reducible first | exact HB.out | apply below_alloc | apply pw_below_drewN | apply below_drew1 | refine below_set ?_ GE582.out | refine below_set ?_ GE587.out | refine below_set ?_ GE595.out | refine below_set ?_ GE602.out) | exact HB.out)) hb); clear HO_588001; clear HO_596001; clear HO_603001; clear BK582; clear BK587; clear BK595; clear BK602; clear HB; have HO_588001 := n0_; have HO_596001 := n1_; have HO_603001 := n2_; have BK582 := n3_; have BK587 := n4_; have BK595 := n5_; have BK602 := n6_; have HB := n7_; clear n0_ n1_ n2_ n3_ n4_ n5_ n6_ n7_; (try clear hb); (try clear hb2); (try clear hk); (try clear hi)))
                                go_ret
                                exact ⟨by first | rfl | (simp [errW_none, errW_some] <;> rfl) | (simp [*, errW_none, errW_some] <;> rfl), by repeat (first | (with_reducible first | exact HB.out | apply below_alloc | apply pw_below_drewN | apply below_drew1 | refine below_set ?_ GE582.out | refine below_set ?_ GE587.out | refine below_set ?_ GE595.out | refine below_set ?_ GE602.out) | exact HB.out)⟩
                            · rw [if_neg c118] at H
                              have c118b0 : (t612 == 1) = false := beq_eq_false_iff_ne.mpr c118
                              have c118b1 : (t612 != 1) = true := bne_iff_ne.mpr c118
                              exact absurd ((Option.some.inj H).trans hrt.out) (by decide)
                          · rw [if_neg c117] at H
                            have c117b0 : (t613 == 0) = false := beq_eq_false_iff_ne.mpr c117
                            have c117b1 : (t613 != 0) = true := bne_iff_ne.mpr c117
                            by_cases c133 : t612 = 0
                            · rw [if_pos c133] at H
                              have c133b0 : (t612 == 0) = true := beq_iff_eq.mpr c133
                              have c133b1 : (t612 != 0) = false := bne_eq_false_iff_eq.mpr c133
                              clear c133
                              by_cases c134 : t611 = true
                              · subst c134
                                have H1 : ((tattleref17_Hold.f k4 a0_0 a0_1 a0_2).bind fun t615 => (if t610 = (wrap64 (a0_7 + t615)) then ((lead_Valid.f a0_0 a0_1 a0_2 x596000_4 x596001_4 a0_7).bind fun t616 => (if t616 = true then ((lead_Valid.f a0_0 a0_1 a0_2 x596000_4 x596001_4 t610).bind fun t617 => (if t617 = true then (some false) else ((tattlelaw18_awakeT.f).bind fun t618 => (some t618)))) else (some false))) else (some false))) = some r := by rw [if_pos rfl] at H; exact H
                                clear H
                                have H := H1
                                clear H1
                                replace H := Option.bind_eq_some_iff.mp H
                                obtain ⟨t615, A1350, H⟩ := H
                                replace H : (if t610 = (wrap64 (a0_7 + t615)) then ((lead_Valid.f a0_0 a0_1 a0_2 x596000_4 x596001_4 a0_7).bind fun t616 => (if t616 = true then ((lead_Valid.f a0_0 a0_1 a0_2 x596000_4 x596001_4 t610).bind fun t617 => (if t617 = true then (some false) else ((tattlelaw18_awakeT.f).bind fun t618 => (some t618)))) else (some false))) else (some false)) = some r := H
                                have A135 := Aside0.mk A1350
                                clear A1350
                                by_cases c136 : t610 = (wrap64 (a0_7 + t615))
                                · rw [if_pos c136] at H
                                  have c136b0 : (t610 == (wrap64 (a0_7 + t615))) = true := beq_iff_eq.mpr c136
                                  have c136b1 : (t610 != (wrap64 (a0_7 + t615))) = false := bne_eq_false_iff_eq.mpr c136
                                  clear c136
                                  replace H := Option.bind_eq_some_iff.mp H
                                  obtain ⟨t616, A1370, H⟩ := H
                                  replace H : (if t616 = true then ((lead_Valid.f a0_0 a0_1 a0_2 x596000_4 x596001_4 t610).bind fun t617 => (if t617 = true then (some false) else ((tattlelaw18_awakeT.f).bind fun t618 => (some t618)))) else (some false)) = some r := H
                                  have A137 := Aside0.mk A1370
                                  clear A1370
                                  by_cases c138 : t616 = true
                                  · subst c138
                                    have H1 : ((lead_Valid.f a0_0 a0_1 a0_2 x596000_4 x596001_4 t610).bind fun t617 => (if t617 = true then (some false) else ((tattlelaw18_awakeT.f).bind fun t618 => (some t618)))) = some r := by rw [if_pos rfl] at H; exact H
                                    clear H
                                    have H := H1
                                    clear H1
                                    replace H := Option.bind_eq_some_iff.mp H
                                    obtain ⟨t617, A1390, H⟩ := H
                                    replace H : (if t617 = true then (some false) else ((tattlelaw18_awakeT.f).bind fun t618 => (some t618))) = some r := H
                                    have A139 := Aside0.mk A1390
                                    clear A1390
                                    by_cases c140 : t617 = true
                                    · subst c140
                                      have H1 : (some false) = some r := by rw [if_pos rfl] at H; exact H
                                      clear H
                                      have H := H1
                                      clear H1
                                      exact absurd ((Option.some.inj H).trans hrt.out) (by decide)
                                    · replace c140 := Bool.eq_false_iff.mpr c140
                                      subst c140
                                      have H1 : ((tattlelaw18_awakeT.f).bind fun t618 => (some t618)) = some r := by rw [if_neg (show ¬ (false = true) by decide)] at H; exact H
                                      clear H
                                      have H := H1
                                      clear H1
                                      replace H := Option.bind_eq_some_iff.mp H
                                      obtain ⟨t618, A1410, H⟩ := H
                                      replace H : (some t618) = some r := H
                                      have A141 := Aside0.mk A1410
                                      clear A1410
                                      obtain rfl := Option.some.inj H
                                      have hnb142 := NB595_582.out
                                      have hnc142 := NB582_595.out
                                      have hnb143 := NB595_587.out
                                      have hnc143 := NB587_595.out
                                      have hnb144 := NB595_602.out
                                      have hnc144 := NB602_595.out
                                      have hcz145_0 : wr.cell? ⟨gb595, 0, none⟩ = some (.int .u64 x596000_4) := (blk_cell BK595.out 0).trans rfl
                                      have hcz145_1 : wr.cell? ⟨gb595, 1, none⟩ = some (u596001) := (blk_cell BK595.out 1).trans rfl
                                      have hfz145_0 := blk_frozen BK595.out 0
                                      have hfz145_1 := blk_frozen BK595.out 1
                                      obtain ⟨Ao146, co146, eo146⟩ := Kd.V_slice HO_596001.out
                                      subst eo146
                                      have hnb147 := NB582_587.out
                                      have hnc147 := NB587_582.out
                                      have hnb148 := NB582_602.out
                                      have hnc148 := NB602_582.out
                                      have hcz149_0 : wr.cell? ⟨gb582, 0, none⟩ = some (.int .i64 a0_0) := (blk_cell BK582.out 0).trans rfl
                                      have hcz149_1 : wr.cell? ⟨gb582, 1, none⟩ = some (.int .i64 a0_1) := (blk_cell BK582.out 1).trans rfl
                                      have hcz149_2 : wr.cell? ⟨gb582, 2, none⟩ = some (.int .i64 a0_2) := (blk_cell BK582.out 2).trans rfl
                                      have hcz149_3 : wr.cell? ⟨gb582, 3, none⟩ = some (.int .u64 a0_3) := (blk_cell BK582.out 3).trans rfl
                                      have hcz149_4 : wr.cell? ⟨gb582, 4, none⟩ = some (.slice A0_4 l0_4.length c0_4) := (blk_cell BK582.out 4).trans rfl
                                      have hcz149_5 : wr.cell? ⟨gb582, 5, none⟩ = some (.int .i64 a0_5) := (blk_cell BK582.out 5).trans rfl
                                      have hcz149_6 : wr.cell? ⟨gb582, 6, none⟩ = some (.int .u64 a0_6) := (blk_cell BK582.out 6).trans rfl
                                      have hcz149_7 : wr.cell? ⟨gb582, 7, none⟩ = some (.int .i64 a0_7) := (blk_cell BK582.out 7).trans rfl
                                      have hcz149_8 : wr.cell? ⟨gb582, 8, none⟩ = some (.int .i64 a0_8) := (blk_cell BK582.out 8).trans rfl
                                      have hfz149_0 := blk_frozen BK582.out 0
                                      have hfz149_1 := blk_frozen BK582.out 1
                                      have hfz149_2 := blk_frozen BK582.out 2
                                      have hfz149_3 := blk_frozen BK582.out 3
                                      have hfz149_4 := blk_frozen BK582.out 4
                                      have hfz149_5 := blk_frozen BK582.out 5
                                      have hfz149_6 := blk_frozen BK582.out 6
                                      have hfz149_7 := blk_frozen BK582.out 7
                                      have hfz149_8 := blk_frozen BK582.out 8
                                      try go_wp2_with (first | ((with_reducible refine gate_callee (f := 23) rfl ?_); refine goesL_ (some 121) rfl rfl Try.func23 (by kernel_rfl) rfl #[.agg #[.int .i64 a0_0, .int .i64 a0_1, .int .i64 a0_2], .agg #[.int .u64 x596000_4, .slice Ao146 x596001_4.length co146]] rfl (by (try simp only [List.map_toArray, List.map_cons, List.map_nil]); first | done | rfl | (simp only [List.length_drop, List.length_take]; rfl)) ?_; (with_reducible refine (lead_Until.calls a0_0 a0_1 a0_2 x596000_4 _ _ x596001_4 t610 true t612 _ ?side1 ?side2 A115.out).mono ?_); (case side1 => repeat (first | exact (Kd.V_reads' HO_596001.out).2.2 | (with_reducible refine Kd.C_alloc ?_ _) | (with_reducible refine Kd.C_drewN ?_ _) | (with_reducible refine Kd.C_drew ?_))); (case side2 => exact (Kd.V_reads' HO_596001.out).2.1); rintro e w150 ⟨rfl, hb⟩; refine ⟨_, rfl, ?_⟩; have n0_ := Aside0.mk (Kd.V_below (by (with_reducible repeat (first | apply Kd.V_alloc | apply Kd.V_drewN | apply Kd.V_drew)); exact HO_588001.out) hb); have n1_ := Aside0.mk (Kd.V_below (by (with_reducible repeat (first | apply Kd.V_alloc | apply Kd.V_drewN | apply Kd.V_drew)); exact HO_596001.out) hb); have n2_ := Aside0.mk (Kd.V_below (by (with_reducible repeat (first | apply Kd.V_alloc | apply Kd.V_drewN | apply Kd.V_drew)); exact HO_603001.out) hb); have n3_ := Aside0.mk (blk_below (g := gb582) (o := .cells #[.int .i64 a0_0, .int .i64 a0_1, .int .i64 a0_2, .int .u64 a0_3, .slice A0_4 l0_4.length c0_4, .int .i64 a0_5, .int .u64 a0_6, .int .i64 a0_7, .int .i64 a0_8] 54 (0, 0)) (by (with_reducible repeat (first | refine blk_drewN ?_ _ | refine blk_drew ?_ | refine blk_alloc ?_ _)); exact BK582.out) hb); have n4_ := Aside0.mk (blk_below (g := gb587) (o := .cells #[.int .u64 t583, .slice Ao11 t584.length co11] 52 (0, 0)) (by (with_reducible repeat (first | refine blk_drewN ?_ _ | refine blk_drew ?_ | refine blk_alloc ?_ _)); exact BK587.out) hb); have n5_ := Aside0.mk (blk_below (g := gb595) (o := .cells #[.int .u64 x596000_4, .slice Ao146 x596001_4.length co146] 52 (0, 0)) (by (with_reducible repeat (first | refine blk_drewN ?_ _ | refine blk_drew ?_ | refine blk_alloc ?_ _)); exact BK595.out) hb); have n6_ := Aside0.mk (blk_below (g := gb602) (o := .cells #[.int .u64 t597, .slice Ao83 t598.length co83] 52 (0, 0)) (by (with_reducible repeat (first | refine blk_drewN ?_ _ | refine blk_drew ?_ | refine blk_alloc ?_ _)); exact BK602.out) hb); have n7_ := Aside0.mk (below_step (by repeat (first | (with_reducible first | exact HB.out | apply below_alloc | apply pw_below_drewN | apply below_drew1 | refine below_set ?_ GE582.out | refine below_set ?_ GE587.out | refine below_set ?_ GE595.out | refine below_set ?_ GE602.out) | exact HB.out)) hb); clear HO_588001; clear HO_596001; clear HO_603001; clear BK582; clear BK587; clear BK595; clear BK602; clear HB; have HO_588001 := n0_; have HO_596001 := n1_; have HO_603001 := n2_; have BK582 := n3_; have BK587 := n4_; have BK595 := n5_; have BK602 := n6_; have HB := n7_; clear n0_ n1_ n2_ n3_ n4_ n5_ n6_ n7_; (try clear hb); (try clear hb2); (try clear hk); (try clear hi); have hcz151_0 : w150.cell? ⟨gb582, 0, none⟩ = some (.int .i64 a0_0) := (blk_cell BK582.out 0).trans rfl; have hcz151_1 : w150.cell? ⟨gb582, 1, none⟩ = some (.int .i64 a0_1) := (blk_cell BK582.out 1).trans rfl; have hcz151_2 : w150.cell? ⟨gb582, 2, none⟩ = some (.int .i64 a0_2) := (blk_cell BK582.out 2).trans rfl; have hcz151_3 : w150.cell? ⟨gb582, 3, none⟩ = some (.int .u64 a0_3) := (blk_cell BK582.out 3).trans rfl; have hcz151_4 : w150.cell? ⟨gb582, 4, none⟩ = some (.slice A0_4 l0_4.length c0_4) := (blk_cell BK582.out 4).trans rfl; have hcz151_5 : w150.cell? ⟨gb582, 5, none⟩ = some (.int .i64 a0_5) := (blk_cell BK582.out 5).trans rfl; have hcz151_6 : w150.cell? ⟨gb582, 6, none⟩ = some (.int .u64 a0_6) := (blk_cell BK582.out 6).trans rfl; have hcz151_7 : w150.cell? ⟨gb582, 7, none⟩ = some (.int .i64 a0_7) := (blk_cell BK582.out 7).trans rfl; have hcz151_8 : w150.cell? ⟨gb582, 8, none⟩ = some (.int .i64 a0_8) := (blk_cell BK582.out 8).trans rfl; have hfz151_0 := blk_frozen BK582.out 0; have hfz151_1 := blk_frozen BK582.out 1; have hfz151_2 := blk_frozen BK582.out 2; have hfz151_3 := blk_frozen BK582.out 3; have hfz151_4 := blk_frozen BK582.out 4; have hfz151_5 := blk_frozen BK582.out 5; have hfz151_6 := blk_frozen BK582.out 6; have hfz151_7 := blk_frozen BK582.out 7; have hfz151_8 := blk_frozen BK582.out 8) | ((with_reducible refine gate_callee (f := 15) rfl ?_); refine goesL_ (some 127) rfl rfl Try.func15 (by kernel_rfl) rfl #[.agg #[.int .i64 a0_0, .int .i64 a0_1, .int .i64 a0_2]] rfl (by (try simp only [List.map_toArray, List.map_cons, List.map_nil]); first | done | rfl | (simp only [List.length_drop, List.length_take]; rfl)) ?_; (with_reducible refine (tattleref17_Hold.calls k4 a0_0 a0_1 a0_2 t613 _ A116.out).mono ?_); rintro e w152 ⟨rfl, hb⟩; refine ⟨_, rfl, ?_⟩; have n0_ := Aside0.mk (Kd.V_below (by (with_reducible repeat (first | apply Kd.V_alloc | apply Kd.V_drewN | apply Kd.V_drew)); exact HO_588001.out) hb); have n1_ := Aside0.mk (Kd.V_below (by (with_reducible repeat (first | apply Kd.V_alloc | apply Kd.V_drewN | apply Kd.V_drew)); exact HO_596001.out) hb); have n2_ := Aside0.mk (Kd.V_below (by (with_reducible repeat (first | apply Kd.V_alloc | apply Kd.V_drewN | apply Kd.V_drew)); exact HO_603001.out) hb); have n3_ := Aside0.mk (blk_below (g := gb582) (o := .cells #[.int .i64 a0_0, .int .i64 a0_1, .int .i64 a0_2, .int .u64 a0_3, .slice A0_4 l0_4.length c0_4, .int .i64 a0_5, .int .u64 a0_6, .int .i64 a0_7, .int .i64 a0_8] 54 (0, 0)) (by (with_reducible repeat (first | refine blk_drewN ?_ _ | refine blk_drew ?_ | refine blk_alloc ?_ _)); exact BK582.out) hb); have n4_ := Aside0.mk (blk_below (g := gb587) (o := .cells #[.int .u64 t583, .slice Ao11 t584.length co11] 52 (0, 0)) (by (with_reducible repeat (first | refine blk_drewN ?_ _ | refine blk_drew ?_ | refine blk_alloc ?_ _)); exact BK587.out) hb); have n5_ := Aside0.mk (blk_below (g := gb595) (o := .cells #[.int .u64 x596000_4, .slice Ao146 x596001_4.length co146] 52 (0, 0)) (by (with_reducible repeat (first | refine blk_drewN ?_ _ | refine blk_drew ?_ | refine blk_alloc ?_ _)); exact BK595.out) hb); have n6_ := Aside0.mk (blk_below (g := gb602) (o := .cells #[.int .u64 t597, .slice Ao83 t598.length co83] 52 (0, 0)) (by (with_reducible repeat (first | refine blk_drewN ?_ _ | refine blk_drew ?_ | refine blk_alloc ?_ _)); exact BK602.out) hb); have n7_ := Aside0.mk (below_step (by repeat (first | (with_reducible first | exact HB.out | apply below_alloc | apply pw_below_drewN | apply below_drew1 | refine below_set ?_ GE582.out | refine below_set ?_ GE587.out | refine below_set ?_ GE595.out | refine below_set ?_ GE602.out) | exact HB.out)) hb); clear HO_588001; clear HO_596001; clear HO_603001; clear BK582; clear BK587; clear BK595; clear BK602; clear HB; have HO_588001 := n0_; have HO_596001 := n1_; have HO_603001 := n2_; have BK582 := n3_; have BK587 := n4_; have BK595 := n5_; have BK602 := n6_; have HB := n7_; clear n0_ n1_ n2_ n3_ n4_ n5_ n6_ n7_; (try clear hb); (try clear hb2); (try clear hk); (try clear hi)))
                                      have n0_ := Aside0.mk (Kd.V_drew HO_588001.out)
                                      have n1_ := Aside0.mk (Kd.V_drew HO_596001.out)
                                      have n2_ := Aside0.mk (Kd.V_drew HO_603001.out)
                                      have n3_ := Aside0.mk (blk_drew BK582.out)
                                      have n4_ := Aside0.mk (blk_drew BK587.out)
                                      have n5_ := Aside0.mk (blk_drew BK595.out)
                                      have n6_ := Aside0.mk (blk_drew BK602.out)
                                      have n7_ := Aside0.mk (below_drew1 HB.out)
                                      clear HO_588001
                                      clear HO_596001
                                      clear HO_603001
                                      clear BK582
                                      clear BK587
                                      clear BK595
                                      clear BK602
                                      clear HB
                                      have HO_588001 := n0_
                                      have HO_596001 := n1_
                                      have HO_603001 := n2_
                                      have BK582 := n3_
                                      have BK587 := n4_
                                      have BK595 := n5_
                                      have BK602 := n6_
                                      have HB := n7_
                                      clear n0_ n1_ n2_ n3_ n4_ n5_ n6_ n7_
                                      refine start_ (n := 35) (S := fun w' => w'.cell? ⟨gb582, 0, none⟩ = some (.int .i64 a0_0) ∧ w'.cell? ⟨gb582, 1, none⟩ = some (.int .i64 a0_1) ∧ w'.cell? ⟨gb582, 2, none⟩ = some (.int .i64 a0_2) ∧ w'.cell? ⟨gb582, 3, none⟩ = some (.int .u64 a0_3) ∧ w'.cell? ⟨gb582, 4, none⟩ = some (.slice A0_4 l0_4.length c0_4) ∧ w'.cell? ⟨gb582, 5, none⟩ = some (.int .i64 a0_5) ∧ w'.cell? ⟨gb582, 6, none⟩ = some (.int .u64 a0_6) ∧ w'.cell? ⟨gb582, 7, none⟩ = some (.int .i64 a0_7) ∧ w'.cell? ⟨gb582, 8, none⟩ = some (.int .i64 a0_8) ∧ w'.cell? ⟨gb595, 0, none⟩ = some (.int .u64 x596000_4) ∧ w'.cell? ⟨gb595, 1, none⟩ = some (.slice Ao146 x596001_4.length co146)) (ds := []) #[false, false, false, false, false, false, false, false, false, false, false, false, false, false, false, false, false, false, false, false, false, false, false, false, false, false, false, false, false, false, false, false, false, false, false] (by kernel_rfl) rfl rfl ⟨(blk_cell BK582.out 0).trans rfl, (blk_cell BK582.out 1).trans rfl, (blk_cell BK582.out 2).trans rfl, (blk_cell BK582.out 3).trans rfl, (blk_cell BK582.out 4).trans rfl, (blk_cell BK582.out 5).trans rfl, (blk_cell BK582.out 6).trans rfl, (blk_cell BK582.out 7).trans rfl, (blk_cell BK582.out 8).trans rfl, (blk_cell BK595.out 0).trans rfl, (blk_cell BK595.out 1).trans rfl⟩ (fun hHeld => ?_); refine with_tabW tattlelaw18_LeadStarts.tab21 tattlelaw18_LeadStarts.bits21 (fun HT_ HW_ => ?_)
                                      generalize w152.drew = w153 at HO_588001 HO_596001 HO_603001 BK582 BK587 BK595 BK602 HB hHeld ⊢
                                      refine pure_ (i := 0) (N := some 138) (v := ?_) (a' := ?_) #[true, false, false, false, false, false, false, false, false, false, false, false, false, false, false, false, false, false, false, false, false, false, false, false, false, false, false, false, false, false, false, false, false, false, false] rfl rfl (any_of HT_.out (by kernel_rfl)) (fun _ _ _ h => h) (Or.inl ⟨by rfl, ?_⟩) ?_ ?_
                                      rotate_left
                                      · intro w'
                                        go_simp
                                        with_reducible rfl
                                      rotate_left
                                      · simp only [Act.put, List.setIfInBounds_toArray, List.set_cons_zero, List.set_cons_succ, i64_w, i32_w]
                                        rfl
                                      refine pure_ (i := 1) (N := some 139) (v := ?_) (a' := ?_) #[true, true, false, false, false, false, false, false, false, false, false, false, false, false, false, false, false, false, false, false, false, false, false, false, false, false, false, false, false, false, false, false, false, false, false] rfl rfl (any_of HT_.out (by kernel_rfl)) (fun _ _ _ h => h) (Or.inl ⟨by rfl, ?_⟩) ?_ ?_
                                      rotate_left
                                      · intro w'
                                        go_simp
                                        with_reducible rfl
                                      rotate_left
                                      · simp only [Act.put, List.setIfInBounds_toArray, List.set_cons_zero, List.set_cons_succ, i64_w, i32_w]
                                        rfl
                                      refine pure_ (i := 2) (N := some 140) (v := ?_) (a' := ?_) #[true, true, true, false, false, false, false, false, false, false, false, false, false, false, false, false, false, false, false, false, false, false, false, false, false, false, false, false, false, false, false, false, false, false, false] rfl rfl (any_of HT_.out (by kernel_rfl)) (fun _ _ _ h => h) (Or.inl ⟨by rfl, ?_⟩) ?_ ?_
                                      rotate_left
                                      · intro w'
                                        go_simp
                                        with_reducible rfl
                                      rotate_left
                                      · simp only [Act.put, List.setIfInBounds_toArray, List.set_cons_zero, List.set_cons_succ, i64_w, i32_w]
                                        rfl
                                      refine pure_ (i := 3) (N := some 141) (v := ?_) (a' := ?_) #[true, true, true, true, false, false, false, false, false, false, false, false, false, false, false, false, false, false, false, false, false, false, false, false, false, false, false, false, false, false, false, false, false, false, false] rfl rfl (any_of HT_.out (by kernel_rfl)) (fun _ _ _ h => h) (Or.inl ⟨by rfl, ?_⟩) ?_ ?_
                                      rotate_left
                                      · intro w'
                                        go_simp
                                        with_reducible rfl
                                      rotate_left
                                      · simp only [Act.put, List.setIfInBounds_toArray, List.set_cons_zero, List.set_cons_succ, i64_w, i32_w]
                                        rfl
                                      refine pure_ (i := 4) (N := some 142) (v := ?_) (a' := ?_) #[true, true, true, true, true, false, false, false, false, false, false, false, false, false, false, false, false, false, false, false, false, false, false, false, false, false, false, false, false, false, false, false, false, false, false] rfl rfl (any_of HT_.out (by kernel_rfl)) (fun _ _ _ h => h) (Or.inl ⟨by rfl, ?_⟩) ?_ ?_
                                      rotate_left
                                      · intro w'
                                        go_simp
                                        with_reducible rfl
                                      rotate_left
                                      · simp only [Act.put, List.setIfInBounds_toArray, List.set_cons_zero, List.set_cons_succ, i64_w, i32_w]
                                        rfl
                                      refine pure_ (i := 5) (N := some 143) (v := ?_) (a' := ?_) #[true, true, true, true, true, true, false, false, false, false, false, false, false, false, false, false, false, false, false, false, false, false, false, false, false, false, false, false, false, false, false, false, false, false, false] rfl rfl (any_of HT_.out (by kernel_rfl)) (fun _ _ _ h => h) (Or.inl ⟨by rfl, ?_⟩) ?_ ?_
                                      rotate_left
                                      · intro w'
                                        go_simp
                                        with_reducible rfl
                                      rotate_left
                                      · simp only [Act.put, List.setIfInBounds_toArray, List.set_cons_zero, List.set_cons_succ, i64_w, i32_w]
                                        rfl
                                      refine pure_ (i := 6) (N := some 144) (v := ?_) (a' := ?_) #[true, true, true, true, true, true, true, false, false, false, false, false, false, false, false, false, false, false, false, false, false, false, false, false, false, false, false, false, false, false, false, false, false, false, false] rfl rfl (any_of HT_.out (by kernel_rfl)) (fun _ _ _ h => h) (Or.inl ⟨by rfl, ?_⟩) ?_ ?_
                                      rotate_left
                                      · intro w'
                                        go_simp
                                        with_reducible rfl
                                      rotate_left
                                      · simp only [Act.put, List.setIfInBounds_toArray, List.set_cons_zero, List.set_cons_succ, i64_w, i32_w]
                                        rfl
                                      refine pure_ (i := 7) (N := some 145) (v := ?_) (a' := ?_) #[true, true, true, true, true, true, true, true, false, false, false, false, false, false, false, false, false, false, false, false, false, false, false, false, false, false, false, false, false, false, false, false, false, false, false] rfl rfl (any_of HT_.out (by kernel_rfl)) (fun _ _ _ h => h) (Or.inl ⟨by rfl, ?_⟩) ?_ ?_
                                      rotate_left
                                      · intro w'
                                        go_simp
                                        with_reducible rfl
                                      rotate_left
                                      · simp only [Act.put, List.setIfInBounds_toArray, List.set_cons_zero, List.set_cons_succ, i64_w, i32_w]
                                        rfl
                                      refine pure_ (i := 9) (N := some 147) (v := ?_) (a' := ?_) #[true, true, true, true, true, true, true, true, false, true, false, false, false, false, false, false, false, false, false, false, false, false, false, false, false, false, false, false, false, false, false, false, false, false, false] rfl rfl (any_of HT_.out (by kernel_rfl)) (fun _ _ _ h => h) (Or.inl ⟨by rfl, ?_⟩) ?_ ?_
                                      rotate_left
                                      · intro w'
                                        go_simp
                                        with_reducible rfl
                                      rotate_left
                                      · simp only [Act.put, List.setIfInBounds_toArray, List.set_cons_zero, List.set_cons_succ, i64_w, i32_w]
                                        rfl
                                      refine take_ (i := 8) (N := some 146) (v := ?_) (a' := ?_) #[true, true, true, true, true, true, true, true, true, true, false, false, false, false, false, false, false, false, false, false, false, false, false, false, false, false, false, false, false, false, false, false, false, false, false] rfl rfl (take_ofW HT_.out HW_.out (by kernel_rfl)) (fun _ _ _ h => h) (Or.inl ⟨by rfl, ?_⟩) hHeld ?_ ?_
                                      rotate_left
                                      · rintro w' ⟨s0, s1, s2, s3, s4, s5, s6, s7, s8, s9, s10⟩
                                        go_simp
                                        with_reducible rfl
                                      rotate_left
                                      · simp only [Act.put, List.setIfInBounds_toArray, List.set_cons_zero, List.set_cons_succ, i64_w, i32_w]
                                        rfl
                                      refine take_ (i := 10) (N := some 148) (v := ?_) (a' := ?_) #[true, true, true, true, true, true, true, true, true, true, true, false, false, false, false, false, false, false, false, false, false, false, false, false, false, false, false, false, false, false, false, false, false, false, false] rfl rfl (take_ofW HT_.out HW_.out (by kernel_rfl)) (fun _ _ _ h => h) (Or.inl ⟨by rfl, ?_⟩) hHeld ?_ ?_
                                      rotate_left
                                      · rintro w' ⟨s0, s1, s2, s3, s4, s5, s6, s7, s8, s9, s10⟩
                                        go_simp
                                        with_reducible rfl
                                      rotate_left
                                      · simp only [Act.put, List.setIfInBounds_toArray, List.set_cons_zero, List.set_cons_succ, i64_w, i32_w]
                                        rfl
                                      refine one_ (i := 11) (N := some 149) #[true, true, true, true, true, true, true, true, true, true, true, true, false, false, false, false, false, false, false, false, false, false, false, false, false, false, false, false, false, false, false, false, false, false, false] rfl rfl (one_of HT_.out (by kernel_rfl)) (by decide) (fun K hK => ?_)
                                      refine goes_ Try.func15 (by kernel_rfl) rfl #[.agg #[.int .i64 a0_0, .int .i64 a0_1, .int .i64 a0_2]] (by rfl) rfl rfl (by (try simp only [List.map_toArray, List.map_cons, List.map_nil]); first | done | rfl | (simp only [List.length_drop, List.length_take]; rfl)) ?_
                                      with_reducible refine (tattleref17_Hold.calls k4 a0_0 a0_1 a0_2 t615 _ A135.out).mono ?_
                                      rintro e w154 ⟨rfl, hb⟩
                                      refine ⟨_, rfl, ?_⟩
                                      have n0_ := Aside0.mk (Kd.V_below (by (with_reducible repeat (first | apply Kd.V_alloc | apply Kd.V_drewN | apply Kd.V_drew)); exact HO_588001.out) hb)
                                      have n1_ := Aside0.mk (Kd.V_below (by (with_reducible repeat (first | apply Kd.V_alloc | apply Kd.V_drewN | apply Kd.V_drew)); exact HO_596001.out) hb)
                                      have n2_ := Aside0.mk (Kd.V_below (by (with_reducible repeat (first | apply Kd.V_alloc | apply Kd.V_drewN | apply Kd.V_drew)); exact HO_603001.out) hb)
                                      have n3_ := Aside0.mk (blk_below (g := gb582) (o := .cells #[.int .i64 a0_0, .int .i64 a0_1, .int .i64 a0_2, .int .u64 a0_3, .slice A0_4 l0_4.length c0_4, .int .i64 a0_5, .int .u64 a0_6, .int .i64 a0_7, .int .i64 a0_8] 54 (0, 0)) (by (with_reducible repeat (first | refine blk_drewN ?_ _ | refine blk_drew ?_ | refine blk_alloc ?_ _)); exact BK582.out) hb)
                                      have n4_ := Aside0.mk (blk_below (g := gb587) (o := .cells #[.int .u64 t583, .slice Ao11 t584.length co11] 52 (0, 0)) (by (with_reducible repeat (first | refine blk_drewN ?_ _ | refine blk_drew ?_ | refine blk_alloc ?_ _)); exact BK587.out) hb)
                                      have n5_ := Aside0.mk (blk_below (g := gb595) (o := .cells #[.int .u64 x596000_4, .slice Ao146 x596001_4.length co146] 52 (0, 0)) (by (with_reducible repeat (first | refine blk_drewN ?_ _ | refine blk_drew ?_ | refine blk_alloc ?_ _)); exact BK595.out) hb)
                                      have n6_ := Aside0.mk (blk_below (g := gb602) (o := .cells #[.int .u64 t597, .slice Ao83 t598.length co83] 52 (0, 0)) (by (with_reducible repeat (first | refine blk_drewN ?_ _ | refine blk_drew ?_ | refine blk_alloc ?_ _)); exact BK602.out) hb)
                                      have n7_ := Aside0.mk (below_step (by repeat (first | (with_reducible first | exact HB.out | apply below_alloc | apply pw_below_drewN | apply below_drew1 | refine below_set ?_ GE582.out | refine below_set ?_ GE587.out | refine below_set ?_ GE595.out | refine below_set ?_ GE602.out) | exact HB.out)) hb)
                                      clear HO_588001
                                      clear HO_596001
                                      clear HO_603001
                                      clear BK582
                                      clear BK587
                                      clear BK595
                                      clear BK602
                                      clear HB
                                      have HO_588001 := n0_
                                      have HO_596001 := n1_
                                      have HO_603001 := n2_
                                      have BK582 := n3_
                                      have BK587 := n4_
                                      have BK595 := n5_
                                      have BK602 := n6_
                                      have HB := n7_
                                      clear n0_ n1_ n2_ n3_ n4_ n5_ n6_ n7_
                                      (try clear hb)
                                      (try clear hb2)
                                      (try clear hk)
                                      (try clear hi)
                                      refine hK.out _ _ ⟨(blk_cell BK582.out 0).trans rfl, (blk_cell BK582.out 1).trans rfl, (blk_cell BK582.out 2).trans rfl, (blk_cell BK582.out 3).trans rfl, (blk_cell BK582.out 4).trans rfl, (blk_cell BK582.out 5).trans rfl, (blk_cell BK582.out 6).trans rfl, (blk_cell BK582.out 7).trans rfl, (blk_cell BK582.out 8).trans rfl, (blk_cell BK595.out 0).trans rfl, (blk_cell BK595.out 1).trans rfl⟩ (fun hHeld => ?_)
                                      clear hK K
                                      refine norm_ (a' := ?_) ?_ ?_
                                      rotate_left
                                      · show Act.put _ (some 149) _ = _
                                        simp only [Act.put, List.setIfInBounds_toArray, List.set_cons_zero, List.set_cons_succ, i64_w, i32_w]
                                        rfl
                                      refine pure_ (i := 12) (N := some 150) (v := ?_) (a' := ?_) #[true, true, true, true, true, true, true, true, true, true, true, true, true, false, false, false, false, false, false, false, false, false, false, false, false, false, false, false, false, false, false, false, false, false, false] rfl rfl (any_of HT_.out (by kernel_rfl)) (fun _ _ _ h => h) (Or.inl ⟨by rfl, ?_⟩) ?_ ?_
                                      rotate_left
                                      · intro w'
                                        go_simp
                                        with_reducible rfl
                                      rotate_left
                                      · simp only [Act.put, List.setIfInBounds_toArray, List.set_cons_zero, List.set_cons_succ, i64_w, i32_w]
                                        rfl
                                      refine pure_ (i := 13) (N := some 151) (v := ?_) (a' := ?_) #[true, true, true, true, true, true, true, true, true, true, true, true, true, true, false, false, false, false, false, false, false, false, false, false, false, false, false, false, false, false, false, false, false, false, false] rfl rfl (any_of HT_.out (by kernel_rfl)) (fun _ _ _ h => h) (Or.inl ⟨by rfl, ?_⟩) ?_ ?_
                                      rotate_left
                                      · intro w'
                                        go_simp
                                        with_reducible rfl
                                      rotate_left
                                      · simp only [Act.put, List.setIfInBounds_toArray, List.set_cons_zero, List.set_cons_succ, i64_w, i32_w]
                                        rfl
                                      refine pure_ (i := 14) (N := some 152) (v := ?_) (a' := ?_) #[true, true, true, true, true, true, true, true, true, true, true, true, true, true, true, false, false, false, false, false, false, false, false, false, false, false, false, false, false, false, false, false, false, false, false] rfl rfl (any_of HT_.out (by kernel_rfl)) (fun _ _ _ h => h) (Or.inl ⟨by rfl, ?_⟩) ?_ ?_
                                      rotate_left
                                      · intro w'
                                        go_simp
                                        with_reducible rfl
                                      rotate_left
                                      · simp only [Act.put, List.setIfInBounds_toArray, List.set_cons_zero, List.set_cons_succ, i64_w, i32_w]
                                        rfl
                                      refine pure_ (i := 15) (N := some 153) (v := ?_) (a' := ?_) #[true, true, true, true, true, true, true, true, true, true, true, true, true, true, true, true, false, false, false, false, false, false, false, false, false, false, false, false, false, false, false, false, false, false, false] rfl rfl (any_of HT_.out (by kernel_rfl)) (fun _ _ _ h => h) (Or.inl ⟨by rfl, ?_⟩) ?_ ?_
                                      rotate_left
                                      · intro w'
                                        go_simp
                                        with_reducible rfl
                                      rotate_left
                                      · simp only [Act.put, List.setIfInBounds_toArray, List.set_cons_zero, List.set_cons_succ, i64_w, i32_w]
                                        rfl
                                      refine pure_ (i := 16) (N := some 154) (v := ?_) (a' := ?_) #[true, true, true, true, true, true, true, true, true, true, true, true, true, true, true, true, true, false, false, false, false, false, false, false, false, false, false, false, false, false, false, false, false, false, false] rfl rfl (any_of HT_.out (by kernel_rfl)) (fun _ _ _ h => h) (Or.inl ⟨by rfl, ?_⟩) ?_ ?_
                                      rotate_left
                                      · intro w'
                                        go_simp
                                        with_reducible rfl
                                      rotate_left
                                      · simp only [Act.put, List.setIfInBounds_toArray, List.set_cons_zero, List.set_cons_succ, i64_w, i32_w]
                                        rfl
                                      refine pure_ (i := 19) (N := some 157) (v := ?_) (a' := ?_) #[true, true, true, true, true, true, true, true, true, true, true, true, true, true, true, true, true, false, false, true, false, false, false, false, false, false, false, false, false, false, false, false, false, false, false] rfl rfl (any_of HT_.out (by kernel_rfl)) (fun _ _ _ h => h) (Or.inl ⟨by rfl, ?_⟩) ?_ ?_
                                      rotate_left
                                      · intro w'
                                        go_simp
                                        with_reducible rfl
                                      rotate_left
                                      · simp only [Act.put, List.setIfInBounds_toArray, List.set_cons_zero, List.set_cons_succ, i64_w, i32_w]
                                        rfl
                                      refine take_ (i := 17) (N := some 155) (v := ?_) (a' := ?_) #[true, true, true, true, true, true, true, true, true, true, true, true, true, true, true, true, true, true, false, true, false, false, false, false, false, false, false, false, false, false, false, false, false, false, false] rfl rfl (take_ofW HT_.out HW_.out (by kernel_rfl)) (fun _ _ _ h => h) (Or.inl ⟨by rfl, ?_⟩) hHeld ?_ ?_
                                      rotate_left
                                      · rintro w' ⟨s0, s1, s2, s3, s4, s5, s6, s7, s8, s9, s10⟩
                                        go_simp
                                        with_reducible rfl
                                      rotate_left
                                      · simp only [Act.put, List.setIfInBounds_toArray, List.set_cons_zero, List.set_cons_succ, i64_w, i32_w]
                                        rfl
                                      refine take_ (i := 18) (N := some 156) (v := ?_) (a' := ?_) #[true, true, true, true, true, true, true, true, true, true, true, true, true, true, true, true, true, true, true, true, false, false, false, false, false, false, false, false, false, false, false, false, false, false, false] rfl rfl (take_ofW HT_.out HW_.out (by kernel_rfl)) (fun _ _ _ h => h) (Or.inl ⟨by rfl, ?_⟩) hHeld ?_ ?_
                                      rotate_left
                                      · rintro w' ⟨s0, s1, s2, s3, s4, s5, s6, s7, s8, s9, s10⟩
                                        go_simp
                                        with_reducible rfl
                                      rotate_left
                                      · simp only [Act.put, List.setIfInBounds_toArray, List.set_cons_zero, List.set_cons_succ, i64_w, i32_w]
                                        rfl
                                      refine take_ (i := 20) (N := some 158) (v := ?_) (a' := ?_) #[true, true, true, true, true, true, true, true, true, true, true, true, true, true, true, true, true, true, true, true, true, false, false, false, false, false, false, false, false, false, false, false, false, false, false] rfl rfl (take_ofW HT_.out HW_.out (by kernel_rfl)) (fun _ _ _ h => h) (Or.inl ⟨by rfl, ?_⟩) hHeld ?_ ?_
                                      rotate_left
                                      · rintro w' ⟨s0, s1, s2, s3, s4, s5, s6, s7, s8, s9, s10⟩
                                        go_simp
                                        with_reducible rfl
                                      rotate_left
                                      · simp only [Act.put, List.setIfInBounds_toArray, List.set_cons_zero, List.set_cons_succ, i64_w, i32_w]
                                        rfl
                                      refine one_ (i := 21) (N := some 159) #[true, true, true, true, true, true, true, true, true, true, true, true, true, true, true, true, true, true, true, true, true, true, false, false, false, false, false, false, false, false, false, false, false, false, false] rfl rfl (one_of HT_.out (by kernel_rfl)) (by decide) (fun K hK => ?_)
                                      refine goes_ Try.func30 (by kernel_rfl) rfl #[.agg #[.int .i64 a0_0, .int .i64 a0_1, .int .i64 a0_2], .agg #[.int .u64 x596000_4, .slice Ao146 x596001_4.length co146], .int .i64 a0_7] (by rfl) rfl rfl (by (try simp only [List.map_toArray, List.map_cons, List.map_nil]); first | done | rfl | (simp only [List.length_drop, List.length_take]; rfl)) ?_
                                      with_reducible refine (lead_Valid.calls a0_0 a0_1 a0_2 x596000_4 _ _ x596001_4 a0_7 true _ ?side1 ?side2 A137.out).mono ?_
                                      (case side1 => repeat (first | exact (Kd.V_reads' HO_596001.out).2.2 | (with_reducible refine Kd.C_alloc ?_ _) | (with_reducible refine Kd.C_drewN ?_ _) | (with_reducible refine Kd.C_drew ?_)))
                                      (case side2 => exact (Kd.V_reads' HO_596001.out).2.1)
                                      rintro e w155 ⟨rfl, hb⟩
                                      refine ⟨_, rfl, ?_⟩
                                      have n0_ := Aside0.mk (Kd.V_below (by (with_reducible repeat (first | apply Kd.V_alloc | apply Kd.V_drewN | apply Kd.V_drew)); exact HO_588001.out) hb)
                                      have n1_ := Aside0.mk (Kd.V_below (by (with_reducible repeat (first | apply Kd.V_alloc | apply Kd.V_drewN | apply Kd.V_drew)); exact HO_596001.out) hb)
                                      have n2_ := Aside0.mk (Kd.V_below (by (with_reducible repeat (first | apply Kd.V_alloc | apply Kd.V_drewN | apply Kd.V_drew)); exact HO_603001.out) hb)
                                      have n3_ := Aside0.mk (blk_below (g := gb582) (o := .cells #[.int .i64 a0_0, .int .i64 a0_1, .int .i64 a0_2, .int .u64 a0_3, .slice A0_4 l0_4.length c0_4, .int .i64 a0_5, .int .u64 a0_6, .int .i64 a0_7, .int .i64 a0_8] 54 (0, 0)) (by (with_reducible repeat (first | refine blk_drewN ?_ _ | refine blk_drew ?_ | refine blk_alloc ?_ _)); exact BK582.out) hb)
                                      have n4_ := Aside0.mk (blk_below (g := gb587) (o := .cells #[.int .u64 t583, .slice Ao11 t584.length co11] 52 (0, 0)) (by (with_reducible repeat (first | refine blk_drewN ?_ _ | refine blk_drew ?_ | refine blk_alloc ?_ _)); exact BK587.out) hb)
                                      have n5_ := Aside0.mk (blk_below (g := gb595) (o := .cells #[.int .u64 x596000_4, .slice Ao146 x596001_4.length co146] 52 (0, 0)) (by (with_reducible repeat (first | refine blk_drewN ?_ _ | refine blk_drew ?_ | refine blk_alloc ?_ _)); exact BK595.out) hb)
                                      have n6_ := Aside0.mk (blk_below (g := gb602) (o := .cells #[.int .u64 t597, .slice Ao83 t598.length co83] 52 (0, 0)) (by (with_reducible repeat (first | refine blk_drewN ?_ _ | refine blk_drew ?_ | refine blk_alloc ?_ _)); exact BK602.out) hb)
                                      have n7_ := Aside0.mk (below_step (by repeat (first | (with_reducible first | exact HB.out | apply below_alloc | apply pw_below_drewN | apply below_drew1 | refine below_set ?_ GE582.out | refine below_set ?_ GE587.out | refine below_set ?_ GE595.out | refine below_set ?_ GE602.out) | exact HB.out)) hb)
                                      clear HO_588001
                                      clear HO_596001
                                      clear HO_603001
                                      clear BK582
                                      clear BK587
                                      clear BK595
                                      clear BK602
                                      clear HB
                                      have HO_588001 := n0_
                                      have HO_596001 := n1_
                                      have HO_603001 := n2_
                                      have BK582 := n3_
                                      have BK587 := n4_
                                      have BK595 := n5_
                                      have BK602 := n6_
                                      have HB := n7_
                                      clear n0_ n1_ n2_ n3_ n4_ n5_ n6_ n7_
                                      (try clear hb)
                                      (try clear hb2)
                                      (try clear hk)
                                      (try clear hi)
                                      refine hK.out _ _ ⟨(blk_cell BK582.out 0).trans rfl, (blk_cell BK582.out 1).trans rfl, (blk_cell BK582.out 2).trans rfl, (blk_cell BK582.out 3).trans rfl, (blk_cell BK582.out 4).trans rfl, (blk_cell BK582.out 5).trans rfl, (blk_cell BK582.out 6).trans rfl, (blk_cell BK582.out 7).trans rfl, (blk_cell BK582.out 8).trans rfl, (blk_cell BK595.out 0).trans rfl, (blk_cell BK595.out 1).trans rfl⟩ (fun hHeld => ?_)
                                      clear hK K
                                      refine norm_ (a' := ?_) ?_ ?_
                                      rotate_left
                                      · show Act.put _ (some 159) _ = _
                                        simp only [Act.put, List.setIfInBounds_toArray, List.set_cons_zero, List.set_cons_succ, i64_w, i32_w]
                                        rfl
                                      refine pure_ (i := 22) (N := some 160) (v := ?_) (a' := ?_) #[true, true, true, true, true, true, true, true, true, true, true, true, true, true, true, true, true, true, true, true, true, true, true, false, false, false, false, false, false, false, false, false, false, false, false] rfl rfl (any_of HT_.out (by kernel_rfl)) (fun _ _ _ h => h) (Or.inl ⟨by rfl, ?_⟩) ?_ ?_
                                      rotate_left
                                      · intro w'
                                        go_simp
                                        with_reducible rfl
                                      rotate_left
                                      · simp only [Act.put, List.setIfInBounds_toArray, List.set_cons_zero, List.set_cons_succ, i64_w, i32_w]
                                        rfl
                                      refine pure_ (i := 23) (N := some 161) (v := ?_) (a' := ?_) #[true, true, true, true, true, true, true, true, true, true, true, true, true, true, true, true, true, true, true, true, true, true, true, true, false, false, false, false, false, false, false, false, false, false, false] rfl rfl (any_of HT_.out (by kernel_rfl)) (fun _ _ _ h => h) (Or.inl ⟨by rfl, ?_⟩) ?_ ?_
                                      rotate_left
                                      · intro w'
                                        go_simp
                                        with_reducible rfl
                                      rotate_left
                                      · simp only [Act.put, List.setIfInBounds_toArray, List.set_cons_zero, List.set_cons_succ, i64_w, i32_w]
                                        rfl
                                      refine pure_ (i := 24) (N := some 162) (v := ?_) (a' := ?_) #[true, true, true, true, true, true, true, true, true, true, true, true, true, true, true, true, true, true, true, true, true, true, true, true, true, false, false, false, false, false, false, false, false, false, false] rfl rfl (any_of HT_.out (by kernel_rfl)) (fun _ _ _ h => h) (Or.inl ⟨by rfl, ?_⟩) ?_ ?_
                                      rotate_left
                                      · intro w'
                                        go_simp
                                        with_reducible rfl
                                      rotate_left
                                      · simp only [Act.put, List.setIfInBounds_toArray, List.set_cons_zero, List.set_cons_succ, i64_w, i32_w]
                                        rfl
                                      refine pure_ (i := 27) (N := some 165) (v := ?_) (a' := ?_) #[true, true, true, true, true, true, true, true, true, true, true, true, true, true, true, true, true, true, true, true, true, true, true, true, true, false, false, true, false, false, false, false, false, false, false] rfl rfl (any_of HT_.out (by kernel_rfl)) (fun _ _ _ h => h) (Or.inl ⟨by rfl, ?_⟩) ?_ ?_
                                      rotate_left
                                      · intro w'
                                        go_simp
                                        with_reducible rfl
                                      rotate_left
                                      · simp only [Act.put, List.setIfInBounds_toArray, List.set_cons_zero, List.set_cons_succ, i64_w, i32_w]
                                        rfl
                                      refine take_ (i := 25) (N := some 163) (v := ?_) (a' := ?_) #[true, true, true, true, true, true, true, true, true, true, true, true, true, true, true, true, true, true, true, true, true, true, true, true, true, true, false, true, false, false, false, false, false, false, false] rfl rfl (take_ofW HT_.out HW_.out (by kernel_rfl)) (fun _ _ _ h => h) (Or.inl ⟨by rfl, ?_⟩) hHeld ?_ ?_
                                      rotate_left
                                      · rintro w' ⟨s0, s1, s2, s3, s4, s5, s6, s7, s8, s9, s10⟩
                                        go_simp
                                        with_reducible rfl
                                      rotate_left
                                      · simp only [Act.put, List.setIfInBounds_toArray, List.set_cons_zero, List.set_cons_succ, i64_w, i32_w]
                                        rfl
                                      refine take_ (i := 26) (N := some 164) (v := ?_) (a' := ?_) #[true, true, true, true, true, true, true, true, true, true, true, true, true, true, true, true, true, true, true, true, true, true, true, true, true, true, true, true, false, false, false, false, false, false, false] rfl rfl (take_ofW HT_.out HW_.out (by kernel_rfl)) (fun _ _ _ h => h) (Or.inl ⟨by rfl, ?_⟩) hHeld ?_ ?_
                                      rotate_left
                                      · rintro w' ⟨s0, s1, s2, s3, s4, s5, s6, s7, s8, s9, s10⟩
                                        go_simp
                                        with_reducible rfl
                                      rotate_left
                                      · simp only [Act.put, List.setIfInBounds_toArray, List.set_cons_zero, List.set_cons_succ, i64_w, i32_w]
                                        rfl
                                      refine one_ (i := 28) (N := some 166) #[true, true, true, true, true, true, true, true, true, true, true, true, true, true, true, true, true, true, true, true, true, true, true, true, true, true, true, true, true, false, false, false, false, false, false] rfl rfl (one_of HT_.out (by kernel_rfl)) (by decide) (fun K hK => ?_)
                                      refine goes_ Try.func30 (by kernel_rfl) rfl #[.agg #[.int .i64 a0_0, .int .i64 a0_1, .int .i64 a0_2], .agg #[.int .u64 x596000_4, .slice Ao146 x596001_4.length co146], .int .i64 t610] (by rfl) rfl rfl (by (try simp only [List.map_toArray, List.map_cons, List.map_nil]); first | done | rfl | (simp only [List.length_drop, List.length_take]; rfl)) ?_
                                      with_reducible refine (lead_Valid.calls a0_0 a0_1 a0_2 x596000_4 _ _ x596001_4 t610 false _ ?side1 ?side2 A139.out).mono ?_
                                      (case side1 => repeat (first | exact (Kd.V_reads' HO_596001.out).2.2 | (with_reducible refine Kd.C_alloc ?_ _) | (with_reducible refine Kd.C_drewN ?_ _) | (with_reducible refine Kd.C_drew ?_)))
                                      (case side2 => exact (Kd.V_reads' HO_596001.out).2.1)
                                      rintro e w156 ⟨rfl, hb⟩
                                      refine ⟨_, rfl, ?_⟩
                                      have n0_ := Aside0.mk (Kd.V_below (by (with_reducible repeat (first | apply Kd.V_alloc | apply Kd.V_drewN | apply Kd.V_drew)); exact HO_588001.out) hb)
                                      have n1_ := Aside0.mk (Kd.V_below (by (with_reducible repeat (first | apply Kd.V_alloc | apply Kd.V_drewN | apply Kd.V_drew)); exact HO_596001.out) hb)
                                      have n2_ := Aside0.mk (Kd.V_below (by (with_reducible repeat (first | apply Kd.V_alloc | apply Kd.V_drewN | apply Kd.V_drew)); exact HO_603001.out) hb)
                                      have n3_ := Aside0.mk (blk_below (g := gb582) (o := .cells #[.int .i64 a0_0, .int .i64 a0_1, .int .i64 a0_2, .int .u64 a0_3, .slice A0_4 l0_4.length c0_4, .int .i64 a0_5, .int .u64 a0_6, .int .i64 a0_7, .int .i64 a0_8] 54 (0, 0)) (by (with_reducible repeat (first | refine blk_drewN ?_ _ | refine blk_drew ?_ | refine blk_alloc ?_ _)); exact BK582.out) hb)
                                      have n4_ := Aside0.mk (blk_below (g := gb587) (o := .cells #[.int .u64 t583, .slice Ao11 t584.length co11] 52 (0, 0)) (by (with_reducible repeat (first | refine blk_drewN ?_ _ | refine blk_drew ?_ | refine blk_alloc ?_ _)); exact BK587.out) hb)
                                      have n5_ := Aside0.mk (blk_below (g := gb595) (o := .cells #[.int .u64 x596000_4, .slice Ao146 x596001_4.length co146] 52 (0, 0)) (by (with_reducible repeat (first | refine blk_drewN ?_ _ | refine blk_drew ?_ | refine blk_alloc ?_ _)); exact BK595.out) hb)
                                      have n6_ := Aside0.mk (blk_below (g := gb602) (o := .cells #[.int .u64 t597, .slice Ao83 t598.length co83] 52 (0, 0)) (by (with_reducible repeat (first | refine blk_drewN ?_ _ | refine blk_drew ?_ | refine blk_alloc ?_ _)); exact BK602.out) hb)
                                      have n7_ := Aside0.mk (below_step (by repeat (first | (with_reducible first | exact HB.out | apply below_alloc | apply pw_below_drewN | apply below_drew1 | refine below_set ?_ GE582.out | refine below_set ?_ GE587.out | refine below_set ?_ GE595.out | refine below_set ?_ GE602.out) | exact HB.out)) hb)
                                      clear HO_588001
                                      clear HO_596001
                                      clear HO_603001
                                      clear BK582
                                      clear BK587
                                      clear BK595
                                      clear BK602
                                      clear HB
                                      have HO_588001 := n0_
                                      have HO_596001 := n1_
                                      have HO_603001 := n2_
                                      have BK582 := n3_
                                      have BK587 := n4_
                                      have BK595 := n5_
                                      have BK602 := n6_
                                      have HB := n7_
                                      clear n0_ n1_ n2_ n3_ n4_ n5_ n6_ n7_
                                      (try clear hb)
                                      (try clear hb2)
                                      (try clear hk)
                                      (try clear hi)
                                      refine hK.out _ _ ⟨(blk_cell BK582.out 0).trans rfl, (blk_cell BK582.out 1).trans rfl, (blk_cell BK582.out 2).trans rfl, (blk_cell BK582.out 3).trans rfl, (blk_cell BK582.out 4).trans rfl, (blk_cell BK582.out 5).trans rfl, (blk_cell BK582.out 6).trans rfl, (blk_cell BK582.out 7).trans rfl, (blk_cell BK582.out 8).trans rfl, (blk_cell BK595.out 0).trans rfl, (blk_cell BK595.out 1).trans rfl⟩ (fun hHeld => ?_)
                                      clear hK K
                                      refine norm_ (a' := ?_) ?_ ?_
                                      rotate_left
                                      · show Act.put _ (some 166) _ = _
                                        simp only [Act.put, List.setIfInBounds_toArray, List.set_cons_zero, List.set_cons_succ, i64_w, i32_w]
                                        rfl
                                      refine pure_ (i := 29) (N := some 167) (v := ?_) (a' := ?_) #[true, true, true, true, true, true, true, true, true, true, true, true, true, true, true, true, true, true, true, true, true, true, true, true, true, true, true, true, true, true, false, false, false, false, false] rfl rfl (any_of HT_.out (by kernel_rfl)) (fun _ _ _ h => h) (Or.inl ⟨by rfl, ?_⟩) ?_ ?_
                                      rotate_left
                                      · intro w'
                                        go_simp
                                        with_reducible rfl
                                      rotate_left
                                      · simp only [Act.put, List.setIfInBounds_toArray, List.set_cons_zero, List.set_cons_succ, i64_w, i32_w]
                                        rfl
                                      refine pure_ (i := 30) (N := some 168) (v := ?_) (a' := ?_) #[true, true, true, true, true, true, true, true, true, true, true, true, true, true, true, true, true, true, true, true, true, true, true, true, true, true, true, true, true, true, true, false, false, false, false] rfl rfl (any_of HT_.out (by kernel_rfl)) (fun _ _ _ h => h) (Or.inl ⟨by rfl, ?_⟩) ?_ ?_
                                      rotate_left
                                      · intro w'
                                        go_simp
                                        with_reducible rfl
                                      rotate_left
                                      · simp only [Act.put, List.setIfInBounds_toArray, List.set_cons_zero, List.set_cons_succ, i64_w, i32_w]
                                        rfl
                                      refine pure_ (i := 31) (N := some 169) (v := ?_) (a' := ?_) #[true, true, true, true, true, true, true, true, true, true, true, true, true, true, true, true, true, true, true, true, true, true, true, true, true, true, true, true, true, true, true, true, false, false, false] rfl rfl (any_of HT_.out (by kernel_rfl)) (fun _ _ _ h => h) (Or.inl ⟨by rfl, ?_⟩) ?_ ?_
                                      rotate_left
                                      · intro w'
                                        go_simp
                                        with_reducible rfl
                                      rotate_left
                                      · simp only [Act.put, List.setIfInBounds_toArray, List.set_cons_zero, List.set_cons_succ, i64_w, i32_w]
                                        rfl
                                      refine one_ (i := 32) (N := some 170) #[true, true, true, true, true, true, true, true, true, true, true, true, true, true, true, true, true, true, true, true, true, true, true, true, true, true, true, true, true, true, true, true, true, false, false] rfl rfl (one_of HT_.out (by kernel_rfl)) (by decide) (fun K hK => ?_)
                                      refine goes_ Try.func24 (by kernel_rfl) rfl #[] (by rfl) rfl rfl (by (try simp only [List.map_toArray, List.map_cons, List.map_nil]); first | done | rfl | (simp only [List.length_drop, List.length_take]; rfl)) ?_
                                      with_reducible refine (tattlelaw18_awakeT.calls  t618 _ A141.out).mono ?_
                                      rintro e w157 ⟨rfl, hb⟩
                                      refine ⟨_, rfl, ?_⟩
                                      have n0_ := Aside0.mk (Kd.V_below (by (with_reducible repeat (first | apply Kd.V_alloc | apply Kd.V_drewN | apply Kd.V_drew)); exact HO_588001.out) hb)
                                      have n1_ := Aside0.mk (Kd.V_below (by (with_reducible repeat (first | apply Kd.V_alloc | apply Kd.V_drewN | apply Kd.V_drew)); exact HO_596001.out) hb)
                                      have n2_ := Aside0.mk (Kd.V_below (by (with_reducible repeat (first | apply Kd.V_alloc | apply Kd.V_drewN | apply Kd.V_drew)); exact HO_603001.out) hb)
                                      have n3_ := Aside0.mk (blk_below (g := gb582) (o := .cells #[.int .i64 a0_0, .int .i64 a0_1, .int .i64 a0_2, .int .u64 a0_3, .slice A0_4 l0_4.length c0_4, .int .i64 a0_5, .int .u64 a0_6, .int .i64 a0_7, .int .i64 a0_8] 54 (0, 0)) (by (with_reducible repeat (first | refine blk_drewN ?_ _ | refine blk_drew ?_ | refine blk_alloc ?_ _)); exact BK582.out) hb)
                                      have n4_ := Aside0.mk (blk_below (g := gb587) (o := .cells #[.int .u64 t583, .slice Ao11 t584.length co11] 52 (0, 0)) (by (with_reducible repeat (first | refine blk_drewN ?_ _ | refine blk_drew ?_ | refine blk_alloc ?_ _)); exact BK587.out) hb)
                                      have n5_ := Aside0.mk (blk_below (g := gb595) (o := .cells #[.int .u64 x596000_4, .slice Ao146 x596001_4.length co146] 52 (0, 0)) (by (with_reducible repeat (first | refine blk_drewN ?_ _ | refine blk_drew ?_ | refine blk_alloc ?_ _)); exact BK595.out) hb)
                                      have n6_ := Aside0.mk (blk_below (g := gb602) (o := .cells #[.int .u64 t597, .slice Ao83 t598.length co83] 52 (0, 0)) (by (with_reducible repeat (first | refine blk_drewN ?_ _ | refine blk_drew ?_ | refine blk_alloc ?_ _)); exact BK602.out) hb)
                                      have n7_ := Aside0.mk (below_step (by repeat (first | (with_reducible first | exact HB.out | apply below_alloc | apply pw_below_drewN | apply below_drew1 | refine below_set ?_ GE582.out | refine below_set ?_ GE587.out | refine below_set ?_ GE595.out | refine below_set ?_ GE602.out) | exact HB.out)) hb)
                                      clear HO_588001
                                      clear HO_596001
                                      clear HO_603001
                                      clear BK582
                                      clear BK587
                                      clear BK595
                                      clear BK602
                                      clear HB
                                      have HO_588001 := n0_
                                      have HO_596001 := n1_
                                      have HO_603001 := n2_
                                      have BK582 := n3_
                                      have BK587 := n4_
                                      have BK595 := n5_
                                      have BK602 := n6_
                                      have HB := n7_
                                      clear n0_ n1_ n2_ n3_ n4_ n5_ n6_ n7_
                                      (try clear hb)
                                      (try clear hb2)
                                      (try clear hk)
                                      (try clear hi)
                                      refine hK.out _ _ ⟨(blk_cell BK582.out 0).trans rfl, (blk_cell BK582.out 1).trans rfl, (blk_cell BK582.out 2).trans rfl, (blk_cell BK582.out 3).trans rfl, (blk_cell BK582.out 4).trans rfl, (blk_cell BK582.out 5).trans rfl, (blk_cell BK582.out 6).trans rfl, (blk_cell BK582.out 7).trans rfl, (blk_cell BK582.out 8).trans rfl, (blk_cell BK595.out 0).trans rfl, (blk_cell BK595.out 1).trans rfl⟩ (fun hHeld => ?_)
                                      clear hK K
                                      refine norm_ (a' := ?_) ?_ ?_
                                      rotate_left
                                      · show Act.put _ (some 170) _ = _
                                        simp only [Act.put, List.setIfInBounds_toArray, List.set_cons_zero, List.set_cons_succ, i64_w, i32_w]
                                        rfl
                                      refine pure_ (i := 33) (N := some 171) (v := ?_) (a' := ?_) #[true, true, true, true, true, true, true, true, true, true, true, true, true, true, true, true, true, true, true, true, true, true, true, true, true, true, true, true, true, true, true, true, true, true, false] rfl rfl (any_of HT_.out (by kernel_rfl)) (fun _ _ _ h => h) (Or.inl ⟨by rfl, ?_⟩) ?_ ?_
                                      rotate_left
                                      · intro w'
                                        go_simp
                                        with_reducible rfl
                                      rotate_left
                                      · simp only [Act.put, List.setIfInBounds_toArray, List.set_cons_zero, List.set_cons_succ, i64_w, i32_w]
                                        rfl
                                      refine pure_ (i := 34) (N := some 4) (v := ?_) (a' := ?_) #[true, true, true, true, true, true, true, true, true, true, true, true, true, true, true, true, true, true, true, true, true, true, true, true, true, true, true, true, true, true, true, true, true, true, true] rfl rfl (any_of HT_.out (by kernel_rfl)) (fun _ _ _ h => h) (Or.inl ⟨by rfl, ?_⟩) ?_ ?_
                                      rotate_left
                                      · intro w'
                                        go_simp
                                        with_reducible rfl
                                      rotate_left
                                      · simp only [Act.put, List.setIfInBounds_toArray, List.set_cons_zero, List.set_cons_succ, i64_w, i32_w]
                                        rfl
                                      refine done_ (done_of HT_.out (by kernel_rfl)) ?_
                                      try go_wp2
                                      go_ret
                                      exact ⟨by first | rfl | (simp [errW_none, errW_some] <;> rfl) | (simp [*, errW_none, errW_some] <;> rfl), by repeat (first | (with_reducible first | exact HB.out | apply below_alloc | apply pw_below_drewN | apply below_drew1 | refine below_set ?_ GE582.out | refine below_set ?_ GE587.out | refine below_set ?_ GE595.out | refine below_set ?_ GE602.out) | exact HB.out)⟩
                                  · replace c138 := Bool.eq_false_iff.mpr c138
                                    subst c138
                                    have H1 : (some false) = some r := by rw [if_neg (show ¬ (false = true) by decide)] at H; exact H
                                    clear H
                                    have H := H1
                                    clear H1
                                    exact absurd ((Option.some.inj H).trans hrt.out) (by decide)
                                · rw [if_neg c136] at H
                                  have c136b0 : (t610 == (wrap64 (a0_7 + t615))) = false := beq_eq_false_iff_ne.mpr c136
                                  have c136b1 : (t610 != (wrap64 (a0_7 + t615))) = true := bne_iff_ne.mpr c136
                                  exact absurd ((Option.some.inj H).trans hrt.out) (by decide)
                              · replace c134 := Bool.eq_false_iff.mpr c134
                                subst c134
                                have H1 : (some false) = some r := by rw [if_neg (show ¬ (false = true) by decide)] at H; exact H
                                clear H
                                have H := H1
                                clear H1
                                exact absurd ((Option.some.inj H).trans hrt.out) (by decide)
                            · rw [if_neg c133] at H
                              have c133b0 : (t612 == 0) = false := beq_eq_false_iff_ne.mpr c133
                              have c133b1 : (t612 != 0) = true := bne_iff_ne.mpr c133
                              exact absurd ((Option.some.inj H).trans hrt.out) (by decide)

end Go.Proofs.Ytgfblogneggpmaa.Fn
