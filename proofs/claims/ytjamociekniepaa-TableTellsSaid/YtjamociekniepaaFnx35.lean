-- Written by program (a turned copy of the kit's print) for this seat: functions, contracts. Lean checks it.
import Derived.Test.YtjamociekniepaaFnx0
import Derived.Test.YtjamociekniepaaFnx4
import Derived.Test.YtjamociekniepaaFnx14
import Derived.Test.YtjamociekniepaaFnx15
import Derived.Test.YtjamociekniepaaFnx16
import Derived.Test.YtjamociekniepaaFnx17
import Derived.Test.YtjamociekniepaaFnx24
import Derived.Test.YtjamociekniepaaFnx28
import Derived.Test.YtjamociekniepaaFnx29
import Derived.Test.YtjamociekniepaaFnx30
import Derived.Test.YtjamociekniepaaFnx31
import Derived.Test.YtjamociekniepaaFnx32
import Derived.Test.YtjamociekniepaaFnx33
import Derived.Test.YtjamociekniepaaFnx34
import Derived.Test.YtjamociekniepaaAw28
import Derived.Test.YtjamociekniepaaExTab
namespace Go.Proofs.Ytjamociekniepaa.Fn
open Go.RowKit Go.Proofs.YtjamociekniepaaW.PrintWords Go.Proofs.YtjamociekniepaaW.PrintLast Go.Proofs.YtjamociekniepaaW.PrintMore
attribute [local go_sem] max2_int min2_int max_two min_two max_three min_three max_four min_four   -- for this text's walks alone
set_option linter.unusedVariables false
set_option linter.unusedSimpArgs false

/-! ### tattlelaw06_TableTells: function 14 -/
abbrev tattlelaw06_TableTells.Q.qa := @blk_drewN
abbrev tattlelaw06_TableTells.Q.qb := @blk_drew
abbrev tattlelaw06_TableTells.Q.qc := @blk_alloc
abbrev tattlelaw06_TableTells.Q.qd := @below_set
abbrev tattlelaw06_TableTells.Q.qe := @below_alloc
abbrev tattlelaw06_TableTells.Q.qf := @pw_below_drewN
abbrev tattlelaw06_TableTells.Q.qg := @below_drew1
abbrev tattlelaw06_TableTells.Q.qh := @Kd.V_alloc
abbrev tattlelaw06_TableTells.Q.qi := @Kd.V_drewN
abbrev tattlelaw06_TableTells.Q.qj := @Kd.V_drew
abbrev tattlelaw06_TableTells.Q.qk := @Kd.R_alloc
abbrev tattlelaw06_TableTells.Q.ql := @Kd.R_drewN
abbrev tattlelaw06_TableTells.Q.qm := @Kd.R_drew
abbrev tattlelaw06_TableTells.Q.qn := @Kd.V_mono
abbrev tattlelaw06_TableTells.Q.qo := @Kd.R_mono
abbrev tattlelaw06_TableTells.Q.qp := @Kd.V_below
abbrev tattlelaw06_TableTells.Q.qq := @Kd.R_below
abbrev tattlelaw06_TableTells.Q.qr := @Aside0.mk
abbrev tattlelaw06_TableTells.Q.qs := @List.setIfInBounds_toArray
abbrev tattlelaw06_TableTells.Q.qt := @List.set_cons_zero
abbrev tattlelaw06_TableTells.Q.qu := @List.set_cons_succ
abbrev tattlelaw06_TableTells.Q.qv := @blk_below
abbrev tattlelaw06_TableTells.Q.qw := @blk_cell
abbrev tattlelaw06_TableTells.Q.qx := @blk_frozen
abbrev tattlelaw06_TableTells.Q.qy := @gate_callee
abbrev tattlelaw06_TableTells.Q.qz := @below_step
abbrev tattlelaw06_TableTells.Q.za := @List.length_drop
abbrev tattlelaw06_TableTells.Q.zb := @List.length_take
abbrev tattlelaw06_TableTells.Q.zc := @List.map_toArray
abbrev tattlelaw06_TableTells.Q.zd := @List.map_cons
abbrev tattlelaw06_TableTells.Q.ze := @List.map_nil
abbrev tattlelaw06_TableTells.Q.zf := @pure_
abbrev tattlelaw06_TableTells.Q.zg := @norm_
abbrev tattlelaw06_TableTells.Q.zh := @Nat.le_refl
abbrev tattlelaw06_TableTells.Q.zi := @Kd.R_lower
abbrev tattlelaw06_TableTells.Q.zj := @Kd.C_alloc
abbrev tattlelaw06_TableTells.Q.zk := @Kd.C_drewN
abbrev tattlelaw06_TableTells.Q.zl := @Kd.C_drew
abbrev tattlelaw06_TableTells.Q.zm := @goesL_
abbrev tattlelaw06_TableTells.Q.zn := @goes_
open tattlelaw06_TableTells.Q
mutual
def tattlelaw06_TableTells.j0 : Nat → List (S26) → List (S26) → List (S26) → Int → Bool → List (S26) → List (S26) → Int → Int → Int → Option (Bool)
  | 0,_,_,_,_,_,_,_,_,_,_ => none
  | k + 1,x3,x4,x5,x6,x37,Q7,Q8,Qv,Qy,Qz => if x37 = true then (if (x5.length : Int) > 0 then (some false) else (if x6 = 1 then (tattlelaw06_TableTells.j1 k x3 x4 Q7 Q8 Qv Qy Qz) else (some false))) else (if 0 ≤ Qv then (if (Qv : Int).toNat ≤ 17592186044416 then ((tattleref06_Same.f k x5 (List.replicate (Qv : Int).toNat z26)).bind fun J3 => (if J3 = true then (if x6 = 0 then (tattlelaw06_TableTells.j1 k x3 x4 Q7 Q8 Qv Qy Qz) else (some false)) else (some false))) else (none)) else (none))
def tattlelaw06_TableTells.j1 : Nat → List (S26) → List (S26) → List (S26) → List (S26) → Int → Int → Int → Option (Bool)
  | 0,_,_,_,_,_,_,_ => none
  | k + 1,x3,x4,Q7,Q8,Qv,Qy,Qz => (table_Apply.f k x3 Qv Qy Qz).bind fun Yz => ((table_Merge.f k x3 x4).bind fun Xt => ((table_Behind.f x3 x4).bind fun Zy => ((table_Lowest.f x3).bind fun Zh => ((table_Check.f k x3).bind fun Zu => ((tattleref06_May.f k x3).bind fun Zq => (if ((Zu == 0) != Zq) = true then (tattlelaw06_TableTells.j2 k x3 x4 Yz.1 Yz.2.1 Yz.2.2 Xt.1 Xt.2 Zy.1 Zy.2 Zh.1 Zh.2 true Q7 Q8 Qv Qy Qz) else ((table_Same.f k x3 x4).bind fun Xi => ((tattleref06_Same.f k x3 x4).bind fun Z9 => (tattlelaw06_TableTells.j2 k x3 x4 Yz.1 Yz.2.1 Yz.2.2 Xt.1 Xt.2 Zy.1 Zy.2 Zh.1 Zh.2 (Xi != Z9) Q7 Q8 Qv Qy Qz)))))))))
def tattlelaw06_TableTells.j2 : Nat → List (S26) → List (S26) → List (S26) → Bool → Int → List (S26) → Int → List Int → Int → Int → Int → Bool → List (S26) → List (S26) → Int → Int → Int → Option (Bool)
  | 0,_,_,_,_,_,_,_,_,_,_,_,_,_,_,_,_,_ => none
  | k + 1,x3,x4,x7,x8,x9,x10,x11,x12,x13,x14,x15,x96,Q7,Q8,Qv,Qy,Qz => if x96 = true then (some false) else ((tattleref06_May.f k x3).bind fun Da => (if Da = true then ((tattleref06_Up.f k x3).bind fun Qu => ((table_Up.f x3).bind fun Xk => ((tattleref02_Same.f k Xk Qu).bind fun Xu => (if Xu = true then ((table_Others.f x3 Qv).bind fun Z5 => ((tattleref06_Others.f k x3 Qv).bind fun Zv => ((tattleref02_Same.f k Z5 Zv).bind fun Zr => (tattlelaw06_TableTells.j3 k x3 x4 x7 x8 x9 x10 x11 x12 x13 x14 x15 Qu (!Zr) Q7 Q8 Qv Qy Qz)))) else (tattlelaw06_TableTells.j3 k x3 x4 x7 x8 x9 x10 x11 x12 x13 x14 x15 Qu true Q7 Q8 Qv Qy Qz))))) else ((tattleref06_Same.f k x7 x3).bind fun Yy => (if Yy = true then (if x8 = true then (some false) else (if x9 = 1 then (if (x10.length : Int) = 0 then (if x11 = 1 then (if (x12.length : Int) = 0 then (if x13 = 1 then (if x14 = 0 then (if x15 = 1 then ((table_Up.f x3).bind fun Zw => (if (Zw.length : Int) = 0 then ((table_Others.f x3 Qv).bind fun Zn => (if (Zn.length : Int) = 0 then ((tattlelaw06_awakeT.f).bind fun Z6 => (some Z6)) else (some false))) else (some false))) else (some false)) else (some false)) else (some false)) else (some false)) else (some false)) else (some false)) else (some false))) else (some false)))))
def tattlelaw06_TableTells.j3 : Nat → List (S26) → List (S26) → List (S26) → Bool → Int → List (S26) → Int → List Int → Int → Int → Int → List Int → Bool → List (S26) → List (S26) → Int → Int → Int → Option (Bool)
  | 0,_,_,_,_,_,_,_,_,_,_,_,_,_,_,_,_,_,_ => none
  | k + 1,x3,x4,x7,x8,x9,x10,x11,x12,x13,x14,x15,x16,M0,Q7,Q8,Qv,Qy,Qz => if M0 = true then (some false) else (if (x16.length : Int) = 0 then (if x14 = 0 then (if x15 = 6 then (if (x16.length : Int) > 0 then (if 0 < (x16.length : Int) then (if x14 = (rd x16 0) then (tattlelaw06_TableTells.j4 k x3 x4 x7 x8 x9 x10 x11 x12 x13 (x15 != 0) Q7 Q8 Qv Qy Qz) else (tattlelaw06_TableTells.j4 k x3 x4 x7 x8 x9 x10 x11 x12 x13 true Q7 Q8 Qv Qy Qz)) else (none)) else (tattlelaw06_TableTells.j4 k x3 x4 x7 x8 x9 x10 x11 x12 x13 false Q7 Q8 Qv Qy Qz)) else (tattlelaw06_TableTells.j4 k x3 x4 x7 x8 x9 x10 x11 x12 x13 true Q7 Q8 Qv Qy Qz)) else (tattlelaw06_TableTells.j4 k x3 x4 x7 x8 x9 x10 x11 x12 x13 true Q7 Q8 Qv Qy Qz)) else (if (x16.length : Int) > 0 then (if 0 < (x16.length : Int) then (if x14 = (rd x16 0) then (tattlelaw06_TableTells.j4 k x3 x4 x7 x8 x9 x10 x11 x12 x13 (x15 != 0) Q7 Q8 Qv Qy Qz) else (tattlelaw06_TableTells.j4 k x3 x4 x7 x8 x9 x10 x11 x12 x13 true Q7 Q8 Qv Qy Qz)) else (none)) else (tattlelaw06_TableTells.j4 k x3 x4 x7 x8 x9 x10 x11 x12 x13 false Q7 Q8 Qv Qy Qz)))
def tattlelaw06_TableTells.j4 : Nat → List (S26) → List (S26) → List (S26) → Bool → Int → List (S26) → Int → List Int → Int → Bool → List (S26) → List (S26) → Int → Int → Int → Option (Bool)
  | 0,_,_,_,_,_,_,_,_,_,_,_,_,_,_,_ => none
  | k + 1,x3,x4,x7,x8,x9,x10,x11,x12,x13,M1,Q7,Q8,Qv,Qy,Qz => if M1 = true then (some false) else (if Qv < 0 then (tattlelaw06_TableTells.j5 k x3 x4 x7 x8 x9 x10 x11 x12 x13 true Q7 Q8 Qv Qy Qz) else (if Qv ≥ (x3.length : Int) then (tattlelaw06_TableTells.j5 k x3 x4 x7 x8 x9 x10 x11 x12 x13 true Q7 Q8 Qv Qy Qz) else ((tattleref05_May.f Qy Qz).bind fun Vs => (tattlelaw06_TableTells.j5 k x3 x4 x7 x8 x9 x10 x11 x12 x13 (!Vs) Q7 Q8 Qv Qy Qz))))
def tattlelaw06_TableTells.j5 : Nat → List (S26) → List (S26) → List (S26) → Bool → Int → List (S26) → Int → List Int → Int → Bool → List (S26) → List (S26) → Int → Int → Int → Option (Bool)
  | 0,_,_,_,_,_,_,_,_,_,_,_,_,_,_,_ => none
  | k + 1,x3,x4,x7,x8,x9,x10,x11,x12,x13,M2,Q7,Q8,Qv,Qy,Qz => if M2 = true then ((tattleref06_Same.f k x7 x3).bind fun Db => (if Db = true then (if x8 = true then (some false) else (if x9 = 1 then (tattlelaw06_TableTells.j6 k x3 x4 x10 x11 x12 x13) else (some false))) else (some false))) else ((tattleref06_Apply.f x3 Qv Qy Qz).bind fun Xv => ((tattleref06_Same.f k x7 Xv).bind fun J4 => (if J4 = true then ((tattleref06_Same.f k Xv x3).bind fun Z7 => (if (x8 != (!Z7)) = true then (some false) else (if x9 = 0 then (tattlelaw06_TableTells.j6 k x3 x4 x10 x11 x12 x13) else (some false)))) else (some false))))
def tattlelaw06_TableTells.j6 : Nat → List (S26) → List (S26) → List (S26) → Int → List Int → Int → Option (Bool)
  | 0,_,_,_,_,_,_ => none
  | k + 1,x3,x4,x10,x11,x12,x13 => (tattleref06_May.f k x4).bind fun Dp => (if Dp = true then (tattlelaw06_TableTells.j7 k x3 x4 x10 x11 x12 x13 ((x4.length : Int) != (x3.length : Int))) else (tattlelaw06_TableTells.j7 k x3 x4 x10 x11 x12 x13 true))
def tattlelaw06_TableTells.j7 : Nat → List (S26) → List (S26) → List (S26) → Int → List Int → Int → Bool → Option (Bool)
  | 0,_,_,_,_,_,_,_ => none
  | k + 1,x3,x4,x10,x11,x12,x13,M3 => if M3 = true then (if (x10.length : Int) = 0 then (if x11 = 1 then (if (x12.length : Int) = 0 then (if x13 = 1 then ((tattlelaw06_awakeT.f).bind fun Dc => (some Dc)) else (some false)) else (some false)) else (some false)) else (some false)) else ((tattleref06_Merge.f k x3 x4).bind fun J5 => ((tattleref06_Same.f k x10 J5).bind fun J6 => (if J6 = true then (if x11 = 0 then ((tattleref06_Behind.f k x3 x4).bind fun Xz => ((tattleref02_Same.f k x12 Xz).bind fun Xw => (if Xw = true then (if x13 = 0 then ((tattlelaw06_awakeT.f).bind fun Xj => (some Xj)) else (some false)) else (some false)))) else (some false)) else (some false))))
end
def tattlelaw06_TableTells.f (k : Nat) (Qi : List (S26)) (Qh : List (S26)) (Qc : Int) (Qj : Int) (Qk : Int) : Option (Bool) := (tattlelaw06_Few.f Qi).bind fun Qb => ((tattlelaw06_Few.f Qh).bind fun Qg => ((table_New.f Qc).bind fun Zi => (if Qc < 1 then (tattlelaw06_TableTells.j0 k Qb Qg Zi.1 Zi.2 true Qi Qh Qc Qj Qk) else (tattlelaw06_TableTells.j0 k Qb Qg Zi.1 Zi.2 (decide (Qc > 64)) Qi Qh Qc Qj Qk))))
theorem tattlelaw06_TableTells.mono_l : ∀ k,(∀ y0 y1 y2 y3 y4 y5 y6 y7 y8 y9,LeO (tattlelaw06_TableTells.j0 k y0 y1 y2 y3 y4 y5 y6 y7 y8 y9) (tattlelaw06_TableTells.j0 (k + 1) y0 y1 y2 y3 y4 y5 y6 y7 y8 y9)) ∧ (∀ y0 y1 y2 y3 y4 y5 y6,LeO (tattlelaw06_TableTells.j1 k y0 y1 y2 y3 y4 y5 y6) (tattlelaw06_TableTells.j1 (k + 1) y0 y1 y2 y3 y4 y5 y6)) ∧ (∀ y0 y1 y2 y3 y4 y5 y6 y7 y8 y9 y10 y11 y12 y13 y14 y15 y16,LeO (tattlelaw06_TableTells.j2 k y0 y1 y2 y3 y4 y5 y6 y7 y8 y9 y10 y11 y12 y13 y14 y15 y16) (tattlelaw06_TableTells.j2 (k + 1) y0 y1 y2 y3 y4 y5 y6 y7 y8 y9 y10 y11 y12 y13 y14 y15 y16)) ∧ (∀ y0 y1 y2 y3 y4 y5 y6 y7 y8 y9 y10 y11 y12 y13 y14 y15 y16 y17,LeO (tattlelaw06_TableTells.j3 k y0 y1 y2 y3 y4 y5 y6 y7 y8 y9 y10 y11 y12 y13 y14 y15 y16 y17) (tattlelaw06_TableTells.j3 (k + 1) y0 y1 y2 y3 y4 y5 y6 y7 y8 y9 y10 y11 y12 y13 y14 y15 y16 y17)) ∧ (∀ y0 y1 y2 y3 y4 y5 y6 y7 y8 y9 y10 y11 y12 y13 y14,LeO (tattlelaw06_TableTells.j4 k y0 y1 y2 y3 y4 y5 y6 y7 y8 y9 y10 y11 y12 y13 y14) (tattlelaw06_TableTells.j4 (k + 1) y0 y1 y2 y3 y4 y5 y6 y7 y8 y9 y10 y11 y12 y13 y14)) ∧ (∀ y0 y1 y2 y3 y4 y5 y6 y7 y8 y9 y10 y11 y12 y13 y14,LeO (tattlelaw06_TableTells.j5 k y0 y1 y2 y3 y4 y5 y6 y7 y8 y9 y10 y11 y12 y13 y14) (tattlelaw06_TableTells.j5 (k + 1) y0 y1 y2 y3 y4 y5 y6 y7 y8 y9 y10 y11 y12 y13 y14)) ∧ (∀ y0 y1 y2 y3 y4 y5,LeO (tattlelaw06_TableTells.j6 k y0 y1 y2 y3 y4 y5) (tattlelaw06_TableTells.j6 (k + 1) y0 y1 y2 y3 y4 y5)) ∧ (∀ y0 y1 y2 y3 y4 y5 y6,LeO (tattlelaw06_TableTells.j7 k y0 y1 y2 y3 y4 y5 y6) (tattlelaw06_TableTells.j7 (k + 1) y0 y1 y2 y3 y4 y5 y6))
  | 0 => ⟨fun _ _ _ _ _ _ _ _ _ _ r h => by simp [tattlelaw06_TableTells.j0] at h,fun _ _ _ _ _ _ _ r h => by simp [tattlelaw06_TableTells.j1] at h,fun _ _ _ _ _ _ _ _ _ _ _ _ _ _ _ _ _ r h => by simp [tattlelaw06_TableTells.j2] at h,fun _ _ _ _ _ _ _ _ _ _ _ _ _ _ _ _ _ _ r h => by simp [tattlelaw06_TableTells.j3] at h,fun _ _ _ _ _ _ _ _ _ _ _ _ _ _ _ r h => by simp [tattlelaw06_TableTells.j4] at h,fun _ _ _ _ _ _ _ _ _ _ _ _ _ _ _ r h => by simp [tattlelaw06_TableTells.j5] at h,fun _ _ _ _ _ _ r h => by simp [tattlelaw06_TableTells.j6] at h,fun _ _ _ _ _ _ _ r h => by simp [tattlelaw06_TableTells.j7] at h⟩
  | k + 1 => by
   obtain ⟨ih0,ih1,ih2,ih3,ih4,ih5,ih6,ih7⟩ := tattlelaw06_TableTells.mono_l k
   refine ⟨?_,?_,?_,?_,?_,?_,?_,?_⟩
   ·intro y0 y1 y2 y3 y4 y5 y6 y7 y8 y9
    unfold tattlelaw06_TableTells.j0
    repeat' first
    | (with_reducible exact ih0 _ _ _ _ _ _ _ _ _ _)
    | (with_reducible exact ih1 _ _ _ _ _ _ _)
    | (with_reducible exact ih2 _ _ _ _ _ _ _ _ _ _ _ _ _ _ _ _ _)
    | (with_reducible exact ih3 _ _ _ _ _ _ _ _ _ _ _ _ _ _ _ _ _ _)
    | (with_reducible exact ih4 _ _ _ _ _ _ _ _ _ _ _ _ _ _ _)
    | (with_reducible exact ih5 _ _ _ _ _ _ _ _ _ _ _ _ _ _ _)
    | (with_reducible exact ih6 _ _ _ _ _ _)
    | (with_reducible exact ih7 _ _ _ _ _ _ _)
    | (with_reducible exact table_Apply.mono _ _ _ _ _)
    | (with_reducible exact table_Check.mono _ _)
    | (with_reducible exact table_Merge.mono _ _ _)
    | (with_reducible exact table_Same.mono _ _ _)
    | (with_reducible exact tattleref02_Same.mono _ _ _)
    | (with_reducible exact tattleref06_Behind.mono _ _ _)
    | (with_reducible exact tattleref06_May.mono _ _)
    | (with_reducible exact tattleref06_Merge.mono _ _ _)
    | (with_reducible exact tattleref06_Others.mono _ _ _)
    | (with_reducible exact tattleref06_Same.mono _ _ _)
    | (with_reducible exact tattleref06_Up.mono _ _)
    | (with_reducible exact LeO.refl _)
    | (with_reducible exact LeO.none _)
    | (with_reducible refine LeO.ite ?_ ?_)
    | (with_reducible refine LeO.bind ?_ (fun _ => ?_))
    | exact ih0 _ _ _ _ _ _ _ _ _ _
    | exact ih1 _ _ _ _ _ _ _
    | exact ih2 _ _ _ _ _ _ _ _ _ _ _ _ _ _ _ _ _
    | exact ih3 _ _ _ _ _ _ _ _ _ _ _ _ _ _ _ _ _ _
    | exact ih4 _ _ _ _ _ _ _ _ _ _ _ _ _ _ _
    | exact ih5 _ _ _ _ _ _ _ _ _ _ _ _ _ _ _
    | exact ih6 _ _ _ _ _ _
    | exact ih7 _ _ _ _ _ _ _
    | exact table_Apply.mono _ _ _ _ _
    | exact table_Check.mono _ _
    | exact table_Merge.mono _ _ _
    | exact table_Same.mono _ _ _
    | exact tattleref02_Same.mono _ _ _
    | exact tattleref06_Behind.mono _ _ _
    | exact tattleref06_May.mono _ _
    | exact tattleref06_Merge.mono _ _ _
    | exact tattleref06_Others.mono _ _ _
    | exact tattleref06_Same.mono _ _ _
    | exact tattleref06_Up.mono _ _
    | exact LeO.none _
    | refine LeO.ite ?_ ?_
    | refine LeO.bind ?_ (fun _ => ?_)
   ·intro y0 y1 y2 y3 y4 y5 y6
    unfold tattlelaw06_TableTells.j1
    repeat' first
    | (with_reducible exact ih0 _ _ _ _ _ _ _ _ _ _)
    | (with_reducible exact ih1 _ _ _ _ _ _ _)
    | (with_reducible exact ih2 _ _ _ _ _ _ _ _ _ _ _ _ _ _ _ _ _)
    | (with_reducible exact ih3 _ _ _ _ _ _ _ _ _ _ _ _ _ _ _ _ _ _)
    | (with_reducible exact ih4 _ _ _ _ _ _ _ _ _ _ _ _ _ _ _)
    | (with_reducible exact ih5 _ _ _ _ _ _ _ _ _ _ _ _ _ _ _)
    | (with_reducible exact ih6 _ _ _ _ _ _)
    | (with_reducible exact ih7 _ _ _ _ _ _ _)
    | (with_reducible exact table_Apply.mono _ _ _ _ _)
    | (with_reducible exact table_Check.mono _ _)
    | (with_reducible exact table_Merge.mono _ _ _)
    | (with_reducible exact table_Same.mono _ _ _)
    | (with_reducible exact tattleref02_Same.mono _ _ _)
    | (with_reducible exact tattleref06_Behind.mono _ _ _)
    | (with_reducible exact tattleref06_May.mono _ _)
    | (with_reducible exact tattleref06_Merge.mono _ _ _)
    | (with_reducible exact tattleref06_Others.mono _ _ _)
    | (with_reducible exact tattleref06_Same.mono _ _ _)
    | (with_reducible exact tattleref06_Up.mono _ _)
    | (with_reducible exact LeO.refl _)
    | (with_reducible exact LeO.none _)
    | (with_reducible refine LeO.ite ?_ ?_)
    | (with_reducible refine LeO.bind ?_ (fun _ => ?_))
    | exact ih0 _ _ _ _ _ _ _ _ _ _
    | exact ih1 _ _ _ _ _ _ _
    | exact ih2 _ _ _ _ _ _ _ _ _ _ _ _ _ _ _ _ _
    | exact ih3 _ _ _ _ _ _ _ _ _ _ _ _ _ _ _ _ _ _
    | exact ih4 _ _ _ _ _ _ _ _ _ _ _ _ _ _ _
    | exact ih5 _ _ _ _ _ _ _ _ _ _ _ _ _ _ _
    | exact ih6 _ _ _ _ _ _
    | exact ih7 _ _ _ _ _ _ _
    | exact table_Apply.mono _ _ _ _ _
    | exact table_Check.mono _ _
    | exact table_Merge.mono _ _ _
    | exact table_Same.mono _ _ _
    | exact tattleref02_Same.mono _ _ _
    | exact tattleref06_Behind.mono _ _ _
    | exact tattleref06_May.mono _ _
    | exact tattleref06_Merge.mono _ _ _
    | exact tattleref06_Others.mono _ _ _
    | exact tattleref06_Same.mono _ _ _
    | exact tattleref06_Up.mono _ _
    | exact LeO.none _
    | refine LeO.ite ?_ ?_
    | refine LeO.bind ?_ (fun _ => ?_)
   ·intro y0 y1 y2 y3 y4 y5 y6 y7 y8 y9 y10 y11 y12 y13 y14 y15 y16
    unfold tattlelaw06_TableTells.j2
    repeat' first
    | (with_reducible exact ih0 _ _ _ _ _ _ _ _ _ _)
    | (with_reducible exact ih1 _ _ _ _ _ _ _)
    | (with_reducible exact ih2 _ _ _ _ _ _ _ _ _ _ _ _ _ _ _ _ _)
    | (with_reducible exact ih3 _ _ _ _ _ _ _ _ _ _ _ _ _ _ _ _ _ _)
    | (with_reducible exact ih4 _ _ _ _ _ _ _ _ _ _ _ _ _ _ _)
    | (with_reducible exact ih5 _ _ _ _ _ _ _ _ _ _ _ _ _ _ _)
    | (with_reducible exact ih6 _ _ _ _ _ _)
    | (with_reducible exact ih7 _ _ _ _ _ _ _)
    | (with_reducible exact table_Apply.mono _ _ _ _ _)
    | (with_reducible exact table_Check.mono _ _)
    | (with_reducible exact table_Merge.mono _ _ _)
    | (with_reducible exact table_Same.mono _ _ _)
    | (with_reducible exact tattleref02_Same.mono _ _ _)
    | (with_reducible exact tattleref06_Behind.mono _ _ _)
    | (with_reducible exact tattleref06_May.mono _ _)
    | (with_reducible exact tattleref06_Merge.mono _ _ _)
    | (with_reducible exact tattleref06_Others.mono _ _ _)
    | (with_reducible exact tattleref06_Same.mono _ _ _)
    | (with_reducible exact tattleref06_Up.mono _ _)
    | (with_reducible exact LeO.refl _)
    | (with_reducible exact LeO.none _)
    | (with_reducible refine LeO.ite ?_ ?_)
    | (with_reducible refine LeO.bind ?_ (fun _ => ?_))
    | exact ih0 _ _ _ _ _ _ _ _ _ _
    | exact ih1 _ _ _ _ _ _ _
    | exact ih2 _ _ _ _ _ _ _ _ _ _ _ _ _ _ _ _ _
    | exact ih3 _ _ _ _ _ _ _ _ _ _ _ _ _ _ _ _ _ _
    | exact ih4 _ _ _ _ _ _ _ _ _ _ _ _ _ _ _
    | exact ih5 _ _ _ _ _ _ _ _ _ _ _ _ _ _ _
    | exact ih6 _ _ _ _ _ _
    | exact ih7 _ _ _ _ _ _ _
    | exact table_Apply.mono _ _ _ _ _
    | exact table_Check.mono _ _
    | exact table_Merge.mono _ _ _
    | exact table_Same.mono _ _ _
    | exact tattleref02_Same.mono _ _ _
    | exact tattleref06_Behind.mono _ _ _
    | exact tattleref06_May.mono _ _
    | exact tattleref06_Merge.mono _ _ _
    | exact tattleref06_Others.mono _ _ _
    | exact tattleref06_Same.mono _ _ _
    | exact tattleref06_Up.mono _ _
    | exact LeO.none _
    | refine LeO.ite ?_ ?_
    | refine LeO.bind ?_ (fun _ => ?_)
   ·intro y0 y1 y2 y3 y4 y5 y6 y7 y8 y9 y10 y11 y12 y13 y14 y15 y16 y17
    unfold tattlelaw06_TableTells.j3
    repeat' first
    | (with_reducible exact ih0 _ _ _ _ _ _ _ _ _ _)
    | (with_reducible exact ih1 _ _ _ _ _ _ _)
    | (with_reducible exact ih2 _ _ _ _ _ _ _ _ _ _ _ _ _ _ _ _ _)
    | (with_reducible exact ih3 _ _ _ _ _ _ _ _ _ _ _ _ _ _ _ _ _ _)
    | (with_reducible exact ih4 _ _ _ _ _ _ _ _ _ _ _ _ _ _ _)
    | (with_reducible exact ih5 _ _ _ _ _ _ _ _ _ _ _ _ _ _ _)
    | (with_reducible exact ih6 _ _ _ _ _ _)
    | (with_reducible exact ih7 _ _ _ _ _ _ _)
    | (with_reducible exact table_Apply.mono _ _ _ _ _)
    | (with_reducible exact table_Check.mono _ _)
    | (with_reducible exact table_Merge.mono _ _ _)
    | (with_reducible exact table_Same.mono _ _ _)
    | (with_reducible exact tattleref02_Same.mono _ _ _)
    | (with_reducible exact tattleref06_Behind.mono _ _ _)
    | (with_reducible exact tattleref06_May.mono _ _)
    | (with_reducible exact tattleref06_Merge.mono _ _ _)
    | (with_reducible exact tattleref06_Others.mono _ _ _)
    | (with_reducible exact tattleref06_Same.mono _ _ _)
    | (with_reducible exact tattleref06_Up.mono _ _)
    | (with_reducible exact LeO.refl _)
    | (with_reducible exact LeO.none _)
    | (with_reducible refine LeO.ite ?_ ?_)
    | (with_reducible refine LeO.bind ?_ (fun _ => ?_))
    | exact ih0 _ _ _ _ _ _ _ _ _ _
    | exact ih1 _ _ _ _ _ _ _
    | exact ih2 _ _ _ _ _ _ _ _ _ _ _ _ _ _ _ _ _
    | exact ih3 _ _ _ _ _ _ _ _ _ _ _ _ _ _ _ _ _ _
    | exact ih4 _ _ _ _ _ _ _ _ _ _ _ _ _ _ _
    | exact ih5 _ _ _ _ _ _ _ _ _ _ _ _ _ _ _
    | exact ih6 _ _ _ _ _ _
    | exact ih7 _ _ _ _ _ _ _
    | exact table_Apply.mono _ _ _ _ _
    | exact table_Check.mono _ _
    | exact table_Merge.mono _ _ _
    | exact table_Same.mono _ _ _
    | exact tattleref02_Same.mono _ _ _
    | exact tattleref06_Behind.mono _ _ _
    | exact tattleref06_May.mono _ _
    | exact tattleref06_Merge.mono _ _ _
    | exact tattleref06_Others.mono _ _ _
    | exact tattleref06_Same.mono _ _ _
    | exact tattleref06_Up.mono _ _
    | exact LeO.none _
    | refine LeO.ite ?_ ?_
    | refine LeO.bind ?_ (fun _ => ?_)
   ·intro y0 y1 y2 y3 y4 y5 y6 y7 y8 y9 y10 y11 y12 y13 y14
    unfold tattlelaw06_TableTells.j4
    repeat' first
    | (with_reducible exact ih0 _ _ _ _ _ _ _ _ _ _)
    | (with_reducible exact ih1 _ _ _ _ _ _ _)
    | (with_reducible exact ih2 _ _ _ _ _ _ _ _ _ _ _ _ _ _ _ _ _)
    | (with_reducible exact ih3 _ _ _ _ _ _ _ _ _ _ _ _ _ _ _ _ _ _)
    | (with_reducible exact ih4 _ _ _ _ _ _ _ _ _ _ _ _ _ _ _)
    | (with_reducible exact ih5 _ _ _ _ _ _ _ _ _ _ _ _ _ _ _)
    | (with_reducible exact ih6 _ _ _ _ _ _)
    | (with_reducible exact ih7 _ _ _ _ _ _ _)
    | (with_reducible exact table_Apply.mono _ _ _ _ _)
    | (with_reducible exact table_Check.mono _ _)
    | (with_reducible exact table_Merge.mono _ _ _)
    | (with_reducible exact table_Same.mono _ _ _)
    | (with_reducible exact tattleref02_Same.mono _ _ _)
    | (with_reducible exact tattleref06_Behind.mono _ _ _)
    | (with_reducible exact tattleref06_May.mono _ _)
    | (with_reducible exact tattleref06_Merge.mono _ _ _)
    | (with_reducible exact tattleref06_Others.mono _ _ _)
    | (with_reducible exact tattleref06_Same.mono _ _ _)
    | (with_reducible exact tattleref06_Up.mono _ _)
    | (with_reducible exact LeO.refl _)
    | (with_reducible exact LeO.none _)
    | (with_reducible refine LeO.ite ?_ ?_)
    | (with_reducible refine LeO.bind ?_ (fun _ => ?_))
    | exact ih0 _ _ _ _ _ _ _ _ _ _
    | exact ih1 _ _ _ _ _ _ _
    | exact ih2 _ _ _ _ _ _ _ _ _ _ _ _ _ _ _ _ _
    | exact ih3 _ _ _ _ _ _ _ _ _ _ _ _ _ _ _ _ _ _
    | exact ih4 _ _ _ _ _ _ _ _ _ _ _ _ _ _ _
    | exact ih5 _ _ _ _ _ _ _ _ _ _ _ _ _ _ _
    | exact ih6 _ _ _ _ _ _
    | exact ih7 _ _ _ _ _ _ _
    | exact table_Apply.mono _ _ _ _ _
    | exact table_Check.mono _ _
    | exact table_Merge.mono _ _ _
    | exact table_Same.mono _ _ _
    | exact tattleref02_Same.mono _ _ _
    | exact tattleref06_Behind.mono _ _ _
    | exact tattleref06_May.mono _ _
    | exact tattleref06_Merge.mono _ _ _
    | exact tattleref06_Others.mono _ _ _
    | exact tattleref06_Same.mono _ _ _
    | exact tattleref06_Up.mono _ _
    | exact LeO.none _
    | refine LeO.ite ?_ ?_
    | refine LeO.bind ?_ (fun _ => ?_)
   ·intro y0 y1 y2 y3 y4 y5 y6 y7 y8 y9 y10 y11 y12 y13 y14
    unfold tattlelaw06_TableTells.j5
    repeat' first
    | (with_reducible exact ih0 _ _ _ _ _ _ _ _ _ _)
    | (with_reducible exact ih1 _ _ _ _ _ _ _)
    | (with_reducible exact ih2 _ _ _ _ _ _ _ _ _ _ _ _ _ _ _ _ _)
    | (with_reducible exact ih3 _ _ _ _ _ _ _ _ _ _ _ _ _ _ _ _ _ _)
    | (with_reducible exact ih4 _ _ _ _ _ _ _ _ _ _ _ _ _ _ _)
    | (with_reducible exact ih5 _ _ _ _ _ _ _ _ _ _ _ _ _ _ _)
    | (with_reducible exact ih6 _ _ _ _ _ _)
    | (with_reducible exact ih7 _ _ _ _ _ _ _)
    | (with_reducible exact table_Apply.mono _ _ _ _ _)
    | (with_reducible exact table_Check.mono _ _)
    | (with_reducible exact table_Merge.mono _ _ _)
    | (with_reducible exact table_Same.mono _ _ _)
    | (with_reducible exact tattleref02_Same.mono _ _ _)
    | (with_reducible exact tattleref06_Behind.mono _ _ _)
    | (with_reducible exact tattleref06_May.mono _ _)
    | (with_reducible exact tattleref06_Merge.mono _ _ _)
    | (with_reducible exact tattleref06_Others.mono _ _ _)
    | (with_reducible exact tattleref06_Same.mono _ _ _)
    | (with_reducible exact tattleref06_Up.mono _ _)
    | (with_reducible exact LeO.refl _)
    | (with_reducible exact LeO.none _)
    | (with_reducible refine LeO.ite ?_ ?_)
    | (with_reducible refine LeO.bind ?_ (fun _ => ?_))
    | exact ih0 _ _ _ _ _ _ _ _ _ _
    | exact ih1 _ _ _ _ _ _ _
    | exact ih2 _ _ _ _ _ _ _ _ _ _ _ _ _ _ _ _ _
    | exact ih3 _ _ _ _ _ _ _ _ _ _ _ _ _ _ _ _ _ _
    | exact ih4 _ _ _ _ _ _ _ _ _ _ _ _ _ _ _
    | exact ih5 _ _ _ _ _ _ _ _ _ _ _ _ _ _ _
    | exact ih6 _ _ _ _ _ _
    | exact ih7 _ _ _ _ _ _ _
    | exact table_Apply.mono _ _ _ _ _
    | exact table_Check.mono _ _
    | exact table_Merge.mono _ _ _
    | exact table_Same.mono _ _ _
    | exact tattleref02_Same.mono _ _ _
    | exact tattleref06_Behind.mono _ _ _
    | exact tattleref06_May.mono _ _
    | exact tattleref06_Merge.mono _ _ _
    | exact tattleref06_Others.mono _ _ _
    | exact tattleref06_Same.mono _ _ _
    | exact tattleref06_Up.mono _ _
    | exact LeO.none _
    | refine LeO.ite ?_ ?_
    | refine LeO.bind ?_ (fun _ => ?_)
   ·intro y0 y1 y2 y3 y4 y5
    unfold tattlelaw06_TableTells.j6
    repeat' first
    | (with_reducible exact ih0 _ _ _ _ _ _ _ _ _ _)
    | (with_reducible exact ih1 _ _ _ _ _ _ _)
    | (with_reducible exact ih2 _ _ _ _ _ _ _ _ _ _ _ _ _ _ _ _ _)
    | (with_reducible exact ih3 _ _ _ _ _ _ _ _ _ _ _ _ _ _ _ _ _ _)
    | (with_reducible exact ih4 _ _ _ _ _ _ _ _ _ _ _ _ _ _ _)
    | (with_reducible exact ih5 _ _ _ _ _ _ _ _ _ _ _ _ _ _ _)
    | (with_reducible exact ih6 _ _ _ _ _ _)
    | (with_reducible exact ih7 _ _ _ _ _ _ _)
    | (with_reducible exact table_Apply.mono _ _ _ _ _)
    | (with_reducible exact table_Check.mono _ _)
    | (with_reducible exact table_Merge.mono _ _ _)
    | (with_reducible exact table_Same.mono _ _ _)
    | (with_reducible exact tattleref02_Same.mono _ _ _)
    | (with_reducible exact tattleref06_Behind.mono _ _ _)
    | (with_reducible exact tattleref06_May.mono _ _)
    | (with_reducible exact tattleref06_Merge.mono _ _ _)
    | (with_reducible exact tattleref06_Others.mono _ _ _)
    | (with_reducible exact tattleref06_Same.mono _ _ _)
    | (with_reducible exact tattleref06_Up.mono _ _)
    | (with_reducible exact LeO.refl _)
    | (with_reducible exact LeO.none _)
    | (with_reducible refine LeO.ite ?_ ?_)
    | (with_reducible refine LeO.bind ?_ (fun _ => ?_))
    | exact ih0 _ _ _ _ _ _ _ _ _ _
    | exact ih1 _ _ _ _ _ _ _
    | exact ih2 _ _ _ _ _ _ _ _ _ _ _ _ _ _ _ _ _
    | exact ih3 _ _ _ _ _ _ _ _ _ _ _ _ _ _ _ _ _ _
    | exact ih4 _ _ _ _ _ _ _ _ _ _ _ _ _ _ _
    | exact ih5 _ _ _ _ _ _ _ _ _ _ _ _ _ _ _
    | exact ih6 _ _ _ _ _ _
    | exact ih7 _ _ _ _ _ _ _
    | exact table_Apply.mono _ _ _ _ _
    | exact table_Check.mono _ _
    | exact table_Merge.mono _ _ _
    | exact table_Same.mono _ _ _
    | exact tattleref02_Same.mono _ _ _
    | exact tattleref06_Behind.mono _ _ _
    | exact tattleref06_May.mono _ _
    | exact tattleref06_Merge.mono _ _ _
    | exact tattleref06_Others.mono _ _ _
    | exact tattleref06_Same.mono _ _ _
    | exact tattleref06_Up.mono _ _
    | exact LeO.none _
    | refine LeO.ite ?_ ?_
    | refine LeO.bind ?_ (fun _ => ?_)
   ·intro y0 y1 y2 y3 y4 y5 y6
    unfold tattlelaw06_TableTells.j7
    repeat' first
    | (with_reducible exact ih0 _ _ _ _ _ _ _ _ _ _)
    | (with_reducible exact ih1 _ _ _ _ _ _ _)
    | (with_reducible exact ih2 _ _ _ _ _ _ _ _ _ _ _ _ _ _ _ _ _)
    | (with_reducible exact ih3 _ _ _ _ _ _ _ _ _ _ _ _ _ _ _ _ _ _)
    | (with_reducible exact ih4 _ _ _ _ _ _ _ _ _ _ _ _ _ _ _)
    | (with_reducible exact ih5 _ _ _ _ _ _ _ _ _ _ _ _ _ _ _)
    | (with_reducible exact ih6 _ _ _ _ _ _)
    | (with_reducible exact ih7 _ _ _ _ _ _ _)
    | (with_reducible exact table_Apply.mono _ _ _ _ _)
    | (with_reducible exact table_Check.mono _ _)
    | (with_reducible exact table_Merge.mono _ _ _)
    | (with_reducible exact table_Same.mono _ _ _)
    | (with_reducible exact tattleref02_Same.mono _ _ _)
    | (with_reducible exact tattleref06_Behind.mono _ _ _)
    | (with_reducible exact tattleref06_May.mono _ _)
    | (with_reducible exact tattleref06_Merge.mono _ _ _)
    | (with_reducible exact tattleref06_Others.mono _ _ _)
    | (with_reducible exact tattleref06_Same.mono _ _ _)
    | (with_reducible exact tattleref06_Up.mono _ _)
    | (with_reducible exact LeO.refl _)
    | (with_reducible exact LeO.none _)
    | (with_reducible refine LeO.ite ?_ ?_)
    | (with_reducible refine LeO.bind ?_ (fun _ => ?_))
    | exact ih0 _ _ _ _ _ _ _ _ _ _
    | exact ih1 _ _ _ _ _ _ _
    | exact ih2 _ _ _ _ _ _ _ _ _ _ _ _ _ _ _ _ _
    | exact ih3 _ _ _ _ _ _ _ _ _ _ _ _ _ _ _ _ _ _
    | exact ih4 _ _ _ _ _ _ _ _ _ _ _ _ _ _ _
    | exact ih5 _ _ _ _ _ _ _ _ _ _ _ _ _ _ _
    | exact ih6 _ _ _ _ _ _
    | exact ih7 _ _ _ _ _ _ _
    | exact table_Apply.mono _ _ _ _ _
    | exact table_Check.mono _ _
    | exact table_Merge.mono _ _ _
    | exact table_Same.mono _ _ _
    | exact tattleref02_Same.mono _ _ _
    | exact tattleref06_Behind.mono _ _ _
    | exact tattleref06_May.mono _ _
    | exact tattleref06_Merge.mono _ _ _
    | exact tattleref06_Others.mono _ _ _
    | exact tattleref06_Same.mono _ _ _
    | exact tattleref06_Up.mono _ _
    | exact LeO.none _
    | refine LeO.ite ?_ ?_
    | refine LeO.bind ?_ (fun _ => ?_)
theorem tattlelaw06_TableTells.mono : ∀ a0 a1 a2 a3 a4 k,LeO (tattlelaw06_TableTells.f k a0 a1 a2 a3 a4) (tattlelaw06_TableTells.f (k + 1) a0 a1 a2 a3 a4) := by
  intro a0 a1 a2 a3 a4 k
  obtain ⟨ih0,ih1,ih2,ih3,ih4,ih5,ih6,ih7⟩ := tattlelaw06_TableTells.mono_l k
  unfold tattlelaw06_TableTells.f
  repeat' first
    | (with_reducible exact ih0 _ _ _ _ _ _ _ _ _ _)
    | (with_reducible exact ih1 _ _ _ _ _ _ _)
    | (with_reducible exact ih2 _ _ _ _ _ _ _ _ _ _ _ _ _ _ _ _ _)
    | (with_reducible exact ih3 _ _ _ _ _ _ _ _ _ _ _ _ _ _ _ _ _ _)
    | (with_reducible exact ih4 _ _ _ _ _ _ _ _ _ _ _ _ _ _ _)
    | (with_reducible exact ih5 _ _ _ _ _ _ _ _ _ _ _ _ _ _ _)
    | (with_reducible exact ih6 _ _ _ _ _ _)
    | (with_reducible exact ih7 _ _ _ _ _ _ _)
    | (with_reducible exact table_Apply.mono _ _ _ _ _)
    | (with_reducible exact table_Check.mono _ _)
    | (with_reducible exact table_Merge.mono _ _ _)
    | (with_reducible exact table_Same.mono _ _ _)
    | (with_reducible exact tattleref02_Same.mono _ _ _)
    | (with_reducible exact tattleref06_Behind.mono _ _ _)
    | (with_reducible exact tattleref06_May.mono _ _)
    | (with_reducible exact tattleref06_Merge.mono _ _ _)
    | (with_reducible exact tattleref06_Others.mono _ _ _)
    | (with_reducible exact tattleref06_Same.mono _ _ _)
    | (with_reducible exact tattleref06_Up.mono _ _)
    | (with_reducible exact LeO.refl _)
    | (with_reducible exact LeO.none _)
    | (with_reducible refine LeO.ite ?_ ?_)
    | (with_reducible refine LeO.bind ?_ (fun _ => ?_))
    | exact ih0 _ _ _ _ _ _ _ _ _ _
    | exact ih1 _ _ _ _ _ _ _
    | exact ih2 _ _ _ _ _ _ _ _ _ _ _ _ _ _ _ _ _
    | exact ih3 _ _ _ _ _ _ _ _ _ _ _ _ _ _ _ _ _ _
    | exact ih4 _ _ _ _ _ _ _ _ _ _ _ _ _ _ _
    | exact ih5 _ _ _ _ _ _ _ _ _ _ _ _ _ _ _
    | exact ih6 _ _ _ _ _ _
    | exact ih7 _ _ _ _ _ _ _
    | exact table_Apply.mono _ _ _ _ _
    | exact table_Check.mono _ _
    | exact table_Merge.mono _ _ _
    | exact table_Same.mono _ _ _
    | exact tattleref02_Same.mono _ _ _
    | exact tattleref06_Behind.mono _ _ _
    | exact tattleref06_May.mono _ _
    | exact tattleref06_Merge.mono _ _ _
    | exact tattleref06_Others.mono _ _ _
    | exact tattleref06_Same.mono _ _ _
    | exact tattleref06_Up.mono _ _
    | exact LeO.none _
    | refine LeO.ite ?_ ?_
    | refine LeO.bind ?_ (fun _ => ?_)
def tattlelaw06_TableTells.T1 : Bool × List (List Nat × List Nat) := (true,[([],[]),([0],[0]),([1],[1]),([],[]),([3],[3]),([4,2],[4]),([2,5,0,1,2],[2]),([5,6,0,1,2,3,4,5,6],[5])])
def tattlelaw06_TableTells.B1 : List Nat := [0,1,3,0,8,31,63,127]
theorem tattlelaw06_TableTells.tab1 : rtab .any (opsOf Try.f14 1) = tattlelaw06_TableTells.T1 := by kernel_rfl
theorem tattlelaw06_TableTells.bits1 : waitsOk tattlelaw06_TableTells.T1.2 tattlelaw06_TableTells.B1 = true := by kernel_rfl
def tattlelaw06_TableTells.T17 : Bool × List (List Nat × List Nat) := (true,[([],[]),([0],[0]),([],[]),([1,2,1],[1,2]),([3],[3]),([4,3],[4]),([5],[5]),([5],[5]),([7,5],[5,7]),([6,8,5,5],[5,6,8]),([5],[5]),([5],[5]),([11,5],[5,11]),([10,12,9,5],[5,10,12]),([9,13,13,5],[5,9,13]),([14,5],[5,14]),([5,15],[5,15])])
def tattlelaw06_TableTells.B17 : List Nat := [0,1,0,7,15,31,63,63,191,511,63,63,2111,8191,16383,32767,65535]
theorem tattlelaw06_TableTells.tab17 : rtab .any (opsOf Try.f14 17) = tattlelaw06_TableTells.T17 := by kernel_rfl
theorem tattlelaw06_TableTells.bits17 : waitsOk tattlelaw06_TableTells.T17.2 tattlelaw06_TableTells.B17 = true := by kernel_rfl
set_option maxHeartbeats 8000000 in
set_option maxRecDepth 100000 in
theorem tattlelaw06_TableTells.calls (k : Nat) (Q2 : Option Addr) (Q3 : Nat) (Qi : List (S26)) (Q4 : Option Addr) (Q5 : Nat) (Qh : List (S26)) (Qc : Int) (Qj : Int) (Qk : Int) (r : Bool) (w : World) (D2 : Kd.C k26 w Q2 Qi.length Qi) (D3 : Qi.length ≤ Q3) (D4 : Kd.C k26 w Q4 Qh.length Qh) (D5 : Qh.length ≤ Q5) (hrt : Aside0 (r = true)) (h : tattlelaw06_TableTells.f k Qi Qh Qc Qj Qk = some r) :
   Calls Try.prog 14 #[.agg #[.slice Q2 Qi.length Q3,.slice Q4 Qh.length Q5,.int .i64 Qc,.int .u64 Qj,.int .i64 Qk]] w fun e w' => e = .returned (.bool r) ∧ Below w.heap.size w w' := by
  have Py := Try.underlying69
  have Pz := Try.underlying26
  have G2 := qr D2
  have G3 := qr D3
  clear D2 D3
  have G4 := qr D4
  have G5 := qr D5
  clear D4 D5
  have HB := qr (Below.refl w.heap.size w)
  have H : ((tattlelaw06_Few.f Qi).bind fun Qb => ((tattlelaw06_Few.f Qh).bind fun Qg => ((table_New.f Qc).bind fun Zi => (if Qc < 1 then (tattlelaw06_TableTells.j0 k Qb Qg Zi.1 Zi.2 true Qi Qh Qc Qj Qk) else (tattlelaw06_TableTells.j0 k Qb Qg Zi.1 Zi.2 (decide (Qc > 64)) Qi Qh Qc Qj Qk))))) = some r := h
  clear h
  replace H := Option.bind_eq_some_iff.mp H
  obtain ⟨Qb,A20,H⟩ := H
  replace H : ((tattlelaw06_Few.f Qh).bind fun Qg => ((table_New.f Qc).bind fun Zi => (if Qc < 1 then (tattlelaw06_TableTells.j0 k Qb Qg Zi.1 Zi.2 true Qi Qh Qc Qj Qk) else (tattlelaw06_TableTells.j0 k Qb Qg Zi.1 Zi.2 (decide (Qc > 64)) Qi Qh Qc Qj Qk)))) = some r := H
  have A2 := qr A20
  clear A20
  replace H := Option.bind_eq_some_iff.mp H
  obtain ⟨Qg,A30,H⟩ := H
  replace H : ((table_New.f Qc).bind fun Zi => (if Qc < 1 then (tattlelaw06_TableTells.j0 k Qb Qg Zi.1 Zi.2 true Qi Qh Qc Qj Qk) else (tattlelaw06_TableTells.j0 k Qb Qg Zi.1 Zi.2 (decide (Qc > 64)) Qi Qh Qc Qj Qk))) = some r := H
  have A3 := qr A30
  clear A30
  replace H := Option.bind_eq_some_iff.mp H
  obtain ⟨⟨Xr,Xa⟩,A40,H⟩ := H
  replace H : (if Qc < 1 then (tattlelaw06_TableTells.j0 k Qb Qg Xr Xa true Qi Qh Qc Qj Qk) else (tattlelaw06_TableTells.j0 k Qb Qg Xr Xa (decide (Qc > 64)) Qi Qh Qc Qj Qk)) = some r := H
  have A4 := qr A40
  clear A40
  have HC5 := qr H
  clear H
  go_enter Try.func14,Try.ntmps14
  try go_wp2_with (first | ((with_reducible refine gate_dst (N := 1) rfl ?_);(try (refine gate_guard (by rfl) ?_;dsimp only));refine box_event ?hg (N := 1) ?hd (cs := #[.slice Q2 Qi.length Q3,.slice Q4 Qh.length Q5,.int .i64 Qc,.int .u64 Qj,.int .i64 Qk]) (t := 69) ?hr ?_;(case hd => rfl);(case hg => rfl);(case hr => first | (go_simp;done) | (go_simp;rfl));intro Qd hg w6 hbox hb;have n0_ := qr (qz (by repeat (first | (with_reducible first | exact HB.out | apply qe | apply qf | apply qg) | exact HB.out)) hb);have n1_ := qr (hbox);have n2_ := qr ((by rw [hg];exact (below_size (by repeat (first | (with_reducible first | exact HB.out | apply qe | apply qf | apply qg) | exact HB.out))) : w.heap.size ≤ Qd));have n3_ := qr ((by rw [hg];exact (below_size (by repeat (first | (with_reducible first | exact HB.out | apply qe | apply qf | apply qg) | exact HB.out))) : w.heap.size ≤ Qd));clear HB;have HB := n0_;have Qa := n1_;have D6 := n2_;have Qn := n3_;clear n0_ n1_ n2_ n3_;clear hb hbox hg))
  have n0_ := qr (qb Qa.out)
  have n1_ := qr (qg HB.out)
  clear Qa
  clear HB
  have Qa := n0_
  have HB := n1_
  clear n0_ n1_
  refine start_ (n := 8) (S := fun w' => w'.cell? ⟨Qd,0,none⟩ = some (.slice Q2 Qi.length Q3) ∧ w'.cell? ⟨Qd,1,none⟩ = some (.slice Q4 Qh.length Q5) ∧ w'.cell? ⟨Qd,2,none⟩ = some (.int .i64 Qc) ∧ w'.cell? ⟨Qd,3,none⟩ = some (.int .u64 Qj) ∧ w'.cell? ⟨Qd,4,none⟩ = some (.int .i64 Qk)) (ds := []) #[false,false,false,false,false,false,false,false] (by kernel_rfl) rfl rfl ⟨(qw Qa.out 0).trans rfl,(qw Qa.out 1).trans rfl,(qw Qa.out 2).trans rfl,(qw Qa.out 3).trans rfl,(qw Qa.out 4).trans rfl⟩ (fun hHeld => ?_);refine with_tabW tattlelaw06_TableTells.tab1 tattlelaw06_TableTells.bits1 (fun HT_ HW_ => ?_)
  generalize w6.drew = w7 at Qa HB hHeld ⊢
  refine zf (i := 0) (N := some 18) (v := ?_) (a' := ?_) #[true,false,false,false,false,false,false,false] rfl rfl (any_of HT_.out (by kernel_rfl)) (fun _ _ _ h => h) (Or.inl ⟨by rfl,?_⟩) ?_ ?_
  rotate_left
  ·intro w'
   go_simp
   with_reducible rfl
  rotate_left
  ·simp only [Act.put,qs,qt,qu,i64_w,i32_w]
   rfl
  refine zf (i := 3) (N := some 21) (v := ?_) (a' := ?_) #[true,false,false,true,false,false,false,false] rfl rfl (any_of HT_.out (by kernel_rfl)) (fun _ _ _ h => h) (Or.inl ⟨by rfl,?_⟩) ?_ ?_
  rotate_left
  ·intro w'
   go_simp
   with_reducible rfl
  rotate_left
  ·simp only [Act.put,qs,qt,qu,i64_w,i32_w]
   rfl
  refine take_ (i := 1) (N := some 19) (v := ?_) (a' := ?_) #[true,true,false,true,false,false,false,false] rfl rfl (take_ofW HT_.out HW_.out (by kernel_rfl)) (fun _ _ _ h => h) (Or.inl ⟨by rfl,?_⟩) hHeld ?_ ?_
  rotate_left
  ·rintro w' ⟨s0,s1,s2,s3,s4⟩
   go_simp
   with_reducible rfl
  rotate_left
  ·simp only [Act.put,qs,qt,qu,i64_w,i32_w]
   rfl
  refine take_ (i := 4) (N := some 22) (v := ?_) (a' := ?_) #[true,true,false,true,true,false,false,false] rfl rfl (take_ofW HT_.out HW_.out (by kernel_rfl)) (fun _ _ _ h => h) (Or.inl ⟨by rfl,?_⟩) hHeld ?_ ?_
  rotate_left
  ·rintro w' ⟨s0,s1,s2,s3,s4⟩
   go_simp
   with_reducible rfl
  rotate_left
  ·simp only [Act.put,qs,qt,qu,i64_w,i32_w]
   rfl
  refine one_ (i := 2) (N := some 20) #[true,true,true,true,true,false,false,false] rfl rfl (one_of HT_.out (by kernel_rfl)) (by decide) (fun K hK => ?_)
  refine zn Try.func26 (by kernel_rfl) rfl #[.slice Q2 Qi.length Q3] (by rfl) rfl rfl (by (try simp only [zc,zd,ze]);first | done | rfl | (simp only [za,zb];rfl)) ?_
  with_reducible refine (tattlelaw06_Few.calls (fun k_ => k_ < w.heap.size) _ _ Qi Qb _ ?Qo A2.out).mono ?_
  (case Qo => exact Kd.V_mk G3.out (Kd.F_below (Kd.C_F k26_heap G2.out) (by repeat (first | (with_reducible first | exact HB.out | apply qe | apply qf | apply qg | refine qd ?_ Qn.out) | exact HB.out))))
  rintro e w8 ⟨G6,rfl,ho0,hb⟩
  refine ⟨_,rfl,?_⟩
  have n0_ := qr (Kd.V_lower (qn (ok' := fun k_ => k_ ≠ Qd) ho0 (fun k_ hk_ => Or.elim hk_ (fun hs_ => fun e_ => Nat.not_le.2 hs_ (by rw [e_];exact D6.out)) (fun hn_ => (Kd.freshB (g := Qd) (o := .cells #[.slice Q2 Qi.length Q3,.slice Q4 Qh.length Q5,.int .i64 Qc,.int .u64 Qj,.int .i64 Qk] 69 (0,0)) (by (with_reducible repeat (first | refine qa ?_ _ | refine qb ?_ | refine qc ?_ _));exact Qa.out) k_ hn_)))) (below_size (by repeat (first | (with_reducible first | exact HB.out | apply qe | apply qf | apply qg | refine qd ?_ Qn.out) | exact HB.out))))
  have n1_ := qr (qv (g := Qd) (o := .cells #[.slice Q2 Qi.length Q3,.slice Q4 Qh.length Q5,.int .i64 Qc,.int .u64 Qj,.int .i64 Qk] 69 (0,0)) (by (with_reducible repeat (first | refine qa ?_ _ | refine qb ?_ | refine qc ?_ _));exact Qa.out) hb)
  have n2_ := qr (qz (by repeat (first | (with_reducible first | exact HB.out | apply qe | apply qf | apply qg | refine qd ?_ Qn.out) | exact HB.out)) hb)
  clear Qa
  clear HB
  have X1 := n0_
  have Qa := n1_
  have HB := n2_
  clear n0_ n1_ n2_
  (try clear hb)
  (try clear hb2)
  (try clear hk)
  (try clear hi)
  (try clear ho0)
  refine hK.out _ _ ⟨(qw Qa.out 0).trans rfl,(qw Qa.out 1).trans rfl,(qw Qa.out 2).trans rfl,(qw Qa.out 3).trans rfl,(qw Qa.out 4).trans rfl⟩ (fun hHeld => ?_)
  clear hK K
  refine zg (a' := ?_) ?_ ?_
  rotate_left
  ·show Act.put _ (some 20) _ = _
   simp only [Act.put,qs,qt,qu,i64_w,i32_w]
   rfl
  refine one_ (i := 5) (N := some 23) #[true,true,true,true,true,true,false,false] rfl rfl (one_of HT_.out (by kernel_rfl)) (by decide) (fun K hK => ?_)
  refine zn Try.func26 (by kernel_rfl) rfl #[.slice Q4 Qh.length Q5] (by rfl) rfl rfl (by (try simp only [zc,zd,ze]);first | done | rfl | (simp only [za,zb];rfl)) ?_
  with_reducible refine (tattlelaw06_Few.calls (fun k_ => k_ < w.heap.size) _ _ Qh Qg _ ?Qo A3.out).mono ?_
  (case Qo => exact Kd.V_mk G5.out (Kd.F_below (Kd.C_F k26_heap G4.out) (by repeat (first | (with_reducible first | exact HB.out | apply qe | apply qf | apply qg | refine qd ?_ Qn.out) | exact HB.out))))
  rintro e w9 ⟨G7,rfl,ho0,hb⟩
  refine ⟨_,rfl,?_⟩
  have n0_ := qr (qp (by (with_reducible repeat (first | apply qh | apply qi | apply qj));exact X1.out) hb)
  have n1_ := qr (Kd.V_lower (qn (ok' := fun k_ => k_ ≠ Qd) ho0 (fun k_ hk_ => Or.elim hk_ (fun hs_ => fun e_ => Nat.not_le.2 hs_ (by rw [e_];exact D6.out)) (fun hn_ => (Kd.freshB (g := Qd) (o := .cells #[.slice Q2 Qi.length Q3,.slice Q4 Qh.length Q5,.int .i64 Qc,.int .u64 Qj,.int .i64 Qk] 69 (0,0)) (by (with_reducible repeat (first | refine qa ?_ _ | refine qb ?_ | refine qc ?_ _));exact Qa.out) k_ hn_)))) (below_size (by repeat (first | (with_reducible first | exact HB.out | apply qe | apply qf | apply qg | refine qd ?_ Qn.out) | exact HB.out))))
  have n2_ := qr (qv (g := Qd) (o := .cells #[.slice Q2 Qi.length Q3,.slice Q4 Qh.length Q5,.int .i64 Qc,.int .u64 Qj,.int .i64 Qk] 69 (0,0)) (by (with_reducible repeat (first | refine qa ?_ _ | refine qb ?_ | refine qc ?_ _));exact Qa.out) hb)
  have n3_ := qr (qz (by repeat (first | (with_reducible first | exact HB.out | apply qe | apply qf | apply qg | refine qd ?_ Qn.out) | exact HB.out)) hb)
  clear X1
  clear Qa
  clear HB
  have X1 := n0_
  have J7 := n1_
  have Qa := n2_
  have HB := n3_
  clear n0_ n1_ n2_ n3_
  (try clear hb)
  (try clear hb2)
  (try clear hk)
  (try clear hi)
  (try clear ho0)
  refine hK.out _ _ ⟨(qw Qa.out 0).trans rfl,(qw Qa.out 1).trans rfl,(qw Qa.out 2).trans rfl,(qw Qa.out 3).trans rfl,(qw Qa.out 4).trans rfl⟩ (fun hHeld => ?_)
  clear hK K
  refine zg (a' := ?_) ?_ ?_
  rotate_left
  ·show Act.put _ (some 23) _ = _
   simp only [Act.put,qs,qt,qu,i64_w,i32_w]
   rfl
  refine zf (i := 6) (N := some 3) (v := ?_) (a' := ?_) #[true,true,true,true,true,true,true,false] rfl rfl (any_of HT_.out (by kernel_rfl)) (fun _ _ _ h => h) (Or.inl ⟨by rfl,?_⟩) ?_ ?_
  rotate_left
  ·intro w'
   go_simp
   with_reducible rfl
  rotate_left
  ·simp only [Act.put,qs,qt,qu,i64_w,i32_w]
   rfl
  refine zf (i := 7) (N := some 4) (v := ?_) (a' := ?_) #[true,true,true,true,true,true,true,true] rfl rfl (any_of HT_.out (by kernel_rfl)) (fun _ _ _ h => h) (Or.inl ⟨by rfl,?_⟩) ?_ ?_
  rotate_left
  ·intro w'
   go_simp
   with_reducible rfl
  rotate_left
  ·simp only [Act.put,qs,qt,qu,i64_w,i32_w]
   rfl
  refine done_ (done_of HT_.out (by kernel_rfl)) ?_
  have Y1 : w9.cell? ⟨Qd,0,none⟩ = some (.slice Q2 Qi.length Q3) := (qw Qa.out 0).trans rfl
  have Y2 : w9.cell? ⟨Qd,1,none⟩ = some (.slice Q4 Qh.length Q5) := (qw Qa.out 1).trans rfl
  have Y3 : w9.cell? ⟨Qd,2,none⟩ = some (.int .i64 Qc) := (qw Qa.out 2).trans rfl
  have Y4 : w9.cell? ⟨Qd,3,none⟩ = some (.int .u64 Qj) := (qw Qa.out 3).trans rfl
  have Y5 : w9.cell? ⟨Qd,4,none⟩ = some (.int .i64 Qk) := (qw Qa.out 4).trans rfl
  have Y6 := qx Qa.out 0
  have Y7 := qx Qa.out 1
  have Y8 := qx Qa.out 2
  have Y9 := qx Qa.out 3
  have Ja := qx Qa.out 4
  go_upto_region 3 with (first | ((with_reducible refine qy (f := 35) rfl ?_);refine zm (some 27) rfl rfl Try.func35 (by kernel_rfl) rfl #[.int .i64 Qc] rfl (by (try simp only [zc,zd,ze]);first | done | rfl | (simp only [za,zb];rfl)) ?_;(with_reducible refine (table_New.calls Qc Xr Xa _ A4.out).mono ?_);rintro e w11 ⟨Gr,rfl,ho0,hb⟩;refine ⟨_,rfl,?_⟩;have n0_ := qr (Kd.V_elder' (by (with_reducible repeat (first | apply qh | apply qi | apply qj));exact X1.out) (Kd.R_base ho0) hb);have n1_ := qr (Kd.V_elder' (by (with_reducible repeat (first | apply qh | apply qi | apply qj));exact J7.out) (Kd.R_base ho0) hb);have n2_ := qr (zi ho0 (below_size (by repeat (first | (with_reducible first | exact HB.out | apply qe | apply qf | apply qg | refine qd ?_ Qn.out) | exact HB.out))));have n3_ := qr (qv (g := Qd) (o := .cells #[.slice Q2 Qi.length Q3,.slice Q4 Qh.length Q5,.int .i64 Qc,.int .u64 Qj,.int .i64 Qk] 69 (0,0)) (by (with_reducible repeat (first | refine qa ?_ _ | refine qb ?_ | refine qc ?_ _));exact Qa.out) hb);have n4_ := qr (qz (by repeat (first | (with_reducible first | exact HB.out | apply qe | apply qf | apply qg | refine qd ?_ Qn.out) | exact HB.out)) hb);clear X1;clear J7;clear Qa;clear HB;have X1 := n0_;have J7 := n1_;have D7 := n2_;have Qa := n3_;have HB := n4_;clear n0_ n1_ n2_ n3_ n4_;(try clear hb);(try clear hb2);(try clear hk);(try clear hi);(try clear ho0)))
  (try simp only [Act.put,qs,qt,qu])
  go_cut [37] (fun v37 wc => ∃ (kq : Nat) (V3 : Bool),v37 = .bool V3 ∧ Aside0 (tattlelaw06_TableTells.j0 kq Qb Qg Xr Xa V3 Qi Qh Qc Qj Qk = some r) ∧ Aside0 (kq ≤ k) ∧ Aside0 (Kd.V k26 26 wc w.heap.size (fun k_ => some k_ ≠ (Gr : Value).ownBlock ∧ k_ ≠ Qd) G6 Qb) ∧ Aside0 (Kd.V k26 26 wc w.heap.size (fun k_ => some k_ ≠ (Gr : Value).ownBlock ∧ k_ ≠ Qd) G7 Qg) ∧ Aside0 (Kd.R k26 26 wc w.heap.size (fun _ => True) Gr Xr) ∧ Aside0 (wc.heap[Qd]? = some (.cells #[(.slice Q2 Qi.length Q3),(.slice Q4 Qh.length Q5),.int .i64 Qc,.int .u64 Qj,.int .i64 Qk] 69 (0,0))) ∧ Aside0 (Below w.heap.size w wc))
  case first => as_aux_lemma =>
   have H := HC5.out
   clear HC5
   by_cases c12 : Qc < 1
   ·rw [if_pos c12] at H
    have c12b0 : decide (Qc < 1) = true := decide_eq_true c12
    clear c12
    (first | rw [c12b0] | (simp only [i64_w,i32_w];rw [c12b0]) | skip)
    as_aux_lemma =>
     have H' := qr H
     clear H
     have Jb : w11.cell? ⟨Qd,0,none⟩ = some (.slice Q2 Qi.length Q3) := (qw Qa.out 0).trans rfl
     have Jc : w11.cell? ⟨Qd,1,none⟩ = some (.slice Q4 Qh.length Q5) := (qw Qa.out 1).trans rfl
     have Jd : w11.cell? ⟨Qd,2,none⟩ = some (.int .i64 Qc) := (qw Qa.out 2).trans rfl
     have Je : w11.cell? ⟨Qd,3,none⟩ = some (.int .u64 Qj) := (qw Qa.out 3).trans rfl
     have Jf : w11.cell? ⟨Qd,4,none⟩ = some (.int .i64 Qk) := (qw Qa.out 4).trans rfl
     have Jg := qx Qa.out 0
     have Jh := qx Qa.out 1
     have Ji := qx Qa.out 2
     have Jj := qx Qa.out 3
     have Zz := qx Qa.out 4
     go_wp2
     go_meet
     case rel => exact ⟨_,(true),(by first | rfl | (simp;done) | (simp [*];done)),H',⟨by first | omega | exact zh _⟩,⟨by (with_reducible repeat (first | apply qh | apply qi | apply qj));exact qn X1.out (fun _ hk => ⟨hk.2,hk.1⟩)⟩,⟨by (with_reducible repeat (first | apply qh | apply qi | apply qj));exact qn J7.out (fun _ hk => ⟨hk.2,hk.1⟩)⟩,⟨by (with_reducible repeat (first | apply qk | apply ql | apply qm));exact D7.out⟩,⟨by (with_reducible repeat (first | refine qa ?_ _ | refine qb ?_ | refine qc ?_ _));exact Qa.out⟩,⟨by repeat (first | (with_reducible first | exact HB.out | apply qe | apply qf | apply qg | refine qd ?_ Qn.out) | exact HB.out)⟩⟩
   ·rw [if_neg c12] at H
    have c12b0 : decide (Qc < 1) = false := decide_eq_false c12
    clear c12
    (first | rw [c12b0] | (simp only [i64_w,i32_w];rw [c12b0]) | skip)
    as_aux_lemma =>
     have H' := qr H
     clear H
     have Jk : w11.cell? ⟨Qd,0,none⟩ = some (.slice Q2 Qi.length Q3) := (qw Qa.out 0).trans rfl
     have Jl : w11.cell? ⟨Qd,1,none⟩ = some (.slice Q4 Qh.length Q5) := (qw Qa.out 1).trans rfl
     have Jm : w11.cell? ⟨Qd,2,none⟩ = some (.int .i64 Qc) := (qw Qa.out 2).trans rfl
     have Jn : w11.cell? ⟨Qd,3,none⟩ = some (.int .u64 Qj) := (qw Qa.out 3).trans rfl
     have Jo : w11.cell? ⟨Qd,4,none⟩ = some (.int .i64 Qk) := (qw Qa.out 4).trans rfl
     have Z0 := qx Qa.out 0
     have Z1 := qx Qa.out 1
     have Z2 := qx Qa.out 2
     have Z3 := qx Qa.out 3
     have Z4 := qx Qa.out 4
     go_wp2
     go_meet
     case rel => exact ⟨_,(decide (Qc > 64)),(by first | rfl | (simp;done) | (simp [*];done)),H',⟨by first | omega | exact zh _⟩,⟨by (with_reducible repeat (first | apply qh | apply qi | apply qj));exact qn X1.out (fun _ hk => ⟨hk.2,hk.1⟩)⟩,⟨by (with_reducible repeat (first | apply qh | apply qi | apply qj));exact qn J7.out (fun _ hk => ⟨hk.2,hk.1⟩)⟩,⟨by (with_reducible repeat (first | apply qk | apply ql | apply qm));exact D7.out⟩,⟨by (with_reducible repeat (first | refine qa ?_ _ | refine qb ?_ | refine qc ?_ _));exact Qa.out⟩,⟨by repeat (first | (with_reducible first | exact HB.out | apply qe | apply qf | apply qg | refine qd ?_ Qn.out) | exact HB.out)⟩⟩
  case rest => as_aux_lemma =>
   clear HC5
   try clear c1
   try clear c2
   try clear p2
   try clear c3
   try clear c12
   try clear c12b0
   try clear c14
   try clear Y1
   try clear Y2
   try clear Y3
   try clear Y4
   try clear Y5
   try clear Jb
   try clear Jc
   try clear Jd
   try clear Je
   try clear Jf
   try clear Jk
   try clear Jl
   try clear Jm
   try clear Jn
   try clear Jo
   try clear Y6
   try clear Y7
   try clear Y8
   try clear Y9
   try clear Ja
   try clear Jg
   try clear Jh
   try clear Ji
   try clear Jj
   try clear Zz
   try clear Z0
   try clear Z1
   try clear Z2
   try clear Z3
   try clear Z4
   obtain ⟨kq,V3,rfl,HA,HJ4,Qe,Qm,J8,Qa,HB⟩ := hcut
   cases kq with
   | zero => exact absurd HA.out (by simp [tattlelaw06_TableTells.j0])
   | succ kj4 =>
    have H := HA.out
    clear HA
    simp only [tattlelaw06_TableTells.j0] at H
    have Gs := qr H
    clear H
    go_upto_if 37 with (fail)
    go_cut [] (fun wc => ∃ (kq : Nat),Aside0 (tattlelaw06_TableTells.j1 kq Qb Qg Qi Qh Qc Qj Qk = some r) ∧ Aside0 (kq ≤ kj4) ∧ Aside0 (Kd.V k26 26 wc w.heap.size (fun k_ => k_ ≠ Qd) G6 Qb) ∧ Aside0 (Kd.V k26 26 wc w.heap.size (fun k_ => k_ ≠ Qd) G7 Qg) ∧ Aside0 (wc.heap[Qd]? = some (.cells #[(.slice Q2 Qi.length Q3),(.slice Q4 Qh.length Q5),.int .i64 Qc,.int .u64 Qj,.int .i64 Qk] 69 (0,0))) ∧ Aside0 (Below w.heap.size w wc))
    case first => as_aux_lemma =>
     have H := Gs.out
     clear Gs
     by_cases c16 : V3 = true
     ·subst c16
      have H1 : (if (Xr.length : Int) > 0 then (some false) else (if Xa = 1 then (tattlelaw06_TableTells.j1 kj4 Qb Qg Qi Qh Qc Qj Qk) else (some false))) = some r := by rw [if_pos rfl] at H;exact H
      clear H
      have H := H1
      clear H1
      by_cases c17 : (Xr.length : Int) > 0
      ·rw [if_pos c17] at H
       have c17b0 : decide (0 < (Xr.length : Int)) = true := decide_eq_true c17
       have c17b1 : decide (0 < Xr.length) = true := decide_eq_true (by omega)
       clear c17
       (first | rw [c17b0] | (simp only [i64_w,i32_w];rw [c17b0]) | skip)
       as_aux_lemma =>
        exact absurd ((Option.some.inj H).trans hrt.out) (by decide)
      ·rw [if_neg c17] at H
       have c17b0 : decide (0 < (Xr.length : Int)) = false := decide_eq_false c17
       have c17b1 : decide (0 < Xr.length) = false := decide_eq_false (by omega)
       clear c17
       (first | rw [c17b0] | (simp only [i64_w,i32_w];rw [c17b0]) | skip)
       by_cases c18 : Xa = 1
       ·rw [if_pos c18] at H
        have c18b0 : (Xa == 1) = true := beq_iff_eq.mpr c18
        have c18b1 : (Xa != 1) = false := bne_eq_false_iff_eq.mpr c18
        clear c18
        as_aux_lemma =>
         have H' := qr H
         clear H
         obtain ⟨P0,P1,M4⟩ := Kd.R_slice J8.out
         subst M4
         go_wp2
         go_meet
         case rel => exact ⟨_,H',⟨by have := HJ4.out;first | omega | exact zh _⟩,⟨by (with_reducible repeat (first | apply qh | apply qi | apply qj));exact qn Qe.out (fun _ hk => hk.2)⟩,⟨by (with_reducible repeat (first | apply qh | apply qi | apply qj));exact qn Qm.out (fun _ hk => hk.2)⟩,⟨by (with_reducible repeat (first | refine qa ?_ _ | refine qb ?_ | refine qc ?_ _));exact Qa.out⟩,⟨by repeat (first | (with_reducible first | exact HB.out | apply qe | apply qf | apply qg | refine qd ?_ Qn.out) | exact HB.out)⟩⟩
       ·rw [if_neg c18] at H
        have c18b0 : (Xa == 1) = false := beq_eq_false_iff_ne.mpr c18
        have c18b1 : (Xa != 1) = true := bne_iff_ne.mpr c18
        as_aux_lemma =>
         exact absurd ((Option.some.inj H).trans hrt.out) (by decide)
     ·replace c16 := Bool.eq_false_iff.mpr c16
      subst c16
      have H1 : (if 0 ≤ Qc then (if (Qc : Int).toNat ≤ 17592186044416 then ((tattleref06_Same.f kj4 Xr (List.replicate (Qc : Int).toNat z26)).bind fun J3 => (if J3 = true then (if Xa = 0 then (tattlelaw06_TableTells.j1 kj4 Qb Qg Qi Qh Qc Qj Qk) else (some false)) else (some false))) else (none)) else (none)) = some r := by rw [if_neg (show ¬ (false = true) by decide)] at H;exact H
      clear H
      have H := H1
      clear H1
      by_cases c20 : 0 ≤ Qc
      ·rw [if_pos c20] at H
       have c20b0 := eq_true c20
       have c20b1 : decide (0 ≤ Qc) = true := decide_eq_true c20
       clear c20
       by_cases c21 : (Qc : Int).toNat ≤ 17592186044416
       ·rw [if_pos c21] at H
        have c21b0 := eq_true c21
        have c21b1 : decide ((Qc : Int).toNat ≤ 17592186044416) = true := decide_eq_true c21
        clear c21
        obtain ⟨Gt,J9⟩ : ∃ y_ : List (S26),y_ = (List.replicate (Qc : Int).toNat z26) := ⟨_,rfl⟩
        replace H : ((tattleref06_Same.f kj4 Xr Gt).bind fun J3 => (if J3 = true then (if Xa = 0 then (tattlelaw06_TableTells.j1 kj4 Qb Qg Qi Qh Qc Qj Qk) else (some false)) else (some false))) = some r := by first | (rw [J9];with_reducible exact H) | (have H2_ := (Option.bind_some _ _).symm.trans H;rw [J9];with_reducible exact H2_) | (have H2_ := (Option.bind_some _ _).symm.trans H;with_reducible exact H2_) | with_reducible exact H | (rw [J9];exact H) | exact H
        have D8 := qr J9
        clear J9
        replace H := Option.bind_eq_some_iff.mp H
        obtain ⟨J3,G8,H⟩ := H
        replace H : (if J3 = true then (if Xa = 0 then (tattlelaw06_TableTells.j1 kj4 Qb Qg Qi Qh Qc Qj Qk) else (some false)) else (some false)) = some r := H
        have A22 := qr G8
        clear G8
        by_cases c23 : J3 = true
        ·subst c23
         have H1 : (if Xa = 0 then (tattlelaw06_TableTells.j1 kj4 Qb Qg Qi Qh Qc Qj Qk) else (some false)) = some r := by rw [if_pos rfl] at H;exact H
         clear H
         have H := H1
         clear H1
         by_cases c24 : Xa = 0
         ·rw [if_pos c24] at H
          have c24b0 : (Xa == 0) = true := beq_iff_eq.mpr c24
          have c24b1 : (Xa != 0) = false := bne_eq_false_iff_eq.mpr c24
          clear c24
          as_aux_lemma =>
           have H' := qr H
           clear H
           have V4 : wc.cell? ⟨Qd,0,none⟩ = some (.slice Q2 Qi.length Q3) := (qw Qa.out 0).trans rfl
           have V5 : wc.cell? ⟨Qd,1,none⟩ = some (.slice Q4 Qh.length Q5) := (qw Qa.out 1).trans rfl
           have V6 : wc.cell? ⟨Qd,2,none⟩ = some (.int .i64 Qc) := (qw Qa.out 2).trans rfl
           have V7 : wc.cell? ⟨Qd,3,none⟩ = some (.int .u64 Qj) := (qw Qa.out 3).trans rfl
           have V8 : wc.cell? ⟨Qd,4,none⟩ = some (.int .i64 Qk) := (qw Qa.out 4).trans rfl
           have Xb := qx Qa.out 0
           have Xc := qx Qa.out 1
           have Xd := qx Qa.out 2
           have Xe := qx Qa.out 3
           have Xf := qx Qa.out 4
           go_wp2_with (first | ((with_reducible refine gate_dst (N := 48) rfl ?_);(try (refine gate_guard (by rfl) ?_;dsimp only));refine Kd.R_make k26 _ 26 rfl (N := 48) rfl 22 _ _ rfl Qc rfl rfl Try.underlying22 (.agg #[(.int .u64 0),(.int .i64 0)]) 16 info26 rfl (by decide) (by omega) z26 (ok := fun _ => True) (okp := fun _ => True) (k26_mkM _ _ _ z26 ) (fun _ hk => hk) trivial (of_decide_eq_true (by first | (with_reducible assumption) | assumption)) (Nat.le_trans (Nat.mul_le_mul_right _ (of_decide_eq_true (by first | (with_reducible assumption) | assumption) : Qc.toNat ≤ 17592186044416)) (by omega)) (Below.refl _ _) (zh _) ?_;intro P2 w26 Va hb hg_ hnew_;clear hg_ hnew_;(first | rw [← D8.out] at Va | (simp only [Int.reduceToNat] at Va;rw [← D8.out] at Va));have n0_ := qr (Kd.V_elder' (by (with_reducible repeat (first | apply qh | apply qi | apply qj));exact Qe.out) (Kd.R_base Va) hb);have n1_ := qr (Kd.V_elder' (by (with_reducible repeat (first | apply qh | apply qi | apply qj));exact Qm.out) (Kd.R_base Va) hb);have n2_ := qr (Kd.R_elder' (by (with_reducible repeat (first | apply qk | apply ql | apply qm));exact J8.out) (Kd.R_base Va) hb);have n3_ := qr (zi (Kd.R_new' Va (Kd.R_lt (by (with_reducible repeat (first | apply qk | apply ql | apply qm));exact J8.out))) (below_size (by repeat (first | (with_reducible first | exact HB.out | apply qe | apply qf | apply qg | refine qd ?_ Qn.out) | exact HB.out))));have n4_ := qr (qv (g := Qd) (o := .cells #[.slice Q2 Qi.length Q3,.slice Q4 Qh.length Q5,.int .i64 Qc,.int .u64 Qj,.int .i64 Qk] 69 (0,0)) (by (with_reducible repeat (first | refine qa ?_ _ | refine qb ?_ | refine qc ?_ _));exact Qa.out) hb);have n5_ := qr (qz (by repeat (first | (with_reducible first | exact HB.out | apply qe | apply qf | apply qg | refine qd ?_ Qn.out) | exact HB.out)) hb);clear Qe;clear Qm;clear J8;clear Qa;clear HB;have Qe := n0_;have Qm := n1_;have J8 := n2_;have Dh := n3_;have Qa := n4_;have HB := n5_;clear n0_ n1_ n2_ n3_ n4_ n5_;clear hb Va;obtain ⟨M5,M6,M7⟩ := Kd.R_slice J8.out;subst M7;obtain ⟨M8,M9,La⟩ := Kd.R_slice Dh.out;subst La) | ((with_reducible refine qy (f := 30) rfl ?_);refine zm (some 49) rfl rfl Try.func30 (by kernel_rfl) rfl #[.slice M5 Xr.length M6,.slice M8 Gt.length M9] rfl (by (try simp only [zc,zd,ze]);first | done | rfl | (simp only [za,zb];rfl)) ?_;(with_reducible refine (tattleref06_Same.calls kj4 _ _ Xr _ _ Gt true _ ?Qo ?Qp ?Zc ?Zd A22.out).mono ?_);(case Qo => repeat (first | exact (Kd.R_reads' J8.out).2.2 | (with_reducible refine zj ?_ _) | (with_reducible refine zk ?_ _) | (with_reducible refine zl ?_)));(case Qp => exact (Kd.R_reads' J8.out).2.1);(case Zc => repeat (first | exact (Kd.R_reads' Dh.out).2.2 | (with_reducible refine zj ?_ _) | (with_reducible refine zk ?_ _) | (with_reducible refine zl ?_)));(case Zd => exact (Kd.R_reads' Dh.out).2.1);rintro e w' ⟨rfl,⟨nd,rfl⟩⟩;refine ⟨_,rfl,?_⟩))
           go_meet
           case rel => exact ⟨_,H',⟨by have := HJ4.out;first | omega | exact zh _⟩,⟨by (with_reducible repeat (first | apply qh | apply qi | apply qj));exact qn Qe.out (fun _ hk => hk.1.2)⟩,⟨by (with_reducible repeat (first | apply qh | apply qi | apply qj));exact qn Qm.out (fun _ hk => hk.1.2)⟩,⟨by (with_reducible repeat (first | refine qa ?_ _ | refine qb ?_ | refine qc ?_ _));exact Qa.out⟩,⟨by repeat (first | (with_reducible first | exact HB.out | apply qe | apply qf | apply qg | refine qd ?_ Qn.out) | exact HB.out)⟩⟩
         ·rw [if_neg c24] at H
          have c24b0 : (Xa == 0) = false := beq_eq_false_iff_ne.mpr c24
          have c24b1 : (Xa != 0) = true := bne_iff_ne.mpr c24
          as_aux_lemma =>
           exact absurd ((Option.some.inj H).trans hrt.out) (by decide)
        ·replace c23 := Bool.eq_false_iff.mpr c23
         subst c23
         have H1 : (some false) = some r := by rw [if_neg (show ¬ (false = true) by decide)] at H;exact H
         clear H
         have H := H1
         clear H1
         as_aux_lemma =>
          exact absurd ((Option.some.inj H).trans hrt.out) (by decide)
       ·rw [if_neg c21] at H
        exact absurd H (by simp)
      ·rw [if_neg c20] at H
       exact absurd H (by simp)
    case rest => as_aux_lemma =>
     clear Gs
     try clear c1
     try clear c2
     try clear p2
     try clear c3
     try clear c12
     try clear c12b0
     try clear c14
     try clear c16
     try clear c17
     try clear c17b0
     try clear c17b1
     try clear c18
     try clear c18b0
     try clear c18b1
     try clear c20
     try clear c20b0
     try clear c20b1
     try clear c21
     try clear c21b0
     try clear c21b1
     try clear c23
     try clear c24
     try clear c24b0
     try clear c24b1
     try clear c26
     try clear Y1
     try clear Y2
     try clear Y3
     try clear Y4
     try clear Y5
     try clear Jb
     try clear Jc
     try clear Jd
     try clear Je
     try clear Jf
     try clear Jk
     try clear Jl
     try clear Jm
     try clear Jn
     try clear Jo
     try clear V4
     try clear V5
     try clear V6
     try clear V7
     try clear V8
     try clear Y6
     try clear Y7
     try clear Y8
     try clear Y9
     try clear Ja
     try clear Jg
     try clear Jh
     try clear Ji
     try clear Jj
     try clear Zz
     try clear Z0
     try clear Z1
     try clear Z2
     try clear Z3
     try clear Z4
     try clear Xb
     try clear Xc
     try clear Xd
     try clear Xe
     try clear Xf
     try clear p2
     obtain ⟨kq,HA,Xg,Qe,Qm,Qa,HB⟩ := hcut
     cases kq with
     | zero => exact absurd HA.out (by simp [tattlelaw06_TableTells.j1])
     | succ Ze =>
      have H := HA.out
      clear HA
      simp only [tattlelaw06_TableTells.j1] at H
      replace H := Option.bind_eq_some_iff.mp H
      obtain ⟨⟨Q0,Qx,Qw⟩,G9,H⟩ := H
      replace H : ((table_Merge.f Ze Qb Qg).bind fun Xt => ((table_Behind.f Qb Qg).bind fun Zy => ((table_Lowest.f Qb).bind fun Zh => ((table_Check.f Ze Qb).bind fun Zu => ((tattleref06_May.f Ze Qb).bind fun Zq => (if ((Zu == 0) != Zq) = true then (tattlelaw06_TableTells.j2 Ze Qb Qg Q0 Qx Qw Xt.1 Xt.2 Zy.1 Zy.2 Zh.1 Zh.2 true Qi Qh Qc Qj Qk) else ((table_Same.f Ze Qb Qg).bind fun Xi => ((tattleref06_Same.f Ze Qb Qg).bind fun Z9 => (tattlelaw06_TableTells.j2 Ze Qb Qg Q0 Qx Qw Xt.1 Xt.2 Zy.1 Zy.2 Zh.1 Zh.2 (Xi != Z9) Qi Qh Qc Qj Qk))))))))) = some r := H
      have A30 := qr G9
      clear G9
      replace H := Option.bind_eq_some_iff.mp H
      obtain ⟨⟨Qq,Qt⟩,Ua,H⟩ := H
      replace H : ((table_Behind.f Qb Qg).bind fun Zy => ((table_Lowest.f Qb).bind fun Zh => ((table_Check.f Ze Qb).bind fun Zu => ((tattleref06_May.f Ze Qb).bind fun Zq => (if ((Zu == 0) != Zq) = true then (tattlelaw06_TableTells.j2 Ze Qb Qg Q0 Qx Qw Qq Qt Zy.1 Zy.2 Zh.1 Zh.2 true Qi Qh Qc Qj Qk) else ((table_Same.f Ze Qb Qg).bind fun Xi => ((tattleref06_Same.f Ze Qb Qg).bind fun Z9 => (tattlelaw06_TableTells.j2 Ze Qb Qg Q0 Qx Qw Qq Qt Zy.1 Zy.2 Zh.1 Zh.2 (Xi != Z9) Qi Qh Qc Qj Qk)))))))) = some r := H
      have A31 := qr Ua
      clear Ua
      replace H := Option.bind_eq_some_iff.mp H
      obtain ⟨⟨Qr,Qs⟩,Ub,H⟩ := H
      replace H : ((table_Lowest.f Qb).bind fun Zh => ((table_Check.f Ze Qb).bind fun Zu => ((tattleref06_May.f Ze Qb).bind fun Zq => (if ((Zu == 0) != Zq) = true then (tattlelaw06_TableTells.j2 Ze Qb Qg Q0 Qx Qw Qq Qt Qr Qs Zh.1 Zh.2 true Qi Qh Qc Qj Qk) else ((table_Same.f Ze Qb Qg).bind fun Xi => ((tattleref06_Same.f Ze Qb Qg).bind fun Z9 => (tattlelaw06_TableTells.j2 Ze Qb Qg Q0 Qx Qw Qq Qt Qr Qs Zh.1 Zh.2 (Xi != Z9) Qi Qh Qc Qj Qk))))))) = some r := H
      have A32 := qr Ub
      clear Ub
      replace H := Option.bind_eq_some_iff.mp H
      obtain ⟨⟨Q6,Za⟩,Uc,H⟩ := H
      replace H : ((table_Check.f Ze Qb).bind fun Zu => ((tattleref06_May.f Ze Qb).bind fun Zq => (if ((Zu == 0) != Zq) = true then (tattlelaw06_TableTells.j2 Ze Qb Qg Q0 Qx Qw Qq Qt Qr Qs Q6 Za true Qi Qh Qc Qj Qk) else ((table_Same.f Ze Qb Qg).bind fun Xi => ((tattleref06_Same.f Ze Qb Qg).bind fun Z9 => (tattlelaw06_TableTells.j2 Ze Qb Qg Q0 Qx Qw Qq Qt Qr Qs Q6 Za (Xi != Z9) Qi Qh Qc Qj Qk)))))) = some r := H
      have A33 := qr Uc
      clear Uc
      have Gu := qr H
      clear H
      have Dq : wc.cell? ⟨Qd,0,none⟩ = some (.slice Q2 Qi.length Q3) := (qw Qa.out 0).trans rfl
      have Dr : wc.cell? ⟨Qd,1,none⟩ = some (.slice Q4 Qh.length Q5) := (qw Qa.out 1).trans rfl
      have Ds : wc.cell? ⟨Qd,2,none⟩ = some (.int .i64 Qc) := (qw Qa.out 2).trans rfl
      have Dt : wc.cell? ⟨Qd,3,none⟩ = some (.int .u64 Qj) := (qw Qa.out 3).trans rfl
      have Du : wc.cell? ⟨Qd,4,none⟩ = some (.int .i64 Qk) := (qw Qa.out 4).trans rfl
      have Xm := qx Qa.out 0
      have Xn := qx Qa.out 1
      have Xo := qx Qa.out 2
      have Xp := qx Qa.out 3
      have Xq := qx Qa.out 4
      obtain ⟨Zk,Zl,Lb⟩ := Kd.V_slice Qe.out
      subst Lb
      go_upto_region 12 with (first | ((with_reducible refine qy (f := 29) rfl ?_);refine zm (some 61) rfl rfl Try.func29 (by kernel_rfl) rfl #[.slice Zk Qb.length Zl,.int .i64 Qc,.agg #[.int .u64 Qj,.int .i64 Qk]] rfl (by (try simp only [zc,zd,ze]);first | done | rfl | (simp only [za,zb];rfl)) ?_;(with_reducible refine (table_Apply.calls Ze (fun k_ => k_ ≠ Qd) _ _ Qb Qc Qj Qk Q0 Qx Qw _ ?Qo A30.out).mono ?_);(case Qo => exact Qe.out);rintro e w37 ⟨Dv,rfl,ho0,hb⟩;refine ⟨_,rfl,?_⟩;have n0_ := qr (qp (by (with_reducible repeat (first | apply qh | apply qi | apply qj));exact Qe.out) hb);have n1_ := qr (qp (by (with_reducible repeat (first | apply qh | apply qi | apply qj));exact Qm.out) hb);have n2_ := qr (Kd.V_lower (qn (ok' := fun k_ => k_ ≠ Qd) ho0 (fun k_ hk_ => Or.elim hk_ (fun hs_ => hs_) (fun hn_ => (Kd.freshB (g := Qd) (o := .cells #[.slice Q2 Qi.length Q3,.slice Q4 Qh.length Q5,.int .i64 Qc,.int .u64 Qj,.int .i64 Qk] 69 (0,0)) (by (with_reducible repeat (first | refine qa ?_ _ | refine qb ?_ | refine qc ?_ _));exact Qa.out) k_ hn_)))) (below_size (by repeat (first | (with_reducible first | exact HB.out | apply qe | apply qf | apply qg | refine qd ?_ Qn.out) | exact HB.out))));have n3_ := qr (qv (g := Qd) (o := .cells #[.slice Q2 Qi.length Q3,.slice Q4 Qh.length Q5,.int .i64 Qc,.int .u64 Qj,.int .i64 Qk] 69 (0,0)) (by (with_reducible repeat (first | refine qa ?_ _ | refine qb ?_ | refine qc ?_ _));exact Qa.out) hb);have n4_ := qr (qz (by repeat (first | (with_reducible first | exact HB.out | apply qe | apply qf | apply qg | refine qd ?_ Qn.out) | exact HB.out)) hb);clear Qe;clear Qm;clear Qa;clear HB;have Qe := n0_;have Qm := n1_;have Zf := n2_;have Qa := n3_;have HB := n4_;clear n0_ n1_ n2_ n3_ n4_;(try clear hb);(try clear hb2);(try clear hk);(try clear hi);(try clear ho0);obtain ⟨X6,X7,Lc⟩ := Kd.V_slice Qm.out;subst Lc) | ((with_reducible refine qy (f := 37) rfl ?_);refine zm (some 68) rfl rfl Try.func37 (by kernel_rfl) rfl #[.slice Zk Qb.length Zl,.slice X6 Qg.length X7] rfl (by (try simp only [zc,zd,ze]);first | done | rfl | (simp only [za,zb];rfl)) ?_;(with_reducible refine (table_Merge.calls Ze _ _ Qb _ _ Qg Qq Qt _ ?Qo ?Qp ?Zc ?Zd A31.out).mono ?_);(case Qo => repeat (first | exact (Kd.V_reads' Qe.out).2.2 | (with_reducible refine zj ?_ _) | (with_reducible refine zk ?_ _) | (with_reducible refine zl ?_)));(case Qp => exact (Kd.V_reads' Qe.out).2.1);(case Zc => repeat (first | exact (Kd.V_reads' Qm.out).2.2 | (with_reducible refine zj ?_ _) | (with_reducible refine zk ?_ _) | (with_reducible refine zl ?_)));(case Zd => exact (Kd.V_reads' Qm.out).2.1);rintro e w39 ⟨Zx,rfl,ho0,hb⟩;refine ⟨_,rfl,?_⟩;have n0_ := qr (Kd.V_elder' (by (with_reducible repeat (first | apply qh | apply qi | apply qj));exact Qe.out) (Kd.R_base ho0) hb);have n1_ := qr (Kd.V_elder' (by (with_reducible repeat (first | apply qh | apply qi | apply qj));exact Qm.out) (Kd.R_base ho0) hb);have n2_ := qr (Kd.V_elder' (by (with_reducible repeat (first | apply qh | apply qi | apply qj));exact Zf.out) (Kd.R_base ho0) hb);have n3_ := qr (zi ho0 (below_size (by repeat (first | (with_reducible first | exact HB.out | apply qe | apply qf | apply qg | refine qd ?_ Qn.out) | exact HB.out))));have n4_ := qr (qv (g := Qd) (o := .cells #[.slice Q2 Qi.length Q3,.slice Q4 Qh.length Q5,.int .i64 Qc,.int .u64 Qj,.int .i64 Qk] 69 (0,0)) (by (with_reducible repeat (first | refine qa ?_ _ | refine qb ?_ | refine qc ?_ _));exact Qa.out) hb);have n5_ := qr (qz (by repeat (first | (with_reducible first | exact HB.out | apply qe | apply qf | apply qg | refine qd ?_ Qn.out) | exact HB.out)) hb);clear Qe;clear Qm;clear Zf;clear Qa;clear HB;have Qe := n0_;have Qm := n1_;have Zf := n2_;have Zg := n3_;have Qa := n4_;have HB := n5_;clear n0_ n1_ n2_ n3_ n4_ n5_;(try clear hb);(try clear hb2);(try clear hk);(try clear hi);(try clear ho0)) | ((with_reducible refine qy (f := 38) rfl ?_);refine zm (some 74) rfl rfl Try.func38 (by kernel_rfl) rfl #[.slice Zk Qb.length Zl,.slice X6 Qg.length X7] rfl (by (try simp only [zc,zd,ze]);first | done | rfl | (simp only [za,zb];rfl)) ?_;(with_reducible refine (table_Behind.calls _ _ Qb _ _ Qg Qr Qs _ ?Qo ?Qp ?Zc ?Zd A32.out).mono ?_);(case Qo => repeat (first | exact (Kd.V_reads' Qe.out).2.2 | (with_reducible refine zj ?_ _) | (with_reducible refine zk ?_ _) | (with_reducible refine zl ?_)));(case Qp => exact (Kd.V_reads' Qe.out).2.1);(case Zc => repeat (first | exact (Kd.V_reads' Qm.out).2.2 | (with_reducible refine zj ?_ _) | (with_reducible refine zk ?_ _) | (with_reducible refine zl ?_)));(case Zd => exact (Kd.V_reads' Qm.out).2.1);rintro e w40 ⟨Zs,rfl,ho0,hb⟩;refine ⟨_,rfl,?_⟩;have n0_ := qr (Kd.V_elder' (by (with_reducible repeat (first | apply qh | apply qi | apply qj));exact Qe.out) (Kd.R_base ho0) hb);have n1_ := qr (Kd.V_elder' (by (with_reducible repeat (first | apply qh | apply qi | apply qj));exact Qm.out) (Kd.R_base ho0) hb);have n2_ := qr (Kd.V_elder' (by (with_reducible repeat (first | apply qh | apply qi | apply qj));exact Zf.out) (Kd.R_base ho0) hb);have n3_ := qr (qq (by (with_reducible repeat (first | apply qk | apply ql | apply qm));exact Zg.out) hb);have n4_ := qr (zi ho0 (below_size (by repeat (first | (with_reducible first | exact HB.out | apply qe | apply qf | apply qg | refine qd ?_ Qn.out) | exact HB.out))));have n5_ := qr (qv (g := Qd) (o := .cells #[.slice Q2 Qi.length Q3,.slice Q4 Qh.length Q5,.int .i64 Qc,.int .u64 Qj,.int .i64 Qk] 69 (0,0)) (by (with_reducible repeat (first | refine qa ?_ _ | refine qb ?_ | refine qc ?_ _));exact Qa.out) hb);have n6_ := qr (qz (by repeat (first | (with_reducible first | exact HB.out | apply qe | apply qf | apply qg | refine qd ?_ Qn.out) | exact HB.out)) hb);clear Qe;clear Qm;clear Zf;clear Zg;clear Qa;clear HB;have Qe := n0_;have Qm := n1_;have Zf := n2_;have Zg := n3_;have Zj := n4_;have Qa := n5_;have HB := n6_;clear n0_ n1_ n2_ n3_ n4_ n5_ n6_;(try clear hb);(try clear hb2);(try clear hk);(try clear hi);(try clear ho0)) | ((with_reducible refine qy (f := 32) rfl ?_);refine zm (some 79) rfl rfl Try.func32 (by kernel_rfl) rfl #[.slice Zk Qb.length Zl] rfl (by (try simp only [zc,zd,ze]);first | done | rfl | (simp only [za,zb];rfl)) ?_;(with_reducible refine (table_Lowest.calls _ _ Qb Q6 Za _ ?Qo ?Qp A33.out).mono ?_);(case Qo => repeat (first | exact (Kd.V_reads' Qe.out).2.2 | (with_reducible refine zj ?_ _) | (with_reducible refine zk ?_ _) | (with_reducible refine zl ?_)));(case Qp => exact (Kd.V_reads' Qe.out).2.1);rintro e w41 ⟨rfl,hb⟩;refine ⟨_,rfl,?_⟩;have n0_ := qr (qp (by (with_reducible repeat (first | apply qh | apply qi | apply qj));exact Qe.out) hb);have n1_ := qr (qp (by (with_reducible repeat (first | apply qh | apply qi | apply qj));exact Qm.out) hb);have n2_ := qr (qp (by (with_reducible repeat (first | apply qh | apply qi | apply qj));exact Zf.out) hb);have n3_ := qr (qq (by (with_reducible repeat (first | apply qk | apply ql | apply qm));exact Zg.out) hb);have n4_ := qr (qq (by (with_reducible repeat (first | apply qk | apply ql | apply qm));exact Zj.out) hb);have n5_ := qr (qv (g := Qd) (o := .cells #[.slice Q2 Qi.length Q3,.slice Q4 Qh.length Q5,.int .i64 Qc,.int .u64 Qj,.int .i64 Qk] 69 (0,0)) (by (with_reducible repeat (first | refine qa ?_ _ | refine qb ?_ | refine qc ?_ _));exact Qa.out) hb);have n6_ := qr (qz (by repeat (first | (with_reducible first | exact HB.out | apply qe | apply qf | apply qg | refine qd ?_ Qn.out) | exact HB.out)) hb);clear Qe;clear Qm;clear Zf;clear Zg;clear Zj;clear Qa;clear HB;have Qe := n0_;have Qm := n1_;have Zf := n2_;have Zg := n3_;have Zj := n4_;have Qa := n5_;have HB := n6_;clear n0_ n1_ n2_ n3_ n4_ n5_ n6_;(try clear hb);(try clear hb2);(try clear hk);(try clear hi)))
      (try simp only [Act.put,qs,qt,qu])
      go_cut [96] (fun v96 wc => ∃ (kq : Nat) (Jp : Bool),v96 = .bool Jp ∧ Aside0 (tattlelaw06_TableTells.j2 kq Qb Qg Q0 Qx Qw Qq Qt Qr Qs Q6 Za Jp Qi Qh Qc Qj Qk = some r) ∧ Aside0 (kq ≤ Ze) ∧ Aside0 (Kd.V k26 26 wc w.heap.size (fun k_ => some k_ ≠ (Zx : Value).ownBlock ∧ some k_ ≠ (Zs : Value).ownBlock ∧ k_ ≠ Qd) (.slice Zk Qb.length Zl) Qb) ∧ Aside0 (Kd.V k26 26 wc w.heap.size (fun k_ => some k_ ≠ (Zx : Value).ownBlock ∧ some k_ ≠ (Zs : Value).ownBlock ∧ k_ ≠ Qd) (.slice X6 Qg.length X7) Qg) ∧ Aside0 (Kd.V k26 26 wc w.heap.size (fun k_ => some k_ ≠ (Zx : Value).ownBlock ∧ some k_ ≠ (Zs : Value).ownBlock ∧ k_ ≠ Qd) Dv Q0) ∧ Aside0 (Kd.R k26 26 wc w.heap.size (fun _ => True) Zx Qq) ∧ Aside0 (Kd.R (Kd.int .i64) 3 wc w.heap.size (fun _ => True) Zs Qr) ∧ Aside0 (wc.heap[Qd]? = some (.cells #[(.slice Q2 Qi.length Q3),(.slice Q4 Qh.length Q5),.int .i64 Qc,.int .u64 Qj,.int .i64 Qk] 69 (0,0))) ∧ Aside0 (Below w.heap.size w wc))
      case first => as_aux_lemma =>
       have H := Gu.out
       clear Gu
       replace H := Option.bind_eq_some_iff.mp H
       obtain ⟨Zu,Ud,H⟩ := H
       replace H : ((tattleref06_May.f Ze Qb).bind fun Zq => (if ((Zu == 0) != Zq) = true then (tattlelaw06_TableTells.j2 Ze Qb Qg Q0 Qx Qw Qq Qt Qr Qs Q6 Za true Qi Qh Qc Qj Qk) else ((table_Same.f Ze Qb Qg).bind fun Xi => ((tattleref06_Same.f Ze Qb Qg).bind fun Z9 => (tattlelaw06_TableTells.j2 Ze Qb Qg Q0 Qx Qw Qq Qt Qr Qs Q6 Za (Xi != Z9) Qi Qh Qc Qj Qk))))) = some r := H
       have A42 := qr Ud
       clear Ud
       replace H := Option.bind_eq_some_iff.mp H
       obtain ⟨Zq,Ue,H⟩ := H
       replace H : (if ((Zu == 0) != Zq) = true then (tattlelaw06_TableTells.j2 Ze Qb Qg Q0 Qx Qw Qq Qt Qr Qs Q6 Za true Qi Qh Qc Qj Qk) else ((table_Same.f Ze Qb Qg).bind fun Xi => ((tattleref06_Same.f Ze Qb Qg).bind fun Z9 => (tattlelaw06_TableTells.j2 Ze Qb Qg Q0 Qx Qw Qq Qt Qr Qs Q6 Za (Xi != Z9) Qi Qh Qc Qj Qk)))) = some r := H
       have A43 := qr Ue
       clear Ue
       by_cases c44 : ((Zu == 0) != Zq) = true
       ·rw [if_pos c44] at H
        have c44b0 : ((Zu == 0) != Zq) = true := c44
        (try (have c44b1 : decide ((Zu == 0) = Zq) = false := by simpa using c44))
        (try (have c44b2 : ((Zu == 0) == Zq) = false := by simpa using c44))
        (try (have c44b3 : ¬ ((Zu == 0) = Zq) := by simpa using c44))
        clear c44
        (first | rw [c44b0] | (simp only [i64_w,i32_w];rw [c44b0]) | skip)
        as_aux_lemma =>
         have H' := qr H
         clear H
         go_wp2_with (first | ((with_reducible refine qy (f := 27) rfl ?_);refine zm (some 83) rfl rfl Try.func27 (by kernel_rfl) rfl #[.slice Zk Qb.length Zl] rfl (by (try simp only [zc,zd,ze]);first | done | rfl | (simp only [za,zb];rfl)) ?_;(with_reducible refine (table_Check.calls Ze _ _ Qb Zu _ ?Qo ?Qp A42.out).mono ?_);(case Qo => repeat (first | exact (Kd.V_reads' Qe.out).2.2 | (with_reducible refine zj ?_ _) | (with_reducible refine zk ?_ _) | (with_reducible refine zl ?_)));(case Qp => exact (Kd.V_reads' Qe.out).2.1);rintro e w45 ⟨rfl,hb⟩;refine ⟨_,rfl,?_⟩;have n0_ := qr (qp (by (with_reducible repeat (first | apply qh | apply qi | apply qj));exact Qe.out) hb);have n1_ := qr (qp (by (with_reducible repeat (first | apply qh | apply qi | apply qj));exact Qm.out) hb);have n2_ := qr (qp (by (with_reducible repeat (first | apply qh | apply qi | apply qj));exact Zf.out) hb);have n3_ := qr (qq (by (with_reducible repeat (first | apply qk | apply ql | apply qm));exact Zg.out) hb);have n4_ := qr (qq (by (with_reducible repeat (first | apply qk | apply ql | apply qm));exact Zj.out) hb);have n5_ := qr (qv (g := Qd) (o := .cells #[.slice Q2 Qi.length Q3,.slice Q4 Qh.length Q5,.int .i64 Qc,.int .u64 Qj,.int .i64 Qk] 69 (0,0)) (by (with_reducible repeat (first | refine qa ?_ _ | refine qb ?_ | refine qc ?_ _));exact Qa.out) hb);have n6_ := qr (qz (by repeat (first | (with_reducible first | exact HB.out | apply qe | apply qf | apply qg | refine qd ?_ Qn.out) | exact HB.out)) hb);clear Qe;clear Qm;clear Zf;clear Zg;clear Zj;clear Qa;clear HB;have Qe := n0_;have Qm := n1_;have Zf := n2_;have Zg := n3_;have Zj := n4_;have Qa := n5_;have HB := n6_;clear n0_ n1_ n2_ n3_ n4_ n5_ n6_;(try clear hb);(try clear hb2);(try clear hk);(try clear hi)) | ((with_reducible refine qy (f := 39) rfl ?_);refine zm (some 86) rfl rfl Try.func39 (by kernel_rfl) rfl #[.slice Zk Qb.length Zl] rfl (by (try simp only [zc,zd,ze]);first | done | rfl | (simp only [za,zb];rfl)) ?_;(with_reducible refine (tattleref06_May.calls Ze _ _ Qb Zq _ ?Qo ?Qp A43.out).mono ?_);(case Qo => repeat (first | exact (Kd.V_reads' Qe.out).2.2 | (with_reducible refine zj ?_ _) | (with_reducible refine zk ?_ _) | (with_reducible refine zl ?_)));(case Qp => exact (Kd.V_reads' Qe.out).2.1);rintro e w46 ⟨rfl,hb⟩;refine ⟨_,rfl,?_⟩;have n0_ := qr (qp (by (with_reducible repeat (first | apply qh | apply qi | apply qj));exact Qe.out) hb);have n1_ := qr (qp (by (with_reducible repeat (first | apply qh | apply qi | apply qj));exact Qm.out) hb);have n2_ := qr (qp (by (with_reducible repeat (first | apply qh | apply qi | apply qj));exact Zf.out) hb);have n3_ := qr (qq (by (with_reducible repeat (first | apply qk | apply ql | apply qm));exact Zg.out) hb);have n4_ := qr (qq (by (with_reducible repeat (first | apply qk | apply ql | apply qm));exact Zj.out) hb);have n5_ := qr (qv (g := Qd) (o := .cells #[.slice Q2 Qi.length Q3,.slice Q4 Qh.length Q5,.int .i64 Qc,.int .u64 Qj,.int .i64 Qk] 69 (0,0)) (by (with_reducible repeat (first | refine qa ?_ _ | refine qb ?_ | refine qc ?_ _));exact Qa.out) hb);have n6_ := qr (qz (by repeat (first | (with_reducible first | exact HB.out | apply qe | apply qf | apply qg | refine qd ?_ Qn.out) | exact HB.out)) hb);clear Qe;clear Qm;clear Zf;clear Zg;clear Zj;clear Qa;clear HB;have Qe := n0_;have Qm := n1_;have Zf := n2_;have Zg := n3_;have Zj := n4_;have Qa := n5_;have HB := n6_;clear n0_ n1_ n2_ n3_ n4_ n5_ n6_;(try clear hb);(try clear hb2);(try clear hk);(try clear hi)))
         go_meet
         case rel => exact ⟨_,(true),(by first | rfl | (simp;done) | (simp [*];done)),H',⟨by have := HJ4.out;have := Xg.out;first | omega | exact zh _⟩,⟨by (with_reducible repeat (first | apply qh | apply qi | apply qj));exact qn Qe.out (fun _ hk => ⟨hk.1.2,⟨hk.2,hk.1.1⟩⟩)⟩,⟨by (with_reducible repeat (first | apply qh | apply qi | apply qj));exact qn Qm.out (fun _ hk => ⟨hk.1.2,⟨hk.2,hk.1.1⟩⟩)⟩,⟨by (with_reducible repeat (first | apply qh | apply qi | apply qj));exact qn Zf.out (fun _ hk => ⟨hk.1.2,⟨hk.2,hk.1.1⟩⟩)⟩,⟨by (with_reducible repeat (first | apply qk | apply ql | apply qm));exact Zg.out⟩,⟨by (with_reducible repeat (first | apply qk | apply ql | apply qm));exact Zj.out⟩,⟨by (with_reducible repeat (first | refine qa ?_ _ | refine qb ?_ | refine qc ?_ _));exact Qa.out⟩,⟨by repeat (first | (with_reducible first | exact HB.out | apply qe | apply qf | apply qg | refine qd ?_ Qn.out) | exact HB.out)⟩⟩
       ·rw [if_neg c44] at H
        have c44b0 : ((Zu == 0) != Zq) = false := by simpa using c44
        (try (have c44b1 : decide ((Zu == 0) = Zq) = true := by simpa using c44))
        (try (have c44b2 : ((Zu == 0) == Zq) = true := by simpa using c44))
        clear c44
        (first | rw [c44b0] | (simp only [i64_w,i32_w];rw [c44b0]) | skip)
        replace H := Option.bind_eq_some_iff.mp H
        obtain ⟨Xi,Uf,H⟩ := H
        replace H : ((tattleref06_Same.f Ze Qb Qg).bind fun Z9 => (tattlelaw06_TableTells.j2 Ze Qb Qg Q0 Qx Qw Qq Qt Qr Qs Q6 Za (Xi != Z9) Qi Qh Qc Qj Qk)) = some r := H
        have A47 := qr Uf
        clear Uf
        replace H := Option.bind_eq_some_iff.mp H
        obtain ⟨Z9,Ug,H⟩ := H
        replace H : (tattlelaw06_TableTells.j2 Ze Qb Qg Q0 Qx Qw Qq Qt Qr Qs Q6 Za (Xi != Z9) Qi Qh Qc Qj Qk) = some r := H
        have A48 := qr Ug
        clear Ug
        as_aux_lemma =>
         have H' := qr H
         clear H
         go_wp2_with (first | ((with_reducible refine qy (f := 27) rfl ?_);refine zm (some 83) rfl rfl Try.func27 (by kernel_rfl) rfl #[.slice Zk Qb.length Zl] rfl (by (try simp only [zc,zd,ze]);first | done | rfl | (simp only [za,zb];rfl)) ?_;(with_reducible refine (table_Check.calls Ze _ _ Qb Zu _ ?Qo ?Qp A42.out).mono ?_);(case Qo => repeat (first | exact (Kd.V_reads' Qe.out).2.2 | (with_reducible refine zj ?_ _) | (with_reducible refine zk ?_ _) | (with_reducible refine zl ?_)));(case Qp => exact (Kd.V_reads' Qe.out).2.1);rintro e w49 ⟨rfl,hb⟩;refine ⟨_,rfl,?_⟩;have n0_ := qr (qp (by (with_reducible repeat (first | apply qh | apply qi | apply qj));exact Qe.out) hb);have n1_ := qr (qp (by (with_reducible repeat (first | apply qh | apply qi | apply qj));exact Qm.out) hb);have n2_ := qr (qp (by (with_reducible repeat (first | apply qh | apply qi | apply qj));exact Zf.out) hb);have n3_ := qr (qq (by (with_reducible repeat (first | apply qk | apply ql | apply qm));exact Zg.out) hb);have n4_ := qr (qq (by (with_reducible repeat (first | apply qk | apply ql | apply qm));exact Zj.out) hb);have n5_ := qr (qv (g := Qd) (o := .cells #[.slice Q2 Qi.length Q3,.slice Q4 Qh.length Q5,.int .i64 Qc,.int .u64 Qj,.int .i64 Qk] 69 (0,0)) (by (with_reducible repeat (first | refine qa ?_ _ | refine qb ?_ | refine qc ?_ _));exact Qa.out) hb);have n6_ := qr (qz (by repeat (first | (with_reducible first | exact HB.out | apply qe | apply qf | apply qg | refine qd ?_ Qn.out) | exact HB.out)) hb);clear Qe;clear Qm;clear Zf;clear Zg;clear Zj;clear Qa;clear HB;have Qe := n0_;have Qm := n1_;have Zf := n2_;have Zg := n3_;have Zj := n4_;have Qa := n5_;have HB := n6_;clear n0_ n1_ n2_ n3_ n4_ n5_ n6_;(try clear hb);(try clear hb2);(try clear hk);(try clear hi)) | ((with_reducible refine qy (f := 39) rfl ?_);refine zm (some 86) rfl rfl Try.func39 (by kernel_rfl) rfl #[.slice Zk Qb.length Zl] rfl (by (try simp only [zc,zd,ze]);first | done | rfl | (simp only [za,zb];rfl)) ?_;(with_reducible refine (tattleref06_May.calls Ze _ _ Qb Zq _ ?Qo ?Qp A43.out).mono ?_);(case Qo => repeat (first | exact (Kd.V_reads' Qe.out).2.2 | (with_reducible refine zj ?_ _) | (with_reducible refine zk ?_ _) | (with_reducible refine zl ?_)));(case Qp => exact (Kd.V_reads' Qe.out).2.1);rintro e w50 ⟨rfl,hb⟩;refine ⟨_,rfl,?_⟩;have n0_ := qr (qp (by (with_reducible repeat (first | apply qh | apply qi | apply qj));exact Qe.out) hb);have n1_ := qr (qp (by (with_reducible repeat (first | apply qh | apply qi | apply qj));exact Qm.out) hb);have n2_ := qr (qp (by (with_reducible repeat (first | apply qh | apply qi | apply qj));exact Zf.out) hb);have n3_ := qr (qq (by (with_reducible repeat (first | apply qk | apply ql | apply qm));exact Zg.out) hb);have n4_ := qr (qq (by (with_reducible repeat (first | apply qk | apply ql | apply qm));exact Zj.out) hb);have n5_ := qr (qv (g := Qd) (o := .cells #[.slice Q2 Qi.length Q3,.slice Q4 Qh.length Q5,.int .i64 Qc,.int .u64 Qj,.int .i64 Qk] 69 (0,0)) (by (with_reducible repeat (first | refine qa ?_ _ | refine qb ?_ | refine qc ?_ _));exact Qa.out) hb);have n6_ := qr (qz (by repeat (first | (with_reducible first | exact HB.out | apply qe | apply qf | apply qg | refine qd ?_ Qn.out) | exact HB.out)) hb);clear Qe;clear Qm;clear Zf;clear Zg;clear Zj;clear Qa;clear HB;have Qe := n0_;have Qm := n1_;have Zf := n2_;have Zg := n3_;have Zj := n4_;have Qa := n5_;have HB := n6_;clear n0_ n1_ n2_ n3_ n4_ n5_ n6_;(try clear hb);(try clear hb2);(try clear hk);(try clear hi)) | (go_at_call 40;(with_reducible refine (table_Same.calls Ze _ _ Qb _ _ Qg Xi _ ?Qo ?Qp ?Zc ?Zd A47.out).mono ?_);(case Qo => repeat (first | exact (Kd.V_reads' Qe.out).2.2 | (with_reducible refine zj ?_ _) | (with_reducible refine zk ?_ _) | (with_reducible refine zl ?_)));(case Qp => exact (Kd.V_reads' Qe.out).2.1);(case Zc => repeat (first | exact (Kd.V_reads' Qm.out).2.2 | (with_reducible refine zj ?_ _) | (with_reducible refine zk ?_ _) | (with_reducible refine zl ?_)));(case Zd => exact (Kd.V_reads' Qm.out).2.1);rintro e w' ⟨rfl,⟨nd,rfl⟩⟩) | (go_at_call 30;(with_reducible refine (tattleref06_Same.calls Ze _ _ Qb _ _ Qg Z9 _ ?Qo ?Qp ?Zc ?Zd A48.out).mono ?_);(case Qo => repeat (first | exact (Kd.V_reads' Qe.out).2.2 | (with_reducible refine zj ?_ _) | (with_reducible refine zk ?_ _) | (with_reducible refine zl ?_)));(case Qp => exact (Kd.V_reads' Qe.out).2.1);(case Zc => repeat (first | exact (Kd.V_reads' Qm.out).2.2 | (with_reducible refine zj ?_ _) | (with_reducible refine zk ?_ _) | (with_reducible refine zl ?_)));(case Zd => exact (Kd.V_reads' Qm.out).2.1);rintro e w' ⟨rfl,⟨nd,rfl⟩⟩))
         go_meet
         case rel => exact ⟨_,((Xi != Z9)),(by first | rfl | (simp;done) | (simp [*];done)),H',⟨by have := HJ4.out;have := Xg.out;first | omega | exact zh _⟩,⟨by (with_reducible repeat (first | apply qh | apply qi | apply qj));exact qn Qe.out (fun _ hk => ⟨hk.1.2,⟨hk.2,hk.1.1⟩⟩)⟩,⟨by (with_reducible repeat (first | apply qh | apply qi | apply qj));exact qn Qm.out (fun _ hk => ⟨hk.1.2,⟨hk.2,hk.1.1⟩⟩)⟩,⟨by (with_reducible repeat (first | apply qh | apply qi | apply qj));exact qn Zf.out (fun _ hk => ⟨hk.1.2,⟨hk.2,hk.1.1⟩⟩)⟩,⟨by (with_reducible repeat (first | apply qk | apply ql | apply qm));exact Zg.out⟩,⟨by (with_reducible repeat (first | apply qk | apply ql | apply qm));exact Zj.out⟩,⟨by (with_reducible repeat (first | refine qa ?_ _ | refine qb ?_ | refine qc ?_ _));exact Qa.out⟩,⟨by repeat (first | (with_reducible first | exact HB.out | apply qe | apply qf | apply qg | refine qd ?_ Qn.out) | exact HB.out)⟩⟩
      case rest => as_aux_lemma =>
       clear Gu
       try clear c1
       try clear c2
       try clear p2
       try clear c3
       try clear c4
       try clear c12
       try clear c12b0
       try clear c14
       try clear c16
       try clear c17
       try clear c17b0
       try clear c17b1
       try clear c18
       try clear c18b0
       try clear c18b1
       try clear c20
       try clear c20b0
       try clear c20b1
       try clear c21
       try clear c21b0
       try clear c21b1
       try clear c23
       try clear c24
       try clear c24b0
       try clear c24b1
       try clear c26
       try clear c27
       try clear c29
       try clear c30
       try clear c32
       try clear c35
       try clear c37
       try clear c38
       try clear c39
       try clear c44
       try clear c44b0
       try clear c44b1
       try clear c44b2
       try clear Y1
       try clear Y2
       try clear Y3
       try clear Y4
       try clear Y5
       try clear Jb
       try clear Jc
       try clear Jd
       try clear Je
       try clear Jf
       try clear Jk
       try clear Jl
       try clear Jm
       try clear Jn
       try clear Jo
       try clear V4
       try clear V5
       try clear V6
       try clear V7
       try clear V8
       try clear Dq
       try clear Dr
       try clear Ds
       try clear Dt
       try clear Du
       try clear Y6
       try clear Y7
       try clear Y8
       try clear Y9
       try clear Ja
       try clear Jg
       try clear Jh
       try clear Ji
       try clear Jj
       try clear Zz
       try clear Z0
       try clear Z1
       try clear Z2
       try clear Z3
       try clear Z4
       try clear Xb
       try clear Xc
       try clear Xd
       try clear Xe
       try clear Xf
       try clear Xm
       try clear Xn
       try clear Xo
       try clear Xp
       try clear Xq
       try clear p2
       obtain ⟨kq,Jp,rfl,HA,Xl,Qe,Qm,Q1,Ql,Qf,Qa,HB⟩ := hcut
       cases kq with
       | zero => exact absurd HA.out (by simp [tattlelaw06_TableTells.j2])
       | succ Q9 =>
        have H := HA.out
        clear HA
        simp only [tattlelaw06_TableTells.j2] at H
        by_cases c51 : Jp = true
        ·subst c51
         have H1 : (some false) = some r := by rw [if_pos rfl] at H;exact H
         clear H
         have H := H1
         clear H1
         as_aux_lemma =>
          exact absurd ((Option.some.inj H).trans hrt.out) (by decide)
        ·replace c51 := Bool.eq_false_iff.mpr c51
         subst c51
         have H1 : ((tattleref06_May.f Q9 Qb).bind fun Da => (if Da = true then ((tattleref06_Up.f Q9 Qb).bind fun Qu => ((table_Up.f Qb).bind fun Xk => ((tattleref02_Same.f Q9 Xk Qu).bind fun Xu => (if Xu = true then ((table_Others.f Qb Qc).bind fun Z5 => ((tattleref06_Others.f Q9 Qb Qc).bind fun Zv => ((tattleref02_Same.f Q9 Z5 Zv).bind fun Zr => (tattlelaw06_TableTells.j3 Q9 Qb Qg Q0 Qx Qw Qq Qt Qr Qs Q6 Za Qu (!Zr) Qi Qh Qc Qj Qk)))) else (tattlelaw06_TableTells.j3 Q9 Qb Qg Q0 Qx Qw Qq Qt Qr Qs Q6 Za Qu true Qi Qh Qc Qj Qk))))) else ((tattleref06_Same.f Q9 Q0 Qb).bind fun Yy => (if Yy = true then (if Qx = true then (some false) else (if Qw = 1 then (if (Qq.length : Int) = 0 then (if Qt = 1 then (if (Qr.length : Int) = 0 then (if Qs = 1 then (if Q6 = 0 then (if Za = 1 then ((table_Up.f Qb).bind fun Zw => (if (Zw.length : Int) = 0 then ((table_Others.f Qb Qc).bind fun Zn => (if (Zn.length : Int) = 0 then ((tattlelaw06_awakeT.f).bind fun Z6 => (some Z6)) else (some false))) else (some false))) else (some false)) else (some false)) else (some false)) else (some false)) else (some false)) else (some false)) else (some false))) else (some false))))) = some r := by rw [if_neg (show ¬ (false = true) by decide)] at H;exact H
         clear H
         have H := H1
         clear H1
         replace H := Option.bind_eq_some_iff.mp H
         obtain ⟨Da,Uh,H⟩ := H
         replace H : (if Da = true then ((tattleref06_Up.f Q9 Qb).bind fun Qu => ((table_Up.f Qb).bind fun Xk => ((tattleref02_Same.f Q9 Xk Qu).bind fun Xu => (if Xu = true then ((table_Others.f Qb Qc).bind fun Z5 => ((tattleref06_Others.f Q9 Qb Qc).bind fun Zv => ((tattleref02_Same.f Q9 Z5 Zv).bind fun Zr => (tattlelaw06_TableTells.j3 Q9 Qb Qg Q0 Qx Qw Qq Qt Qr Qs Q6 Za Qu (!Zr) Qi Qh Qc Qj Qk)))) else (tattlelaw06_TableTells.j3 Q9 Qb Qg Q0 Qx Qw Qq Qt Qr Qs Q6 Za Qu true Qi Qh Qc Qj Qk))))) else ((tattleref06_Same.f Q9 Q0 Qb).bind fun Yy => (if Yy = true then (if Qx = true then (some false) else (if Qw = 1 then (if (Qq.length : Int) = 0 then (if Qt = 1 then (if (Qr.length : Int) = 0 then (if Qs = 1 then (if Q6 = 0 then (if Za = 1 then ((table_Up.f Qb).bind fun Zw => (if (Zw.length : Int) = 0 then ((table_Others.f Qb Qc).bind fun Zn => (if (Zn.length : Int) = 0 then ((tattlelaw06_awakeT.f).bind fun Z6 => (some Z6)) else (some false))) else (some false))) else (some false)) else (some false)) else (some false)) else (some false)) else (some false)) else (some false)) else (some false))) else (some false)))) = some r := H
         have A52 := qr Uh
         clear Uh
         by_cases c53 : Da = true
         ·subst c53
          have H1 : ((tattleref06_Up.f Q9 Qb).bind fun Qu => ((table_Up.f Qb).bind fun Xk => ((tattleref02_Same.f Q9 Xk Qu).bind fun Xu => (if Xu = true then ((table_Others.f Qb Qc).bind fun Z5 => ((tattleref06_Others.f Q9 Qb Qc).bind fun Zv => ((tattleref02_Same.f Q9 Z5 Zv).bind fun Zr => (tattlelaw06_TableTells.j3 Q9 Qb Qg Q0 Qx Qw Qq Qt Qr Qs Q6 Za Qu (!Zr) Qi Qh Qc Qj Qk)))) else (tattlelaw06_TableTells.j3 Q9 Qb Qg Q0 Qx Qw Qq Qt Qr Qs Q6 Za Qu true Qi Qh Qc Qj Qk))))) = some r := by rw [if_pos rfl] at H;exact H
          clear H
          have H := H1
          clear H1
          replace H := Option.bind_eq_some_iff.mp H
          obtain ⟨Qu,Ui,H⟩ := H
          replace H : ((table_Up.f Qb).bind fun Xk => ((tattleref02_Same.f Q9 Xk Qu).bind fun Xu => (if Xu = true then ((table_Others.f Qb Qc).bind fun Z5 => ((tattleref06_Others.f Q9 Qb Qc).bind fun Zv => ((tattleref02_Same.f Q9 Z5 Zv).bind fun Zr => (tattlelaw06_TableTells.j3 Q9 Qb Qg Q0 Qx Qw Qq Qt Qr Qs Q6 Za Qu (!Zr) Qi Qh Qc Qj Qk)))) else (tattlelaw06_TableTells.j3 Q9 Qb Qg Q0 Qx Qw Qq Qt Qr Qs Q6 Za Qu true Qi Qh Qc Qj Qk)))) = some r := H
          have A54 := qr Ui
          clear Ui
          have Gv := qr H
          clear H
          go_upto_region 17 with (first | ((with_reducible refine qy (f := 39) rfl ?_);refine zm (some 98) rfl rfl Try.func39 (by kernel_rfl) rfl #[.slice Zk Qb.length Zl] rfl (by (try simp only [zc,zd,ze]);first | done | rfl | (simp only [za,zb];rfl)) ?_;(with_reducible refine (tattleref06_May.calls Q9 _ _ Qb true _ ?Qo ?Qp A52.out).mono ?_);(case Qo => repeat (first | exact (Kd.V_reads' Qe.out).2.2 | (with_reducible refine zj ?_ _) | (with_reducible refine zk ?_ _) | (with_reducible refine zl ?_)));(case Qp => exact (Kd.V_reads' Qe.out).2.1);rintro e w56 ⟨rfl,hb⟩;refine ⟨_,rfl,?_⟩;have n0_ := qr (qp (by (with_reducible repeat (first | apply qh | apply qi | apply qj));exact Qe.out) hb);have n1_ := qr (qp (by (with_reducible repeat (first | apply qh | apply qi | apply qj));exact Qm.out) hb);have n2_ := qr (qp (by (with_reducible repeat (first | apply qh | apply qi | apply qj));exact Q1.out) hb);have n3_ := qr (qq (by (with_reducible repeat (first | apply qk | apply ql | apply qm));exact Ql.out) hb);have n4_ := qr (qq (by (with_reducible repeat (first | apply qk | apply ql | apply qm));exact Qf.out) hb);have n5_ := qr (qv (g := Qd) (o := .cells #[.slice Q2 Qi.length Q3,.slice Q4 Qh.length Q5,.int .i64 Qc,.int .u64 Qj,.int .i64 Qk] 69 (0,0)) (by (with_reducible repeat (first | refine qa ?_ _ | refine qb ?_ | refine qc ?_ _));exact Qa.out) hb);have n6_ := qr (qz (by repeat (first | (with_reducible first | exact HB.out | apply qe | apply qf | apply qg | refine qd ?_ Qn.out) | exact HB.out)) hb);clear Qe;clear Qm;clear Q1;clear Ql;clear Qf;clear Qa;clear HB;have Qe := n0_;have Qm := n1_;have Q1 := n2_;have Ql := n3_;have Qf := n4_;have Qa := n5_;have HB := n6_;clear n0_ n1_ n2_ n3_ n4_ n5_ n6_;(try clear hb);(try clear hb2);(try clear hk);(try clear hi)) | ((with_reducible refine qy (f := 41) rfl ?_);refine zm (some 155) rfl rfl Try.func41 (by kernel_rfl) rfl #[.slice Zk Qb.length Zl] rfl (by (try simp only [zc,zd,ze]);first | done | rfl | (simp only [za,zb];rfl)) ?_;(with_reducible refine (tattleref06_Up.calls Q9 _ _ Qb Qu _ ?Qo ?Qp A54.out).mono ?_);(case Qo => repeat (first | exact (Kd.V_reads' Qe.out).2.2 | (with_reducible refine zj ?_ _) | (with_reducible refine zk ?_ _) | (with_reducible refine zl ?_)));(case Qp => exact (Kd.V_reads' Qe.out).2.1);rintro e w57 ⟨Di,rfl,ho0,hb⟩;refine ⟨_,rfl,?_⟩;have n0_ := qr (Kd.V_elder' (by (with_reducible repeat (first | apply qh | apply qi | apply qj));exact Qe.out) (Kd.R_base ho0) hb);have n1_ := qr (Kd.V_elder' (by (with_reducible repeat (first | apply qh | apply qi | apply qj));exact Qm.out) (Kd.R_base ho0) hb);have n2_ := qr (Kd.V_elder' (by (with_reducible repeat (first | apply qh | apply qi | apply qj));exact Q1.out) (Kd.R_base ho0) hb);have n3_ := qr (qq (by (with_reducible repeat (first | apply qk | apply ql | apply qm));exact Ql.out) hb);have n4_ := qr (Kd.R_elder' (by (with_reducible repeat (first | apply qk | apply ql | apply qm));exact Qf.out) (Kd.R_base ho0) hb);have n5_ := qr (zi (Kd.R_new' ho0 (Kd.R_lt (by (with_reducible repeat (first | apply qk | apply ql | apply qm));exact Qf.out))) (below_size (by repeat (first | (with_reducible first | exact HB.out | apply qe | apply qf | apply qg | refine qd ?_ Qn.out) | exact HB.out))));have n6_ := qr (qv (g := Qd) (o := .cells #[.slice Q2 Qi.length Q3,.slice Q4 Qh.length Q5,.int .i64 Qc,.int .u64 Qj,.int .i64 Qk] 69 (0,0)) (by (with_reducible repeat (first | refine qa ?_ _ | refine qb ?_ | refine qc ?_ _));exact Qa.out) hb);have n7_ := qr (qz (by repeat (first | (with_reducible first | exact HB.out | apply qe | apply qf | apply qg | refine qd ?_ Qn.out) | exact HB.out)) hb);clear Qe;clear Qm;clear Q1;clear Ql;clear Qf;clear Qa;clear HB;have Qe := n0_;have Qm := n1_;have Q1 := n2_;have Ql := n3_;have Qf := n4_;have Zb := n5_;have Qa := n6_;have HB := n7_;clear n0_ n1_ n2_ n3_ n4_ n5_ n6_ n7_;(try clear hb);(try clear hb2);(try clear hk);(try clear hi);(try clear ho0)))
          (try simp only [Act.put,qs,qt,qu])
          go_cut [172] (fun Ld wc => ∃ (kq : Nat) (X3 : Bool),Ld = .bool X3 ∧ Aside0 (tattlelaw06_TableTells.j3 kq Qb Qg Q0 Qx Qw Qq Qt Qr Qs Q6 Za Qu X3 Qi Qh Qc Qj Qk = some r) ∧ Aside0 (kq ≤ Q9) ∧ Aside0 (Kd.V k26 26 wc w.heap.size (fun k_ => some k_ ≠ (Zx : Value).ownBlock ∧ some k_ ≠ (Zs : Value).ownBlock ∧ some k_ ≠ (Di : Value).ownBlock ∧ k_ ≠ Qd) (.slice Zk Qb.length Zl) Qb) ∧ Aside0 (Kd.V k26 26 wc w.heap.size (fun k_ => some k_ ≠ (Zx : Value).ownBlock ∧ some k_ ≠ (Zs : Value).ownBlock ∧ some k_ ≠ (Di : Value).ownBlock ∧ k_ ≠ Qd) (.slice X6 Qg.length X7) Qg) ∧ Aside0 (Kd.V k26 26 wc w.heap.size (fun k_ => some k_ ≠ (Zx : Value).ownBlock ∧ some k_ ≠ (Zs : Value).ownBlock ∧ some k_ ≠ (Di : Value).ownBlock ∧ k_ ≠ Qd) Dv Q0) ∧ Aside0 (Kd.R k26 26 wc w.heap.size (fun _ => True) Zx Qq) ∧ Aside0 (Kd.R (Kd.int .i64) 3 wc w.heap.size (fun k_ => some k_ ≠ (Di : Value).ownBlock) Zs Qr) ∧ Aside0 (Kd.R (Kd.int .i64) 3 wc w.heap.size (fun k_ => some k_ ≠ (Zs : Value).ownBlock) Di Qu) ∧ Aside0 (wc.heap[Qd]? = some (.cells #[(.slice Q2 Qi.length Q3),(.slice Q4 Qh.length Q5),.int .i64 Qc,.int .u64 Qj,.int .i64 Qk] 69 (0,0))) ∧ Aside0 (Below w.heap.size w wc))
          case first => as_aux_lemma =>
           have H := Gv.out
           clear Gv
           replace H := Option.bind_eq_some_iff.mp H
           obtain ⟨Xk,Uj,H⟩ := H
           replace H : ((tattleref02_Same.f Q9 Xk Qu).bind fun Xu => (if Xu = true then ((table_Others.f Qb Qc).bind fun Z5 => ((tattleref06_Others.f Q9 Qb Qc).bind fun Zv => ((tattleref02_Same.f Q9 Z5 Zv).bind fun Zr => (tattlelaw06_TableTells.j3 Q9 Qb Qg Q0 Qx Qw Qq Qt Qr Qs Q6 Za Qu (!Zr) Qi Qh Qc Qj Qk)))) else (tattlelaw06_TableTells.j3 Q9 Qb Qg Q0 Qx Qw Qq Qt Qr Qs Q6 Za Qu true Qi Qh Qc Qj Qk))) = some r := H
           have A58 := qr Uj
           clear Uj
           replace H := Option.bind_eq_some_iff.mp H
           obtain ⟨Xu,Uk,H⟩ := H
           replace H : (if Xu = true then ((table_Others.f Qb Qc).bind fun Z5 => ((tattleref06_Others.f Q9 Qb Qc).bind fun Zv => ((tattleref02_Same.f Q9 Z5 Zv).bind fun Zr => (tattlelaw06_TableTells.j3 Q9 Qb Qg Q0 Qx Qw Qq Qt Qr Qs Q6 Za Qu (!Zr) Qi Qh Qc Qj Qk)))) else (tattlelaw06_TableTells.j3 Q9 Qb Qg Q0 Qx Qw Qq Qt Qr Qs Q6 Za Qu true Qi Qh Qc Qj Qk)) = some r := H
           have A59 := qr Uk
           clear Uk
           by_cases c60 : Xu = true
           ·subst c60
            have H1 : ((table_Others.f Qb Qc).bind fun Z5 => ((tattleref06_Others.f Q9 Qb Qc).bind fun Zv => ((tattleref02_Same.f Q9 Z5 Zv).bind fun Zr => (tattlelaw06_TableTells.j3 Q9 Qb Qg Q0 Qx Qw Qq Qt Qr Qs Q6 Za Qu (!Zr) Qi Qh Qc Qj Qk)))) = some r := by rw [if_pos rfl] at H;exact H
            clear H
            have H := H1
            clear H1
            replace H := Option.bind_eq_some_iff.mp H
            obtain ⟨Z5,Ul,H⟩ := H
            replace H : ((tattleref06_Others.f Q9 Qb Qc).bind fun Zv => ((tattleref02_Same.f Q9 Z5 Zv).bind fun Zr => (tattlelaw06_TableTells.j3 Q9 Qb Qg Q0 Qx Qw Qq Qt Qr Qs Q6 Za Qu (!Zr) Qi Qh Qc Qj Qk))) = some r := H
            have A61 := qr Ul
            clear Ul
            replace H := Option.bind_eq_some_iff.mp H
            obtain ⟨Zv,Um,H⟩ := H
            replace H : ((tattleref02_Same.f Q9 Z5 Zv).bind fun Zr => (tattlelaw06_TableTells.j3 Q9 Qb Qg Q0 Qx Qw Qq Qt Qr Qs Q6 Za Qu (!Zr) Qi Qh Qc Qj Qk)) = some r := H
            have A62 := qr Um
            clear Um
            replace H := Option.bind_eq_some_iff.mp H
            obtain ⟨Zr,Un,H⟩ := H
            replace H : (tattlelaw06_TableTells.j3 Q9 Qb Qg Q0 Qx Qw Qq Qt Qr Qs Q6 Za Qu (!Zr) Qi Qh Qc Qj Qk) = some r := H
            have A63 := qr Un
            clear Un
            as_aux_lemma =>
             have H' := qr H
             clear H
             try go_wp2
             have n0_ := qr (qj Qe.out)
             have n1_ := qr (qj Qm.out)
             have n2_ := qr (qj Q1.out)
             have n3_ := qr (qm Ql.out)
             have n4_ := qr (qm Qf.out)
             have n5_ := qr (qm Zb.out)
             have n6_ := qr (qb Qa.out)
             have n7_ := qr (qg HB.out)
             clear Qe
             clear Qm
             clear Q1
             clear Ql
             clear Qf
             clear Zb
             clear Qa
             clear HB
             have Qe := n0_
             have Qm := n1_
             have Q1 := n2_
             have Ql := n3_
             have Qf := n4_
             have Zb := n5_
             have Qa := n6_
             have HB := n7_
             clear n0_ n1_ n2_ n3_ n4_ n5_ n6_ n7_
             refine start_ (n := 17) (S := fun w' => w'.cell? ⟨Qd,0,none⟩ = some (.slice Q2 Qi.length Q3) ∧ w'.cell? ⟨Qd,1,none⟩ = some (.slice Q4 Qh.length Q5) ∧ w'.cell? ⟨Qd,2,none⟩ = some (.int .i64 Qc) ∧ w'.cell? ⟨Qd,3,none⟩ = some (.int .u64 Qj) ∧ w'.cell? ⟨Qd,4,none⟩ = some (.int .i64 Qk)) (ds := []) #[false,false,false,false,false,false,false,false,false,false,false,false,false,false,false,false,false] (by kernel_rfl) rfl rfl ⟨(qw Qa.out 0).trans rfl,(qw Qa.out 1).trans rfl,(qw Qa.out 2).trans rfl,(qw Qa.out 3).trans rfl,(qw Qa.out 4).trans rfl⟩ (fun hHeld => ?_);refine with_tabW tattlelaw06_TableTells.tab17 tattlelaw06_TableTells.bits17 (fun HT_ HW_ => ?_)
             generalize w57.drew = w64 at Qe Qm Q1 Ql Qf Zb Qa HB hHeld ⊢
             refine zf (i := 0) (N := some 156) (v := ?_) (a' := ?_) #[true,false,false,false,false,false,false,false,false,false,false,false,false,false,false,false,false] rfl rfl (any_of HT_.out (by kernel_rfl)) (fun _ _ _ h => h) (Or.inl ⟨by rfl,?_⟩) ?_ ?_
             rotate_left
             ·intro w'
              go_simp
              with_reducible rfl
             rotate_left
             ·simp only [Act.put,qs,qt,qu,i64_w,i32_w]
              rfl
             refine zf (i := 2) (N := some 158) (v := ?_) (a' := ?_) #[true,false,true,false,false,false,false,false,false,false,false,false,false,false,false,false,false] rfl rfl (any_of HT_.out (by kernel_rfl)) (fun _ _ _ h => h) (Or.inl ⟨by rfl,?_⟩) ?_ ?_
             rotate_left
             ·intro w'
              go_simp
              with_reducible rfl
             rotate_left
             ·simp only [Act.put,qs,qt,qu,i64_w,i32_w]
              rfl
             refine one_ (i := 1) (N := some 157) #[true,true,true,false,false,false,false,false,false,false,false,false,false,false,false,false,false] rfl rfl (one_of HT_.out (by kernel_rfl)) (by decide) (fun K hK => ?_)
             refine zn Try.func31 (by kernel_rfl) rfl #[.slice Zk Qb.length Zl] (by rfl) rfl rfl (by (try simp only [zc,zd,ze]);first | done | rfl | (simp only [za,zb];rfl)) ?_
             with_reducible refine (table_Up.calls _ _ Qb Xk _ ?Qo ?Qp A58.out).mono ?_
             (case Qo => repeat (first | exact (Kd.V_reads' Qe.out).2.2 | (with_reducible refine zj ?_ _) | (with_reducible refine zk ?_ _) | (with_reducible refine zl ?_)))
             (case Qp => exact (Kd.V_reads' Qe.out).2.1)
             rintro e w65 ⟨Le,rfl,ho0,hb⟩
             refine ⟨_,rfl,?_⟩
             have n0_ := qr (Kd.V_elder' (by (with_reducible repeat (first | apply qh | apply qi | apply qj));exact Qe.out) (Kd.R_base ho0) hb)
             have n1_ := qr (Kd.V_elder' (by (with_reducible repeat (first | apply qh | apply qi | apply qj));exact Qm.out) (Kd.R_base ho0) hb)
             have n2_ := qr (Kd.V_elder' (by (with_reducible repeat (first | apply qh | apply qi | apply qj));exact Q1.out) (Kd.R_base ho0) hb)
             have n3_ := qr (qq (by (with_reducible repeat (first | apply qk | apply ql | apply qm));exact Ql.out) hb)
             have n4_ := qr (Kd.R_elder' (by (with_reducible repeat (first | apply qk | apply ql | apply qm));exact Qf.out) (Kd.R_base ho0) hb)
             have n5_ := qr (Kd.R_elder' (by (with_reducible repeat (first | apply qk | apply ql | apply qm));exact Zb.out) (Kd.R_base ho0) hb)
             have n6_ := qr (zi (Kd.R_new' (Kd.R_new' ho0 (Kd.R_lt (by (with_reducible repeat (first | apply qk | apply ql | apply qm));exact Qf.out))) (Kd.R_lt (by (with_reducible repeat (first | apply qk | apply ql | apply qm));exact Zb.out))) (below_size (by repeat (first | (with_reducible first | exact HB.out | apply qe | apply qf | apply qg | refine qd ?_ Qn.out) | exact HB.out))))
             have n7_ := qr (qv (g := Qd) (o := .cells #[.slice Q2 Qi.length Q3,.slice Q4 Qh.length Q5,.int .i64 Qc,.int .u64 Qj,.int .i64 Qk] 69 (0,0)) (by (with_reducible repeat (first | refine qa ?_ _ | refine qb ?_ | refine qc ?_ _));exact Qa.out) hb)
             have n8_ := qr (qz (by repeat (first | (with_reducible first | exact HB.out | apply qe | apply qf | apply qg | refine qd ?_ Qn.out) | exact HB.out)) hb)
             clear Qe
             clear Qm
             clear Q1
             clear Ql
             clear Qf
             clear Zb
             clear Qa
             clear HB
             have Qe := n0_
             have Qm := n1_
             have Q1 := n2_
             have Ql := n3_
             have Qf := n4_
             have Zb := n5_
             have Zt := n6_
             have Qa := n7_
             have HB := n8_
             clear n0_ n1_ n2_ n3_ n4_ n5_ n6_ n7_ n8_
             (try clear hb)
             (try clear hb2)
             (try clear hk)
             (try clear hi)
             (try clear ho0)
             obtain ⟨Lf,Lg,Uo⟩ := Kd.R_slice Zt.out
             (first | subst Uo | (injection Uo with f1_ f2_ f3_;have f4_ := f1_.symm;have f5_ := f3_.symm;clear f1_ f2_ f3_;subst f4_;subst f5_))
             obtain ⟨Lh,Li,Up⟩ := Kd.R_slice Zb.out
             (first | subst Up | (injection Up with f1_ f2_ f3_;have f4_ := f1_.symm;have f5_ := f3_.symm;clear f1_ f2_ f3_;subst f4_;subst f5_))
             refine hK.out _ _ ⟨(qw Qa.out 0).trans rfl,(qw Qa.out 1).trans rfl,(qw Qa.out 2).trans rfl,(qw Qa.out 3).trans rfl,(qw Qa.out 4).trans rfl⟩ (fun hHeld => ?_)
             clear hK K
             refine zg (a' := ?_) ?_ ?_
             rotate_left
             ·show Act.put _ (some 157) _ = _
              simp only [Act.put,qs,qt,qu,i64_w,i32_w]
              rfl
             refine one_ (i := 3) (N := some 159) #[true,true,true,true,false,false,false,false,false,false,false,false,false,false,false,false,false] rfl rfl (one_of HT_.out (by kernel_rfl)) (by decide) (fun K hK => ?_)
             refine zn Try.func42 (by kernel_rfl) rfl #[.slice Lf Xk.length Lg,.slice Lh Qu.length Li] (by rfl) rfl rfl (by (try simp only [zc,zd,ze]);first | done | rfl | (simp only [za,zb];rfl)) ?_
             with_reducible refine (tattleref02_Same.calls Q9 _ _ Xk _ _ Qu true _ ?Qo ?Qp ?Zc ?Zd A59.out).mono ?_
             (case Qo => repeat (first | exact (Kd.R_reads' Zt.out).2.2 | (with_reducible refine zj ?_ _) | (with_reducible refine zk ?_ _) | (with_reducible refine zl ?_)))
             (case Qp => exact (Kd.R_reads' Zt.out).2.1)
             (case Zc => repeat (first | exact (Kd.R_reads' Zb.out).2.2 | (with_reducible refine zj ?_ _) | (with_reducible refine zk ?_ _) | (with_reducible refine zl ?_)))
             (case Zd => exact (Kd.R_reads' Zb.out).2.1)
             rintro e w' ⟨rfl,⟨nd,rfl⟩⟩
             refine ⟨_,rfl,?_⟩
             refine hK.out _ _ ⟨(qw Qa.out 0).trans rfl,(qw Qa.out 1).trans rfl,(qw Qa.out 2).trans rfl,(qw Qa.out 3).trans rfl,(qw Qa.out 4).trans rfl⟩ (fun hHeld => ?_)
             clear hK K
             refine zg (a' := ?_) ?_ ?_
             rotate_left
             ·show Act.put _ (some 159) _ = _
              simp only [Act.put,qs,qt,qu,i64_w,i32_w]
              rfl
             refine zf (i := 4) (N := some 160) (v := ?_) (a' := ?_) #[true,true,true,true,true,false,false,false,false,false,false,false,false,false,false,false,false] rfl rfl (any_of HT_.out (by kernel_rfl)) (fun _ _ _ h => h) (Or.inl ⟨by rfl,?_⟩) ?_ ?_
             rotate_left
             ·intro w'
              go_simp
              with_reducible rfl
             rotate_left
             ·simp only [Act.put,qs,qt,qu,i64_w,i32_w]
              rfl
             refine zf (i := 5) (N := some 161) (v := ?_) (a' := ?_) #[true,true,true,true,true,true,false,false,false,false,false,false,false,false,false,false,false] rfl rfl (any_of HT_.out (by kernel_rfl)) (fun _ _ _ h => h) (Or.inl ⟨by rfl,?_⟩) ?_ ?_
             rotate_left
             ·intro w'
              go_simp
              with_reducible rfl
             rotate_left
             ·simp only [Act.put,qs,qt,qu,i64_w,i32_w]
              rfl
             refine zf (i := 6) (N := some 162) (v := ?_) (a' := ?_) #[true,true,true,true,true,true,true,false,false,false,false,false,false,false,false,false,false] rfl rfl (any_of HT_.out (by kernel_rfl)) (fun _ _ _ h => h) (Or.inl ⟨by rfl,?_⟩) ?_ ?_
             rotate_left
             ·intro w'
              go_simp
              with_reducible rfl
             rotate_left
             ·simp only [Act.put,qs,qt,qu,i64_w,i32_w]
              rfl
             refine zf (i := 7) (N := some 163) (v := ?_) (a' := ?_) #[true,true,true,true,true,true,true,true,false,false,false,false,false,false,false,false,false] rfl rfl (any_of HT_.out (by kernel_rfl)) (fun _ _ _ h => h) (Or.inl ⟨by rfl,?_⟩) ?_ ?_
             rotate_left
             ·intro w'
              go_simp
              with_reducible rfl
             rotate_left
             ·simp only [Act.put,qs,qt,qu,i64_w,i32_w]
              rfl
             refine zf (i := 10) (N := some 166) (v := ?_) (a' := ?_) #[true,true,true,true,true,true,true,true,false,false,true,false,false,false,false,false,false] rfl rfl (any_of HT_.out (by kernel_rfl)) (fun _ _ _ h => h) (Or.inl ⟨by rfl,?_⟩) ?_ ?_
             rotate_left
             ·intro w'
              go_simp
              with_reducible rfl
             rotate_left
             ·simp only [Act.put,qs,qt,qu,i64_w,i32_w]
              rfl
             refine zf (i := 11) (N := some 167) (v := ?_) (a' := ?_) #[true,true,true,true,true,true,true,true,false,false,true,true,false,false,false,false,false] rfl rfl (any_of HT_.out (by kernel_rfl)) (fun _ _ _ h => h) (Or.inl ⟨by rfl,?_⟩) ?_ ?_
             rotate_left
             ·intro w'
              go_simp
              with_reducible rfl
             rotate_left
             ·simp only [Act.put,qs,qt,qu,i64_w,i32_w]
              rfl
             refine take_ (i := 8) (N := some 164) (v := ?_) (a' := ?_) #[true,true,true,true,true,true,true,true,true,false,true,true,false,false,false,false,false] rfl rfl (take_ofW HT_.out HW_.out (by kernel_rfl)) (fun _ _ _ h => h) (Or.inl ⟨by rfl,?_⟩) hHeld ?_ ?_
             rotate_left
             ·rintro w' ⟨s0,s1,s2,s3,s4⟩
              go_simp
              with_reducible rfl
             rotate_left
             ·simp only [Act.put,qs,qt,qu,i64_w,i32_w]
              rfl
             refine take_ (i := 12) (N := some 168) (v := ?_) (a' := ?_) #[true,true,true,true,true,true,true,true,true,false,true,true,true,false,false,false,false] rfl rfl (take_ofW HT_.out HW_.out (by kernel_rfl)) (fun _ _ _ h => h) (Or.inl ⟨by rfl,?_⟩) hHeld ?_ ?_
             rotate_left
             ·rintro w' ⟨s0,s1,s2,s3,s4⟩
              go_simp
              with_reducible rfl
             rotate_left
             ·simp only [Act.put,qs,qt,qu,i64_w,i32_w]
              rfl
             refine one_ (i := 9) (N := some 165) #[true,true,true,true,true,true,true,true,true,true,true,true,true,false,false,false,false] rfl rfl (one_of HT_.out (by kernel_rfl)) (by decide) (fun K hK => ?_)
             refine zn Try.func34 (by kernel_rfl) rfl #[.slice Zk Qb.length Zl,.int .i64 Qc] (by rfl) rfl rfl (by (try simp only [zc,zd,ze]);first | done | rfl | (simp only [za,zb];rfl)) ?_
             with_reducible refine (table_Others.calls _ _ Qb Qc Z5 _ ?Qo ?Qp A61.out).mono ?_
             (case Qo => repeat (first | exact (Kd.V_reads' Qe.out).2.2 | (with_reducible refine zj ?_ _) | (with_reducible refine zk ?_ _) | (with_reducible refine zl ?_)))
             (case Qp => exact (Kd.V_reads' Qe.out).2.1)
             rintro e w68 ⟨P3,rfl,ho0,hb⟩
             refine ⟨_,rfl,?_⟩
             have n0_ := qr (Kd.V_elder' (by (with_reducible repeat (first | apply qh | apply qi | apply qj));exact Qe.out) (Kd.R_base ho0) hb)
             have n1_ := qr (Kd.V_elder' (by (with_reducible repeat (first | apply qh | apply qi | apply qj));exact Qm.out) (Kd.R_base ho0) hb)
             have n2_ := qr (Kd.V_elder' (by (with_reducible repeat (first | apply qh | apply qi | apply qj));exact Q1.out) (Kd.R_base ho0) hb)
             have n3_ := qr (qq (by (with_reducible repeat (first | apply qk | apply ql | apply qm));exact Ql.out) hb)
             have n4_ := qr (Kd.R_elder' (by (with_reducible repeat (first | apply qk | apply ql | apply qm));exact Qf.out) (Kd.R_base ho0) hb)
             have n5_ := qr (Kd.R_elder' (by (with_reducible repeat (first | apply qk | apply ql | apply qm));exact Zb.out) (Kd.R_base ho0) hb)
             have n6_ := qr (Kd.R_elder' (by (with_reducible repeat (first | apply qk | apply ql | apply qm));exact Zt.out) (Kd.R_base ho0) hb)
             have n7_ := qr (zi (Kd.R_new' (Kd.R_new' (Kd.R_new' ho0 (Kd.R_lt (by (with_reducible repeat (first | apply qk | apply ql | apply qm));exact Qf.out))) (Kd.R_lt (by (with_reducible repeat (first | apply qk | apply ql | apply qm));exact Zb.out))) (Kd.R_lt (by (with_reducible repeat (first | apply qk | apply ql | apply qm));exact Zt.out))) (below_size (by repeat (first | (with_reducible first | exact HB.out | apply qe | apply qf | apply qg | refine qd ?_ Qn.out) | exact HB.out))))
             have n8_ := qr (qv (g := Qd) (o := .cells #[.slice Q2 Qi.length Q3,.slice Q4 Qh.length Q5,.int .i64 Qc,.int .u64 Qj,.int .i64 Qk] 69 (0,0)) (by (with_reducible repeat (first | refine qa ?_ _ | refine qb ?_ | refine qc ?_ _));exact Qa.out) hb)
             have n9_ := qr (qz (by repeat (first | (with_reducible first | exact HB.out | apply qe | apply qf | apply qg | refine qd ?_ Qn.out) | exact HB.out)) hb)
             clear Qe
             clear Qm
             clear Q1
             clear Ql
             clear Qf
             clear Zb
             clear Zt
             clear Qa
             clear HB
             have Qe := n0_
             have Qm := n1_
             have Q1 := n2_
             have Ql := n3_
             have Qf := n4_
             have Zb := n5_
             have Zt := n6_
             have X8 := n7_
             have Qa := n8_
             have HB := n9_
             clear n0_ n1_ n2_ n3_ n4_ n5_ n6_ n7_ n8_ n9_
             (try clear hb)
             (try clear hb2)
             (try clear hk)
             (try clear hi)
             (try clear ho0)
             refine hK.out _ _ ⟨(qw Qa.out 0).trans rfl,(qw Qa.out 1).trans rfl,(qw Qa.out 2).trans rfl,(qw Qa.out 3).trans rfl,(qw Qa.out 4).trans rfl⟩ (fun hHeld => ?_)
             clear hK K
             refine zg (a' := ?_) ?_ ?_
             rotate_left
             ·show Act.put _ (some 165) _ = _
              simp only [Act.put,qs,qt,qu,i64_w,i32_w]
              rfl
             refine one_ (i := 13) (N := some 169) #[true,true,true,true,true,true,true,true,true,true,true,true,true,true,false,false,false] rfl rfl (one_of HT_.out (by kernel_rfl)) (by decide) (fun K hK => ?_)
             refine zn Try.func43 (by kernel_rfl) rfl #[.slice Zk Qb.length Zl,.int .i64 Qc] (by rfl) rfl rfl (by (try simp only [zc,zd,ze]);first | done | rfl | (simp only [za,zb];rfl)) ?_
             with_reducible refine (tattleref06_Others.calls Q9 _ _ Qb Qc Zv _ ?Qo ?Qp A62.out).mono ?_
             (case Qo => repeat (first | exact (Kd.V_reads' Qe.out).2.2 | (with_reducible refine zj ?_ _) | (with_reducible refine zk ?_ _) | (with_reducible refine zl ?_)))
             (case Qp => exact (Kd.V_reads' Qe.out).2.1)
             rintro e w69 ⟨P4,rfl,ho0,hb⟩
             refine ⟨_,rfl,?_⟩
             have n0_ := qr (Kd.V_elder' (by (with_reducible repeat (first | apply qh | apply qi | apply qj));exact Qe.out) (Kd.R_base ho0) hb)
             have n1_ := qr (Kd.V_elder' (by (with_reducible repeat (first | apply qh | apply qi | apply qj));exact Qm.out) (Kd.R_base ho0) hb)
             have n2_ := qr (Kd.V_elder' (by (with_reducible repeat (first | apply qh | apply qi | apply qj));exact Q1.out) (Kd.R_base ho0) hb)
             have n3_ := qr (qq (by (with_reducible repeat (first | apply qk | apply ql | apply qm));exact Ql.out) hb)
             have n4_ := qr (Kd.R_elder' (by (with_reducible repeat (first | apply qk | apply ql | apply qm));exact Qf.out) (Kd.R_base ho0) hb)
             have n5_ := qr (Kd.R_elder' (by (with_reducible repeat (first | apply qk | apply ql | apply qm));exact Zb.out) (Kd.R_base ho0) hb)
             have n6_ := qr (Kd.R_elder' (by (with_reducible repeat (first | apply qk | apply ql | apply qm));exact Zt.out) (Kd.R_base ho0) hb)
             have n7_ := qr (Kd.R_elder' (by (with_reducible repeat (first | apply qk | apply ql | apply qm));exact X8.out) (Kd.R_base ho0) hb)
             have n8_ := qr (zi (Kd.R_new' (Kd.R_new' (Kd.R_new' (Kd.R_new' ho0 (Kd.R_lt (by (with_reducible repeat (first | apply qk | apply ql | apply qm));exact Qf.out))) (Kd.R_lt (by (with_reducible repeat (first | apply qk | apply ql | apply qm));exact Zb.out))) (Kd.R_lt (by (with_reducible repeat (first | apply qk | apply ql | apply qm));exact Zt.out))) (Kd.R_lt (by (with_reducible repeat (first | apply qk | apply ql | apply qm));exact X8.out))) (below_size (by repeat (first | (with_reducible first | exact HB.out | apply qe | apply qf | apply qg | refine qd ?_ Qn.out) | exact HB.out))))
             have n9_ := qr (qv (g := Qd) (o := .cells #[.slice Q2 Qi.length Q3,.slice Q4 Qh.length Q5,.int .i64 Qc,.int .u64 Qj,.int .i64 Qk] 69 (0,0)) (by (with_reducible repeat (first | refine qa ?_ _ | refine qb ?_ | refine qc ?_ _));exact Qa.out) hb)
             have Uq := qr (qz (by repeat (first | (with_reducible first | exact HB.out | apply qe | apply qf | apply qg | refine qd ?_ Qn.out) | exact HB.out)) hb)
             clear Qe
             clear Qm
             clear Q1
             clear Ql
             clear Qf
             clear Zb
             clear Zt
             clear X8
             clear Qa
             clear HB
             have Qe := n0_
             have Qm := n1_
             have Q1 := n2_
             have Ql := n3_
             have Qf := n4_
             have Zb := n5_
             have Zt := n6_
             have X8 := n7_
             have Dj := n8_
             have Qa := n9_
             have HB := Uq
             clear n0_ n1_ n2_ n3_ n4_ n5_ n6_ n7_ n8_ n9_ Uq
             (try clear hb)
             (try clear hb2)
             (try clear hk)
             (try clear hi)
             (try clear ho0)
             obtain ⟨Lj,Lk,Ur⟩ := Kd.R_slice X8.out
             (first | subst Ur | (injection Ur with f1_ f2_ f3_;have f4_ := f1_.symm;have f5_ := f3_.symm;clear f1_ f2_ f3_;subst f4_;subst f5_))
             obtain ⟨Ll,Lm,Us⟩ := Kd.R_slice Dj.out
             (first | subst Us | (injection Us with f1_ f2_ f3_;have f4_ := f1_.symm;have f5_ := f3_.symm;clear f1_ f2_ f3_;subst f4_;subst f5_))
             refine hK.out _ _ ⟨(qw Qa.out 0).trans rfl,(qw Qa.out 1).trans rfl,(qw Qa.out 2).trans rfl,(qw Qa.out 3).trans rfl,(qw Qa.out 4).trans rfl⟩ (fun hHeld => ?_)
             clear hK K
             refine zg (a' := ?_) ?_ ?_
             rotate_left
             ·show Act.put _ (some 169) _ = _
              simp only [Act.put,qs,qt,qu,i64_w,i32_w]
              rfl
             refine one_ (i := 14) (N := some 170) #[true,true,true,true,true,true,true,true,true,true,true,true,true,true,true,false,false] rfl rfl (one_of HT_.out (by kernel_rfl)) (by decide) (fun K hK => ?_)
             refine zn Try.func42 (by kernel_rfl) rfl #[.slice Lj Z5.length Lk,.slice Ll Zv.length Lm] (by rfl) rfl rfl (by (try simp only [zc,zd,ze]);first | done | rfl | (simp only [za,zb];rfl)) ?_
             with_reducible refine (tattleref02_Same.calls Q9 _ _ Z5 _ _ Zv Zr _ ?Qo ?Qp ?Zc ?Zd A63.out).mono ?_
             (case Qo => repeat (first | exact (Kd.R_reads' X8.out).2.2 | (with_reducible refine zj ?_ _) | (with_reducible refine zk ?_ _) | (with_reducible refine zl ?_)))
             (case Qp => exact (Kd.R_reads' X8.out).2.1)
             (case Zc => repeat (first | exact (Kd.R_reads' Dj.out).2.2 | (with_reducible refine zj ?_ _) | (with_reducible refine zk ?_ _) | (with_reducible refine zl ?_)))
             (case Zd => exact (Kd.R_reads' Dj.out).2.1)
             rintro e w' ⟨rfl,⟨nd,rfl⟩⟩
             refine ⟨_,rfl,?_⟩
             refine hK.out _ _ ⟨(qw Qa.out 0).trans rfl,(qw Qa.out 1).trans rfl,(qw Qa.out 2).trans rfl,(qw Qa.out 3).trans rfl,(qw Qa.out 4).trans rfl⟩ (fun hHeld => ?_)
             clear hK K
             refine zg (a' := ?_) ?_ ?_
             rotate_left
             ·show Act.put _ (some 170) _ = _
              simp only [Act.put,qs,qt,qu,i64_w,i32_w]
              rfl
             refine zf (i := 15) (N := some 171) (v := ?_) (a' := ?_) #[true,true,true,true,true,true,true,true,true,true,true,true,true,true,true,true,false] rfl rfl (any_of HT_.out (by kernel_rfl)) (fun _ _ _ h => h) (Or.inl ⟨by rfl,?_⟩) ?_ ?_
             rotate_left
             ·intro w'
              go_simp
              with_reducible rfl
             rotate_left
             ·simp only [Act.put,qs,qt,qu,i64_w,i32_w]
              rfl
             refine zf (i := 16) (N := some 172) (v := ?_) (a' := ?_) #[true,true,true,true,true,true,true,true,true,true,true,true,true,true,true,true,true] rfl rfl (any_of HT_.out (by kernel_rfl)) (fun _ _ _ h => h) (Or.inl ⟨by rfl,?_⟩) ?_ ?_
             rotate_left
             ·intro w'
              go_simp
              with_reducible rfl
             rotate_left
             ·simp only [Act.put,qs,qt,qu,i64_w,i32_w]
              rfl
             refine done_ (done_of HT_.out (by kernel_rfl)) ?_
             try go_wp2
             go_meet
             case rel => exact ⟨_,(!Zr),(by first | rfl | (simp;done) | (simp [*];done)),H',⟨by have := HJ4.out;have := Xg.out;have := Xl.out;first | omega | exact zh _⟩,⟨by (with_reducible repeat (first | apply qh | apply qi | apply qj));exact qn Qe.out (fun _ hk => ⟨hk.1.1.1.1.1,⟨hk.1.1.1.1.2.1,⟨hk.1.1.1.2,hk.1.1.1.1.2.2⟩⟩⟩)⟩,⟨by (with_reducible repeat (first | apply qh | apply qi | apply qj));exact qn Qm.out (fun _ hk => ⟨hk.1.1.1.1.1,⟨hk.1.1.1.1.2.1,⟨hk.1.1.1.2,hk.1.1.1.1.2.2⟩⟩⟩)⟩,⟨by (with_reducible repeat (first | apply qh | apply qi | apply qj));exact qn Q1.out (fun _ hk => ⟨hk.1.1.1.1.1,⟨hk.1.1.1.1.2.1,⟨hk.1.1.1.2,hk.1.1.1.1.2.2⟩⟩⟩)⟩,⟨by (with_reducible repeat (first | apply qk | apply ql | apply qm));exact Ql.out⟩,⟨by (with_reducible repeat (first | apply qk | apply ql | apply qm));exact qo Qf.out (fun _ hk => hk.1.1.1.2)⟩,⟨by (with_reducible repeat (first | apply qk | apply ql | apply qm));exact qo Zb.out (fun _ hk => hk.1.1.1.2)⟩,⟨by (with_reducible repeat (first | refine qa ?_ _ | refine qb ?_ | refine qc ?_ _));exact Qa.out⟩,⟨by repeat (first | (with_reducible first | exact HB.out | apply qe | apply qf | apply qg | refine qd ?_ Qn.out) | exact HB.out)⟩⟩
           ·replace c60 := Bool.eq_false_iff.mpr c60
            subst c60
            have H1 : (tattlelaw06_TableTells.j3 Q9 Qb Qg Q0 Qx Qw Qq Qt Qr Qs Q6 Za Qu true Qi Qh Qc Qj Qk) = some r := by rw [if_neg (show ¬ (false = true) by decide)] at H;exact H
            clear H
            have H := H1
            clear H1
            as_aux_lemma =>
             have H' := qr H
             clear H
             try go_wp2
             have n0_ := qr (qj Qe.out)
             have n1_ := qr (qj Qm.out)
             have n2_ := qr (qj Q1.out)
             have n3_ := qr (qm Ql.out)
             have n4_ := qr (qm Qf.out)
             have n5_ := qr (qm Zb.out)
             have n6_ := qr (qb Qa.out)
             have n7_ := qr (qg HB.out)
             clear Qe
             clear Qm
             clear Q1
             clear Ql
             clear Qf
             clear Zb
             clear Qa
             clear HB
             have Qe := n0_
             have Qm := n1_
             have Q1 := n2_
             have Ql := n3_
             have Qf := n4_
             have Zb := n5_
             have Qa := n6_
             have HB := n7_
             clear n0_ n1_ n2_ n3_ n4_ n5_ n6_ n7_
             refine start_ (n := 17) (S := fun w' => True) (ds := []) #[false,false,false,false,false,false,false,false,false,false,false,false,false,false,false,false,false] (by kernel_rfl) rfl rfl trivial (fun hHeld => ?_);refine with_tabW tattlelaw06_TableTells.tab17 tattlelaw06_TableTells.bits17 (fun HT_ HW_ => ?_)
             generalize w57.drew = w72 at Qe Qm Q1 Ql Qf Zb Qa HB hHeld ⊢
             refine zf (i := 0) (N := some 156) (v := ?_) (a' := ?_) #[true,false,false,false,false,false,false,false,false,false,false,false,false,false,false,false,false] rfl rfl (any_of HT_.out (by kernel_rfl)) (fun _ _ _ h => h) (Or.inl ⟨by rfl,?_⟩) ?_ ?_
             rotate_left
             ·intro w'
              go_simp
              with_reducible rfl
             rotate_left
             ·simp only [Act.put,qs,qt,qu,i64_w,i32_w]
              rfl
             refine zf (i := 2) (N := some 158) (v := ?_) (a' := ?_) #[true,false,true,false,false,false,false,false,false,false,false,false,false,false,false,false,false] rfl rfl (any_of HT_.out (by kernel_rfl)) (fun _ _ _ h => h) (Or.inl ⟨by rfl,?_⟩) ?_ ?_
             rotate_left
             ·intro w'
              go_simp
              with_reducible rfl
             rotate_left
             ·simp only [Act.put,qs,qt,qu,i64_w,i32_w]
              rfl
             refine one_ (i := 1) (N := some 157) #[true,true,true,false,false,false,false,false,false,false,false,false,false,false,false,false,false] rfl rfl (one_of HT_.out (by kernel_rfl)) (by decide) (fun K hK => ?_)
             refine zn Try.func31 (by kernel_rfl) rfl #[.slice Zk Qb.length Zl] (by rfl) rfl rfl (by (try simp only [zc,zd,ze]);first | done | rfl | (simp only [za,zb];rfl)) ?_
             with_reducible refine (table_Up.calls _ _ Qb Xk _ ?Qo ?Qp A58.out).mono ?_
             (case Qo => repeat (first | exact (Kd.V_reads' Qe.out).2.2 | (with_reducible refine zj ?_ _) | (with_reducible refine zk ?_ _) | (with_reducible refine zl ?_)))
             (case Qp => exact (Kd.V_reads' Qe.out).2.1)
             rintro e w73 ⟨Le,rfl,ho0,hb⟩
             refine ⟨_,rfl,?_⟩
             have n0_ := qr (Kd.V_elder' (by (with_reducible repeat (first | apply qh | apply qi | apply qj));exact Qe.out) (Kd.R_base ho0) hb)
             have n1_ := qr (Kd.V_elder' (by (with_reducible repeat (first | apply qh | apply qi | apply qj));exact Qm.out) (Kd.R_base ho0) hb)
             have n2_ := qr (Kd.V_elder' (by (with_reducible repeat (first | apply qh | apply qi | apply qj));exact Q1.out) (Kd.R_base ho0) hb)
             have n3_ := qr (qq (by (with_reducible repeat (first | apply qk | apply ql | apply qm));exact Ql.out) hb)
             have n4_ := qr (Kd.R_elder' (by (with_reducible repeat (first | apply qk | apply ql | apply qm));exact Qf.out) (Kd.R_base ho0) hb)
             have n5_ := qr (Kd.R_elder' (by (with_reducible repeat (first | apply qk | apply ql | apply qm));exact Zb.out) (Kd.R_base ho0) hb)
             have n6_ := qr (zi (Kd.R_new' (Kd.R_new' ho0 (Kd.R_lt (by (with_reducible repeat (first | apply qk | apply ql | apply qm));exact Qf.out))) (Kd.R_lt (by (with_reducible repeat (first | apply qk | apply ql | apply qm));exact Zb.out))) (below_size (by repeat (first | (with_reducible first | exact HB.out | apply qe | apply qf | apply qg | refine qd ?_ Qn.out) | exact HB.out))))
             have n7_ := qr (qv (g := Qd) (o := .cells #[.slice Q2 Qi.length Q3,.slice Q4 Qh.length Q5,.int .i64 Qc,.int .u64 Qj,.int .i64 Qk] 69 (0,0)) (by (with_reducible repeat (first | refine qa ?_ _ | refine qb ?_ | refine qc ?_ _));exact Qa.out) hb)
             have n8_ := qr (qz (by repeat (first | (with_reducible first | exact HB.out | apply qe | apply qf | apply qg | refine qd ?_ Qn.out) | exact HB.out)) hb)
             clear Qe
             clear Qm
             clear Q1
             clear Ql
             clear Qf
             clear Zb
             clear Qa
             clear HB
             have Qe := n0_
             have Qm := n1_
             have Q1 := n2_
             have Ql := n3_
             have Qf := n4_
             have Zb := n5_
             have Zt := n6_
             have Qa := n7_
             have HB := n8_
             clear n0_ n1_ n2_ n3_ n4_ n5_ n6_ n7_ n8_
             (try clear hb)
             (try clear hb2)
             (try clear hk)
             (try clear hi)
             (try clear ho0)
             obtain ⟨Ln,Lo,Ut⟩ := Kd.R_slice Zt.out
             (first | subst Ut | (injection Ut with f1_ f2_ f3_;have f4_ := f1_.symm;have f5_ := f3_.symm;clear f1_ f2_ f3_;subst f4_;subst f5_))
             obtain ⟨Lp,Lq,Uu⟩ := Kd.R_slice Zb.out
             (first | subst Uu | (injection Uu with f1_ f2_ f3_;have f4_ := f1_.symm;have f5_ := f3_.symm;clear f1_ f2_ f3_;subst f4_;subst f5_))
             refine hK.out _ _ trivial (fun hHeld => ?_)
             clear hK K
             refine zg (a' := ?_) ?_ ?_
             rotate_left
             ·show Act.put _ (some 157) _ = _
              simp only [Act.put,qs,qt,qu,i64_w,i32_w]
              rfl
             refine one_ (i := 3) (N := some 159) #[true,true,true,true,false,false,false,false,false,false,false,false,false,false,false,false,false] rfl rfl (one_of HT_.out (by kernel_rfl)) (by decide) (fun K hK => ?_)
             refine zn Try.func42 (by kernel_rfl) rfl #[.slice Ln Xk.length Lo,.slice Lp Qu.length Lq] (by rfl) rfl rfl (by (try simp only [zc,zd,ze]);first | done | rfl | (simp only [za,zb];rfl)) ?_
             with_reducible refine (tattleref02_Same.calls Q9 _ _ Xk _ _ Qu false _ ?Qo ?Qp ?Zc ?Zd A59.out).mono ?_
             (case Qo => repeat (first | exact (Kd.R_reads' Zt.out).2.2 | (with_reducible refine zj ?_ _) | (with_reducible refine zk ?_ _) | (with_reducible refine zl ?_)))
             (case Qp => exact (Kd.R_reads' Zt.out).2.1)
             (case Zc => repeat (first | exact (Kd.R_reads' Zb.out).2.2 | (with_reducible refine zj ?_ _) | (with_reducible refine zk ?_ _) | (with_reducible refine zl ?_)))
             (case Zd => exact (Kd.R_reads' Zb.out).2.1)
             rintro e w' ⟨rfl,⟨nd,rfl⟩⟩
             refine ⟨_,rfl,?_⟩
             refine hK.out _ _ trivial (fun hHeld => ?_)
             clear hK K
             refine zg (a' := ?_) ?_ ?_
             rotate_left
             ·show Act.put _ (some 159) _ = _
              simp only [Act.put,qs,qt,qu,i64_w,i32_w]
              rfl
             refine zf (i := 4) (N := some 160) (v := ?_) (a' := ?_) #[true,true,true,true,true,false,false,false,false,false,false,false,false,false,false,false,false] rfl rfl (any_of HT_.out (by kernel_rfl)) (fun _ _ _ h => h) (Or.inl ⟨by rfl,?_⟩) ?_ ?_
             rotate_left
             ·intro w'
              go_simp
              with_reducible rfl
             rotate_left
             ·simp only [Act.put,qs,qt,qu,i64_w,i32_w]
              rfl
             refine zf (i := 5) (N := some 161) (v := ?_) (a' := ?_) #[true,true,true,true,true,true,false,false,false,false,false,false,false,false,false,false,false] rfl rfl (any_of HT_.out (by kernel_rfl)) (fun _ _ _ h => h) (Or.inl ⟨by rfl,?_⟩) ?_ ?_
             rotate_left
             ·intro w'
              go_simp
              with_reducible rfl
             rotate_left
             ·simp only [Act.put,qs,qt,qu,i64_w,i32_w]
              rfl
             refine zf (i := 6) (N := some 162) (v := undef) (a' := ?_) #[true,true,true,true,true,true,true,false,false,false,false,false,false,false,false,false,false] rfl rfl (any_of HT_.out (by kernel_rfl)) (fun _ _ _ h => h) (Or.inr ⟨by rfl,rfl⟩) ?_ ?_
             rotate_left
             ·simp only [Act.put,qs,qt,qu,i64_w,i32_w]
              rfl
             refine zf (i := 7) (N := some 163) (v := undef) (a' := ?_) #[true,true,true,true,true,true,true,true,false,false,false,false,false,false,false,false,false] rfl rfl (any_of HT_.out (by kernel_rfl)) (fun _ _ _ h => h) (Or.inr ⟨by rfl,rfl⟩) ?_ ?_
             rotate_left
             ·simp only [Act.put,qs,qt,qu,i64_w,i32_w]
              rfl
             refine zf (i := 8) (N := some 164) (v := undef) (a' := ?_) #[true,true,true,true,true,true,true,true,true,false,false,false,false,false,false,false,false] rfl rfl (any_of HT_.out (by kernel_rfl)) (fun _ _ _ h => h) (Or.inr ⟨by rfl,rfl⟩) ?_ ?_
             rotate_left
             ·simp only [Act.put,qs,qt,qu,i64_w,i32_w]
              rfl
             refine zf (i := 9) (N := some 165) (v := undef) (a' := ?_) #[true,true,true,true,true,true,true,true,true,true,false,false,false,false,false,false,false] rfl rfl (any_of HT_.out (by kernel_rfl)) (fun _ _ _ h => h) (Or.inr ⟨by rfl,rfl⟩) ?_ ?_
             rotate_left
             ·simp only [Act.put,qs,qt,qu,i64_w,i32_w]
              rfl
             refine zf (i := 10) (N := some 166) (v := undef) (a' := ?_) #[true,true,true,true,true,true,true,true,true,true,true,false,false,false,false,false,false] rfl rfl (any_of HT_.out (by kernel_rfl)) (fun _ _ _ h => h) (Or.inr ⟨by rfl,rfl⟩) ?_ ?_
             rotate_left
             ·simp only [Act.put,qs,qt,qu,i64_w,i32_w]
              rfl
             refine zf (i := 11) (N := some 167) (v := undef) (a' := ?_) #[true,true,true,true,true,true,true,true,true,true,true,true,false,false,false,false,false] rfl rfl (any_of HT_.out (by kernel_rfl)) (fun _ _ _ h => h) (Or.inr ⟨by rfl,rfl⟩) ?_ ?_
             rotate_left
             ·simp only [Act.put,qs,qt,qu,i64_w,i32_w]
              rfl
             refine zf (i := 12) (N := some 168) (v := undef) (a' := ?_) #[true,true,true,true,true,true,true,true,true,true,true,true,true,false,false,false,false] rfl rfl (any_of HT_.out (by kernel_rfl)) (fun _ _ _ h => h) (Or.inr ⟨by rfl,rfl⟩) ?_ ?_
             rotate_left
             ·simp only [Act.put,qs,qt,qu,i64_w,i32_w]
              rfl
             refine zf (i := 13) (N := some 169) (v := undef) (a' := ?_) #[true,true,true,true,true,true,true,true,true,true,true,true,true,true,false,false,false] rfl rfl (any_of HT_.out (by kernel_rfl)) (fun _ _ _ h => h) (Or.inr ⟨by rfl,rfl⟩) ?_ ?_
             rotate_left
             ·simp only [Act.put,qs,qt,qu,i64_w,i32_w]
              rfl
             refine zf (i := 14) (N := some 170) (v := undef) (a' := ?_) #[true,true,true,true,true,true,true,true,true,true,true,true,true,true,true,false,false] rfl rfl (any_of HT_.out (by kernel_rfl)) (fun _ _ _ h => h) (Or.inr ⟨by rfl,rfl⟩) ?_ ?_
             rotate_left
             ·simp only [Act.put,qs,qt,qu,i64_w,i32_w]
              rfl
             refine zf (i := 15) (N := some 171) (v := undef) (a' := ?_) #[true,true,true,true,true,true,true,true,true,true,true,true,true,true,true,true,false] rfl rfl (any_of HT_.out (by kernel_rfl)) (fun _ _ _ h => h) (Or.inr ⟨by rfl,rfl⟩) ?_ ?_
             rotate_left
             ·simp only [Act.put,qs,qt,qu,i64_w,i32_w]
              rfl
             refine zf (i := 16) (N := some 172) (v := ?_) (a' := ?_) #[true,true,true,true,true,true,true,true,true,true,true,true,true,true,true,true,true] rfl rfl (any_of HT_.out (by kernel_rfl)) (fun _ _ _ h => h) (Or.inl ⟨by rfl,?_⟩) ?_ ?_
             rotate_left
             ·intro w'
              go_simp
              with_reducible rfl
             rotate_left
             ·simp only [Act.put,qs,qt,qu,i64_w,i32_w]
              rfl
             refine done_ (done_of HT_.out (by kernel_rfl)) ?_
             try go_wp2
             go_meet
             case rel => exact ⟨_,(true),(by first | rfl | (simp;done) | (simp [*];done)),H',⟨by have := HJ4.out;have := Xg.out;have := Xl.out;first | omega | exact zh _⟩,⟨by (with_reducible repeat (first | apply qh | apply qi | apply qj));exact qn Qe.out (fun _ hk => ⟨hk.1.1.1,⟨hk.1.1.2.1,⟨hk.1.2,hk.1.1.2.2⟩⟩⟩)⟩,⟨by (with_reducible repeat (first | apply qh | apply qi | apply qj));exact qn Qm.out (fun _ hk => ⟨hk.1.1.1,⟨hk.1.1.2.1,⟨hk.1.2,hk.1.1.2.2⟩⟩⟩)⟩,⟨by (with_reducible repeat (first | apply qh | apply qi | apply qj));exact qn Q1.out (fun _ hk => ⟨hk.1.1.1,⟨hk.1.1.2.1,⟨hk.1.2,hk.1.1.2.2⟩⟩⟩)⟩,⟨by (with_reducible repeat (first | apply qk | apply ql | apply qm));exact Ql.out⟩,⟨by (with_reducible repeat (first | apply qk | apply ql | apply qm));exact qo Qf.out (fun _ hk => hk.1.2)⟩,⟨by (with_reducible repeat (first | apply qk | apply ql | apply qm));exact qo Zb.out (fun _ hk => hk.1.2)⟩,⟨by (with_reducible repeat (first | refine qa ?_ _ | refine qb ?_ | refine qc ?_ _));exact Qa.out⟩,⟨by repeat (first | (with_reducible first | exact HB.out | apply qe | apply qf | apply qg | refine qd ?_ Qn.out) | exact HB.out)⟩⟩
          case rest => as_aux_lemma =>
           clear Gv
           try clear p2
           try clear c3
           try clear c4
           try clear c5
           try clear c6
           try clear c31
           try clear c34
           try clear c39
           try clear c41
           try clear c42
           try clear c43
           try clear c51
           try clear c53
           try clear c60
           try clear Zz
           try clear Z0
           try clear Z1
           try clear Z2
           try clear Z3
           try clear Z4
           try clear Xb
           try clear Xc
           try clear Xd
           try clear Xe
           try clear Xf
           try clear Xm
           try clear Xn
           try clear Xo
           try clear Xp
           try clear Xq
           try clear p2
           obtain ⟨kq,X3,rfl,HA,Xs,Qe,Qm,Q1,Ql,Qf,Xh,Qa,HB⟩ := hcut
           cases kq with
           | zero => exact absurd HA.out (by simp [tattlelaw06_TableTells.j3])
           | succ Jq =>
            have H := HA.out
            clear HA
            simp only [tattlelaw06_TableTells.j3] at H
            by_cases c76 : X3 = true
            ·subst c76
             have H1 : (some false) = some r := by rw [if_pos rfl] at H;exact H
             clear H
             have H := H1
             clear H1
             as_aux_lemma =>
              exact absurd ((Option.some.inj H).trans hrt.out) (by decide)
            ·replace c76 := Bool.eq_false_iff.mpr c76
             subst c76
             have H1 : (if (Qu.length : Int) = 0 then (if Q6 = 0 then (if Za = 6 then (if (Qu.length : Int) > 0 then (if 0 < (Qu.length : Int) then (if Q6 = (rd Qu 0) then (tattlelaw06_TableTells.j4 Jq Qb Qg Q0 Qx Qw Qq Qt Qr Qs (Za != 0) Qi Qh Qc Qj Qk) else (tattlelaw06_TableTells.j4 Jq Qb Qg Q0 Qx Qw Qq Qt Qr Qs true Qi Qh Qc Qj Qk)) else (none)) else (tattlelaw06_TableTells.j4 Jq Qb Qg Q0 Qx Qw Qq Qt Qr Qs false Qi Qh Qc Qj Qk)) else (tattlelaw06_TableTells.j4 Jq Qb Qg Q0 Qx Qw Qq Qt Qr Qs true Qi Qh Qc Qj Qk)) else (tattlelaw06_TableTells.j4 Jq Qb Qg Q0 Qx Qw Qq Qt Qr Qs true Qi Qh Qc Qj Qk)) else (if (Qu.length : Int) > 0 then (if 0 < (Qu.length : Int) then (if Q6 = (rd Qu 0) then (tattlelaw06_TableTells.j4 Jq Qb Qg Q0 Qx Qw Qq Qt Qr Qs (Za != 0) Qi Qh Qc Qj Qk) else (tattlelaw06_TableTells.j4 Jq Qb Qg Q0 Qx Qw Qq Qt Qr Qs true Qi Qh Qc Qj Qk)) else (none)) else (tattlelaw06_TableTells.j4 Jq Qb Qg Q0 Qx Qw Qq Qt Qr Qs false Qi Qh Qc Qj Qk))) = some r := by rw [if_neg (show ¬ (false = true) by decide)] at H;exact H
             clear H
             have H := H1
             clear H1
             have Gw := qr H
             clear H
             go_upto_region 19 with (fail)
             go_cut [199] (fun Lr wc => ∃ (kq : Nat) (X4 : Bool),Lr = .bool X4 ∧ Aside0 (tattlelaw06_TableTells.j4 kq Qb Qg Q0 Qx Qw Qq Qt Qr Qs X4 Qi Qh Qc Qj Qk = some r) ∧ Aside0 (kq ≤ Jq) ∧ Aside0 (Kd.V k26 26 wc w.heap.size (fun k_ => some k_ ≠ (Zx : Value).ownBlock ∧ some k_ ≠ (Zs : Value).ownBlock ∧ k_ ≠ Qd) (.slice Zk Qb.length Zl) Qb) ∧ Aside0 (Kd.V k26 26 wc w.heap.size (fun k_ => some k_ ≠ (Zx : Value).ownBlock ∧ some k_ ≠ (Zs : Value).ownBlock ∧ k_ ≠ Qd) (.slice X6 Qg.length X7) Qg) ∧ Aside0 (Kd.V k26 26 wc w.heap.size (fun k_ => some k_ ≠ (Zx : Value).ownBlock ∧ some k_ ≠ (Zs : Value).ownBlock ∧ k_ ≠ Qd) Dv Q0) ∧ Aside0 (Kd.R k26 26 wc w.heap.size (fun _ => True) Zx Qq) ∧ Aside0 (Kd.R (Kd.int .i64) 3 wc w.heap.size (fun _ => True) Zs Qr) ∧ Aside0 (wc.heap[Qd]? = some (.cells #[(.slice Q2 Qi.length Q3),(.slice Q4 Qh.length Q5),.int .i64 Qc,.int .u64 Qj,.int .i64 Qk] 69 (0,0))) ∧ Aside0 (Below w.heap.size w wc))
             case first => as_aux_lemma =>
              have H := Gw.out
              clear Gw
              by_cases c78 : (Qu.length : Int) = 0
              ·rw [if_pos c78] at H
               have c78b0 : ((Qu.length : Int) == 0) = true := beq_iff_eq.mpr c78
               have c78b1 : ((Qu.length : Int) != 0) = false := bne_eq_false_iff_eq.mpr c78
               clear c78
               (first | rw [c78b0] | (simp only [i64_w,i32_w];rw [c78b0]) | skip)
               by_cases c79 : Q6 = 0
               ·rw [if_pos c79] at H
                have c79b0 : (Q6 == 0) = true := beq_iff_eq.mpr c79
                have c79b1 : (Q6 != 0) = false := bne_eq_false_iff_eq.mpr c79
                clear c79
                by_cases c80 : Za = 6
                ·rw [if_pos c80] at H
                 have c80b0 : (Za == 6) = true := beq_iff_eq.mpr c80
                 have c80b1 : (Za != 6) = false := bne_eq_false_iff_eq.mpr c80
                 clear c80
                 by_cases c81 : (Qu.length : Int) > 0
                 ·rw [if_pos c81] at H
                  have c81b0 : decide (0 < (Qu.length : Int)) = true := decide_eq_true c81
                  have c81b1 : decide (0 < Qu.length) = true := decide_eq_true (by omega)
                  clear c81
                  by_cases c82 : 0 < (Qu.length : Int)
                  ·rw [if_pos c82] at H
                   have c82b0 : decide (0 < (Qu.length : Int)) = true := decide_eq_true c82
                   have c82b1 : decide (0 < Qu.length) = true := decide_eq_true (by omega)
                   clear c82
                   by_cases c83 : Q6 = (rd Qu 0)
                   ·rw [if_pos c83] at H
                    have c83b0 : (Q6 == (rd Qu 0)) = true := beq_iff_eq.mpr c83
                    have c83b1 : (Q6 != (rd Qu 0)) = false := bne_eq_false_iff_eq.mpr c83
                    clear c83
                    as_aux_lemma =>
                     have H' := qr H
                     clear H
                     obtain ⟨P5,P6,Ls⟩ := Kd.R_slice Xh.out
                     subst Ls
                     have X9 : 0 ≤ (0 : Int) := (by omega)
                     have Ya : 0 < (Qu.length : Int) := of_decide_eq_true (by first | (with_reducible assumption) | assumption)
                     obtain ⟨Uv,Gx,Zo⟩ := Kd.at_int (Kd.R_reads' Xh.out).2.2 0 X9 Ya
                     cases Gx
                     have Uw : (0 < Qu.length) = True := eq_true (by omega)
                     (try rw [show ((0 : Int)).toNat = 0 from rfl] at Zo)
                     (try rw [Addr.add_zero'] at Zo)
                     replace X9 := eq_true X9
                     replace Ya := eq_true Ya
                     go_wp2
                     go_meet
                     case rel => exact ⟨_,((Za != 0)),(by first | rfl | (simp;done) | (simp [*];done)),H',⟨by have := HJ4.out;have := Xg.out;have := Xl.out;have := Xs.out;first | omega | exact zh _⟩,⟨by (with_reducible repeat (first | apply qh | apply qi | apply qj));exact qn Qe.out (fun _ hk => ⟨hk.1,⟨hk.2.1,hk.2.2.2⟩⟩)⟩,⟨by (with_reducible repeat (first | apply qh | apply qi | apply qj));exact qn Qm.out (fun _ hk => ⟨hk.1,⟨hk.2.1,hk.2.2.2⟩⟩)⟩,⟨by (with_reducible repeat (first | apply qh | apply qi | apply qj));exact qn Q1.out (fun _ hk => ⟨hk.1,⟨hk.2.1,hk.2.2.2⟩⟩)⟩,⟨by (with_reducible repeat (first | apply qk | apply ql | apply qm));exact Ql.out⟩,⟨by (with_reducible repeat (first | apply qk | apply ql | apply qm));exact qo Qf.out (fun _ hk => trivial)⟩,⟨by (with_reducible repeat (first | refine qa ?_ _ | refine qb ?_ | refine qc ?_ _));exact Qa.out⟩,⟨by repeat (first | (with_reducible first | exact HB.out | apply qe | apply qf | apply qg | refine qd ?_ Qn.out) | exact HB.out)⟩⟩
                   ·rw [if_neg c83] at H
                    have c83b0 : (Q6 == (rd Qu 0)) = false := beq_eq_false_iff_ne.mpr c83
                    have c83b1 : (Q6 != (rd Qu 0)) = true := bne_iff_ne.mpr c83
                    as_aux_lemma =>
                     have H' := qr H
                     clear H
                     obtain ⟨P7,P8,Lt⟩ := Kd.R_slice Xh.out
                     subst Lt
                     have X9 : 0 ≤ (0 : Int) := (by omega)
                     have Ya : 0 < (Qu.length : Int) := of_decide_eq_true (by first | (with_reducible assumption) | assumption)
                     obtain ⟨Uv,Gx,Zo⟩ := Kd.at_int (Kd.R_reads' Xh.out).2.2 0 X9 Ya
                     cases Gx
                     have Uw : (0 < Qu.length) = True := eq_true (by omega)
                     (try rw [show ((0 : Int)).toNat = 0 from rfl] at Zo)
                     (try rw [Addr.add_zero'] at Zo)
                     replace X9 := eq_true X9
                     replace Ya := eq_true Ya
                     go_wp2
                     go_meet
                     case rel => exact ⟨_,(true),(by first | rfl | (simp;done) | (simp [*];done)),H',⟨by have := HJ4.out;have := Xg.out;have := Xl.out;have := Xs.out;first | omega | exact zh _⟩,⟨by (with_reducible repeat (first | apply qh | apply qi | apply qj));exact qn Qe.out (fun _ hk => ⟨hk.1,⟨hk.2.1,hk.2.2.2⟩⟩)⟩,⟨by (with_reducible repeat (first | apply qh | apply qi | apply qj));exact qn Qm.out (fun _ hk => ⟨hk.1,⟨hk.2.1,hk.2.2.2⟩⟩)⟩,⟨by (with_reducible repeat (first | apply qh | apply qi | apply qj));exact qn Q1.out (fun _ hk => ⟨hk.1,⟨hk.2.1,hk.2.2.2⟩⟩)⟩,⟨by (with_reducible repeat (first | apply qk | apply ql | apply qm));exact Ql.out⟩,⟨by (with_reducible repeat (first | apply qk | apply ql | apply qm));exact qo Qf.out (fun _ hk => trivial)⟩,⟨by (with_reducible repeat (first | refine qa ?_ _ | refine qb ?_ | refine qc ?_ _));exact Qa.out⟩,⟨by repeat (first | (with_reducible first | exact HB.out | apply qe | apply qf | apply qg | refine qd ?_ Qn.out) | exact HB.out)⟩⟩
                  ·rw [if_neg c82] at H
                   exact absurd H (by simp)
                 ·rw [if_neg c81] at H
                  have c81b0 : decide (0 < (Qu.length : Int)) = false := decide_eq_false c81
                  have c81b1 : decide (0 < Qu.length) = false := decide_eq_false (by omega)
                  clear c81
                  as_aux_lemma =>
                   have H' := qr H
                   clear H
                   obtain ⟨P9,Wa,Lu⟩ := Kd.R_slice Xh.out
                   subst Lu
                   go_wp2
                   go_meet
                   case rel => exact ⟨_,(false),(by first | rfl | (simp;done) | (simp [*];done)),H',⟨by have := HJ4.out;have := Xg.out;have := Xl.out;have := Xs.out;first | omega | exact zh _⟩,⟨by (with_reducible repeat (first | apply qh | apply qi | apply qj));exact qn Qe.out (fun _ hk => ⟨hk.1,⟨hk.2.1,hk.2.2.2⟩⟩)⟩,⟨by (with_reducible repeat (first | apply qh | apply qi | apply qj));exact qn Qm.out (fun _ hk => ⟨hk.1,⟨hk.2.1,hk.2.2.2⟩⟩)⟩,⟨by (with_reducible repeat (first | apply qh | apply qi | apply qj));exact qn Q1.out (fun _ hk => ⟨hk.1,⟨hk.2.1,hk.2.2.2⟩⟩)⟩,⟨by (with_reducible repeat (first | apply qk | apply ql | apply qm));exact Ql.out⟩,⟨by (with_reducible repeat (first | apply qk | apply ql | apply qm));exact qo Qf.out (fun _ hk => trivial)⟩,⟨by (with_reducible repeat (first | refine qa ?_ _ | refine qb ?_ | refine qc ?_ _));exact Qa.out⟩,⟨by repeat (first | (with_reducible first | exact HB.out | apply qe | apply qf | apply qg | refine qd ?_ Qn.out) | exact HB.out)⟩⟩
                ·rw [if_neg c80] at H
                 have c80b0 : (Za == 6) = false := beq_eq_false_iff_ne.mpr c80
                 have c80b1 : (Za != 6) = true := bne_iff_ne.mpr c80
                 as_aux_lemma =>
                  have H' := qr H
                  clear H
                  obtain ⟨Wb,Wc,Lv⟩ := Kd.R_slice Xh.out
                  subst Lv
                  go_wp2
                  go_meet
                  case rel => exact ⟨_,(true),(by first | rfl | (simp;done) | (simp [*];done)),H',⟨by have := HJ4.out;have := Xg.out;have := Xl.out;have := Xs.out;first | omega | exact zh _⟩,⟨by (with_reducible repeat (first | apply qh | apply qi | apply qj));exact qn Qe.out (fun _ hk => ⟨hk.1,⟨hk.2.1,hk.2.2.2⟩⟩)⟩,⟨by (with_reducible repeat (first | apply qh | apply qi | apply qj));exact qn Qm.out (fun _ hk => ⟨hk.1,⟨hk.2.1,hk.2.2.2⟩⟩)⟩,⟨by (with_reducible repeat (first | apply qh | apply qi | apply qj));exact qn Q1.out (fun _ hk => ⟨hk.1,⟨hk.2.1,hk.2.2.2⟩⟩)⟩,⟨by (with_reducible repeat (first | apply qk | apply ql | apply qm));exact Ql.out⟩,⟨by (with_reducible repeat (first | apply qk | apply ql | apply qm));exact qo Qf.out (fun _ hk => trivial)⟩,⟨by (with_reducible repeat (first | refine qa ?_ _ | refine qb ?_ | refine qc ?_ _));exact Qa.out⟩,⟨by repeat (first | (with_reducible first | exact HB.out | apply qe | apply qf | apply qg | refine qd ?_ Qn.out) | exact HB.out)⟩⟩
               ·rw [if_neg c79] at H
                have c79b0 : (Q6 == 0) = false := beq_eq_false_iff_ne.mpr c79
                have c79b1 : (Q6 != 0) = true := bne_iff_ne.mpr c79
                as_aux_lemma =>
                 have H' := qr H
                 clear H
                 obtain ⟨Wd,We,Lw⟩ := Kd.R_slice Xh.out
                 subst Lw
                 go_wp2
                 go_meet
                 case rel => exact ⟨_,(true),(by first | rfl | (simp;done) | (simp [*];done)),H',⟨by have := HJ4.out;have := Xg.out;have := Xl.out;have := Xs.out;first | omega | exact zh _⟩,⟨by (with_reducible repeat (first | apply qh | apply qi | apply qj));exact qn Qe.out (fun _ hk => ⟨hk.1,⟨hk.2.1,hk.2.2.2⟩⟩)⟩,⟨by (with_reducible repeat (first | apply qh | apply qi | apply qj));exact qn Qm.out (fun _ hk => ⟨hk.1,⟨hk.2.1,hk.2.2.2⟩⟩)⟩,⟨by (with_reducible repeat (first | apply qh | apply qi | apply qj));exact qn Q1.out (fun _ hk => ⟨hk.1,⟨hk.2.1,hk.2.2.2⟩⟩)⟩,⟨by (with_reducible repeat (first | apply qk | apply ql | apply qm));exact Ql.out⟩,⟨by (with_reducible repeat (first | apply qk | apply ql | apply qm));exact qo Qf.out (fun _ hk => trivial)⟩,⟨by (with_reducible repeat (first | refine qa ?_ _ | refine qb ?_ | refine qc ?_ _));exact Qa.out⟩,⟨by repeat (first | (with_reducible first | exact HB.out | apply qe | apply qf | apply qg | refine qd ?_ Qn.out) | exact HB.out)⟩⟩
              ·rw [if_neg c78] at H
               have c78b0 : ((Qu.length : Int) == 0) = false := beq_eq_false_iff_ne.mpr c78
               have c78b1 : ((Qu.length : Int) != 0) = true := bne_iff_ne.mpr c78
               have c78b2 : ¬ (Qu = []) := fun h_ => c78 (by rw [h_];rfl)
               (first | rw [c78b0] | (simp only [i64_w,i32_w];rw [c78b0]) | skip)
               by_cases c89 : (Qu.length : Int) > 0
               ·rw [if_pos c89] at H
                have c89b0 : decide (0 < (Qu.length : Int)) = true := decide_eq_true c89
                have c89b1 : decide (0 < Qu.length) = true := decide_eq_true (by omega)
                clear c89
                by_cases c90 : 0 < (Qu.length : Int)
                ·rw [if_pos c90] at H
                 have c90b0 : decide (0 < (Qu.length : Int)) = true := decide_eq_true c90
                 have c90b1 : decide (0 < Qu.length) = true := decide_eq_true (by omega)
                 clear c90
                 by_cases c91 : Q6 = (rd Qu 0)
                 ·rw [if_pos c91] at H
                  have c91b0 : (Q6 == (rd Qu 0)) = true := beq_iff_eq.mpr c91
                  have c91b1 : (Q6 != (rd Qu 0)) = false := bne_eq_false_iff_eq.mpr c91
                  clear c91
                  as_aux_lemma =>
                   have H' := qr H
                   clear H
                   obtain ⟨Wf,Wg,Lx⟩ := Kd.R_slice Xh.out
                   subst Lx
                   have Yb : 0 ≤ (0 : Int) := (by omega)
                   have Yc : 0 < (Qu.length : Int) := of_decide_eq_true (by first | (with_reducible assumption) | assumption)
                   obtain ⟨Ux,Gy,Zp⟩ := Kd.at_int (Kd.R_reads' Xh.out).2.2 0 Yb Yc
                   cases Gy
                   have Uy : (0 < Qu.length) = True := eq_true (by omega)
                   (try rw [show ((0 : Int)).toNat = 0 from rfl] at Zp)
                   (try rw [Addr.add_zero'] at Zp)
                   replace Yb := eq_true Yb
                   replace Yc := eq_true Yc
                   go_wp2
                   go_meet
                   case rel => exact ⟨_,((Za != 0)),(by first | rfl | (simp;done) | (simp [*];done)),H',⟨by have := HJ4.out;have := Xg.out;have := Xl.out;have := Xs.out;first | omega | exact zh _⟩,⟨by (with_reducible repeat (first | apply qh | apply qi | apply qj));exact qn Qe.out (fun _ hk => ⟨hk.1,⟨hk.2.1,hk.2.2.2⟩⟩)⟩,⟨by (with_reducible repeat (first | apply qh | apply qi | apply qj));exact qn Qm.out (fun _ hk => ⟨hk.1,⟨hk.2.1,hk.2.2.2⟩⟩)⟩,⟨by (with_reducible repeat (first | apply qh | apply qi | apply qj));exact qn Q1.out (fun _ hk => ⟨hk.1,⟨hk.2.1,hk.2.2.2⟩⟩)⟩,⟨by (with_reducible repeat (first | apply qk | apply ql | apply qm));exact Ql.out⟩,⟨by (with_reducible repeat (first | apply qk | apply ql | apply qm));exact qo Qf.out (fun _ hk => trivial)⟩,⟨by (with_reducible repeat (first | refine qa ?_ _ | refine qb ?_ | refine qc ?_ _));exact Qa.out⟩,⟨by repeat (first | (with_reducible first | exact HB.out | apply qe | apply qf | apply qg | refine qd ?_ Qn.out) | exact HB.out)⟩⟩
                 ·rw [if_neg c91] at H
                  have c91b0 : (Q6 == (rd Qu 0)) = false := beq_eq_false_iff_ne.mpr c91
                  have c91b1 : (Q6 != (rd Qu 0)) = true := bne_iff_ne.mpr c91
                  as_aux_lemma =>
                   have H' := qr H
                   clear H
                   obtain ⟨Wh,Wi,Ly⟩ := Kd.R_slice Xh.out
                   subst Ly
                   have Yb : 0 ≤ (0 : Int) := (by omega)
                   have Yc : 0 < (Qu.length : Int) := of_decide_eq_true (by first | (with_reducible assumption) | assumption)
                   obtain ⟨Ux,Gy,Zp⟩ := Kd.at_int (Kd.R_reads' Xh.out).2.2 0 Yb Yc
                   cases Gy
                   have Uy : (0 < Qu.length) = True := eq_true (by omega)
                   (try rw [show ((0 : Int)).toNat = 0 from rfl] at Zp)
                   (try rw [Addr.add_zero'] at Zp)
                   replace Yb := eq_true Yb
                   replace Yc := eq_true Yc
                   go_wp2
                   go_meet
                   case rel => exact ⟨_,(true),(by first | rfl | (simp;done) | (simp [*];done)),H',⟨by have := HJ4.out;have := Xg.out;have := Xl.out;have := Xs.out;first | omega | exact zh _⟩,⟨by (with_reducible repeat (first | apply qh | apply qi | apply qj));exact qn Qe.out (fun _ hk => ⟨hk.1,⟨hk.2.1,hk.2.2.2⟩⟩)⟩,⟨by (with_reducible repeat (first | apply qh | apply qi | apply qj));exact qn Qm.out (fun _ hk => ⟨hk.1,⟨hk.2.1,hk.2.2.2⟩⟩)⟩,⟨by (with_reducible repeat (first | apply qh | apply qi | apply qj));exact qn Q1.out (fun _ hk => ⟨hk.1,⟨hk.2.1,hk.2.2.2⟩⟩)⟩,⟨by (with_reducible repeat (first | apply qk | apply ql | apply qm));exact Ql.out⟩,⟨by (with_reducible repeat (first | apply qk | apply ql | apply qm));exact qo Qf.out (fun _ hk => trivial)⟩,⟨by (with_reducible repeat (first | refine qa ?_ _ | refine qb ?_ | refine qc ?_ _));exact Qa.out⟩,⟨by repeat (first | (with_reducible first | exact HB.out | apply qe | apply qf | apply qg | refine qd ?_ Qn.out) | exact HB.out)⟩⟩
                ·rw [if_neg c90] at H
                 exact absurd H (by simp)
               ·rw [if_neg c89] at H
                have c89b0 : decide (0 < (Qu.length : Int)) = false := decide_eq_false c89
                have c89b1 : decide (0 < Qu.length) = false := decide_eq_false (by omega)
                clear c89
                as_aux_lemma =>
                 have H' := qr H
                 clear H
                 obtain ⟨Wj,Wk,Lz⟩ := Kd.R_slice Xh.out
                 subst Lz
                 go_wp2
                 go_meet
                 case rel => exact ⟨_,(false),(by first | rfl | (simp;done) | (simp [*];done)),H',⟨by have := HJ4.out;have := Xg.out;have := Xl.out;have := Xs.out;first | omega | exact zh _⟩,⟨by (with_reducible repeat (first | apply qh | apply qi | apply qj));exact qn Qe.out (fun _ hk => ⟨hk.1,⟨hk.2.1,hk.2.2.2⟩⟩)⟩,⟨by (with_reducible repeat (first | apply qh | apply qi | apply qj));exact qn Qm.out (fun _ hk => ⟨hk.1,⟨hk.2.1,hk.2.2.2⟩⟩)⟩,⟨by (with_reducible repeat (first | apply qh | apply qi | apply qj));exact qn Q1.out (fun _ hk => ⟨hk.1,⟨hk.2.1,hk.2.2.2⟩⟩)⟩,⟨by (with_reducible repeat (first | apply qk | apply ql | apply qm));exact Ql.out⟩,⟨by (with_reducible repeat (first | apply qk | apply ql | apply qm));exact qo Qf.out (fun _ hk => trivial)⟩,⟨by (with_reducible repeat (first | refine qa ?_ _ | refine qb ?_ | refine qc ?_ _));exact Qa.out⟩,⟨by repeat (first | (with_reducible first | exact HB.out | apply qe | apply qf | apply qg | refine qd ?_ Qn.out) | exact HB.out)⟩⟩
             case rest => as_aux_lemma =>
              clear Gw
              try clear p2
              try clear c3
              try clear c4
              try clear c5
              try clear c6
              try clear p6
              try clear q6
              try clear hx6
              try clear qi6
              try clear c7
              try clear c8
              try clear c9
              try clear c31
              try clear c34
              try clear c39
              try clear c41
              try clear c42
              try clear c43
              try clear c51
              try clear c53
              try clear c60
              try clear p66
              try clear q66
              try clear Gz
              try clear G0
              try clear c76
              try clear c78
              try clear c78b0
              try clear c78b1
              try clear c78b2
              try clear c79
              try clear c79b0
              try clear c79b1
              try clear c80
              try clear c80b0
              try clear c80b1
              try clear c81
              try clear c81b0
              try clear c81b1
              try clear c82
              try clear c82b0
              try clear c82b1
              try clear c83
              try clear c83b0
              try clear c83b1
              try clear c89
              try clear c89b0
              try clear c89b1
              try clear c90
              try clear c90b0
              try clear c90b1
              try clear c91
              try clear c91b0
              try clear c91b1
              try clear Zz
              try clear Z0
              try clear Z1
              try clear Z2
              try clear Z3
              try clear Z4
              try clear Xb
              try clear Xc
              try clear Xd
              try clear Xe
              try clear Xf
              try clear Xm
              try clear Xn
              try clear Xo
              try clear Xp
              try clear Xq
              try clear Zo
              try clear Zp
              try clear p2
              try clear X9
              try clear Yb
              try clear Ya
              try clear Yc
              obtain ⟨kq,X4,rfl,HA,Vt,Qe,Qm,Q1,Ql,Qf,Qa,HB⟩ := hcut
              cases kq with
              | zero => exact absurd HA.out (by simp [tattlelaw06_TableTells.j4])
              | succ Dk =>
               have H := HA.out
               clear HA
               simp only [tattlelaw06_TableTells.j4] at H
               by_cases c95 : X4 = true
               ·subst c95
                have H1 : (some false) = some r := by rw [if_pos rfl] at H;exact H
                clear H
                have H := H1
                clear H1
                as_aux_lemma =>
                 exact absurd ((Option.some.inj H).trans hrt.out) (by decide)
               ·replace c95 := Bool.eq_false_iff.mpr c95
                subst c95
                have H1 : (if Qc < 0 then (tattlelaw06_TableTells.j5 Dk Qb Qg Q0 Qx Qw Qq Qt Qr Qs true Qi Qh Qc Qj Qk) else (if Qc ≥ (Qb.length : Int) then (tattlelaw06_TableTells.j5 Dk Qb Qg Q0 Qx Qw Qq Qt Qr Qs true Qi Qh Qc Qj Qk) else ((tattleref05_May.f Qj Qk).bind fun Vs => (tattlelaw06_TableTells.j5 Dk Qb Qg Q0 Qx Qw Qq Qt Qr Qs (!Vs) Qi Qh Qc Qj Qk)))) = some r := by rw [if_neg (show ¬ (false = true) by decide)] at H;exact H
                clear H
                have H := H1
                clear H1
                have G1 := qr H
                clear H
                go_upto_region 21 with (fail)
                go_cut [215] (fun L0 wc => ∃ (kq : Nat) (X5 : Bool),L0 = .bool X5 ∧ Aside0 (tattlelaw06_TableTells.j5 kq Qb Qg Q0 Qx Qw Qq Qt Qr Qs X5 Qi Qh Qc Qj Qk = some r) ∧ Aside0 (kq ≤ Dk) ∧ Aside0 (Kd.V k26 26 wc w.heap.size (fun k_ => some k_ ≠ (Zx : Value).ownBlock ∧ some k_ ≠ (Zs : Value).ownBlock ∧ k_ ≠ Qd) (.slice Zk Qb.length Zl) Qb) ∧ Aside0 (Kd.V k26 26 wc w.heap.size (fun k_ => some k_ ≠ (Zx : Value).ownBlock ∧ some k_ ≠ (Zs : Value).ownBlock ∧ k_ ≠ Qd) (.slice X6 Qg.length X7) Qg) ∧ Aside0 (Kd.V k26 26 wc w.heap.size (fun k_ => some k_ ≠ (Zx : Value).ownBlock ∧ some k_ ≠ (Zs : Value).ownBlock ∧ k_ ≠ Qd) Dv Q0) ∧ Aside0 (Kd.R k26 26 wc w.heap.size (fun _ => True) Zx Qq) ∧ Aside0 (Kd.R (Kd.int .i64) 3 wc w.heap.size (fun _ => True) Zs Qr) ∧ Aside0 (wc.heap[Qd]? = some (.cells #[(.slice Q2 Qi.length Q3),(.slice Q4 Qh.length Q5),.int .i64 Qc,.int .u64 Qj,.int .i64 Qk] 69 (0,0))) ∧ Aside0 (Below w.heap.size w wc))
                case first => as_aux_lemma =>
                 have H := G1.out
                 clear G1
                 by_cases c97 : Qc < 0
                 ·rw [if_pos c97] at H
                  have c97b0 : decide (Qc < 0) = true := decide_eq_true c97
                  clear c97
                  (first | rw [c97b0] | (simp only [i64_w,i32_w];rw [c97b0]) | skip)
                  as_aux_lemma =>
                   have H' := qr H
                   clear H
                   have Jr : wc.cell? ⟨Qd,0,none⟩ = some (.slice Q2 Qi.length Q3) := (qw Qa.out 0).trans rfl
                   have Js : wc.cell? ⟨Qd,1,none⟩ = some (.slice Q4 Qh.length Q5) := (qw Qa.out 1).trans rfl
                   have Jt : wc.cell? ⟨Qd,2,none⟩ = some (.int .i64 Qc) := (qw Qa.out 2).trans rfl
                   have Ju : wc.cell? ⟨Qd,3,none⟩ = some (.int .u64 Qj) := (qw Qa.out 3).trans rfl
                   have Jv : wc.cell? ⟨Qd,4,none⟩ = some (.int .i64 Qk) := (qw Qa.out 4).trans rfl
                   have Jw := qx Qa.out 0
                   have Jx := qx Qa.out 1
                   have Jy := qx Qa.out 2
                   have Jz := qx Qa.out 3
                   have J0 := qx Qa.out 4
                   go_wp2
                   go_meet
                   case rel => exact ⟨_,(true),(by first | rfl | (simp;done) | (simp [*];done)),H',⟨by have := HJ4.out;have := Xg.out;have := Xl.out;have := Xs.out;have := Vt.out;first | omega | exact zh _⟩,⟨by (with_reducible repeat (first | apply qh | apply qi | apply qj));exact Qe.out⟩,⟨by (with_reducible repeat (first | apply qh | apply qi | apply qj));exact Qm.out⟩,⟨by (with_reducible repeat (first | apply qh | apply qi | apply qj));exact Q1.out⟩,⟨by (with_reducible repeat (first | apply qk | apply ql | apply qm));exact Ql.out⟩,⟨by (with_reducible repeat (first | apply qk | apply ql | apply qm));exact Qf.out⟩,⟨by (with_reducible repeat (first | refine qa ?_ _ | refine qb ?_ | refine qc ?_ _));exact Qa.out⟩,⟨by repeat (first | (with_reducible first | exact HB.out | apply qe | apply qf | apply qg | refine qd ?_ Qn.out) | exact HB.out)⟩⟩
                 ·rw [if_neg c97] at H
                  have c97b0 : decide (Qc < 0) = false := decide_eq_false c97
                  clear c97
                  (first | rw [c97b0] | (simp only [i64_w,i32_w];rw [c97b0]) | skip)
                  by_cases c99 : Qc ≥ (Qb.length : Int)
                  ·rw [if_pos c99] at H
                   have c99b0 : decide ((Qb.length : Int) ≤ Qc) = true := decide_eq_true c99
                   clear c99
                   as_aux_lemma =>
                    have H' := qr H
                    clear H
                    have Yd : wc.cell? ⟨Qd,0,none⟩ = some (.slice Q2 Qi.length Q3) := (qw Qa.out 0).trans rfl
                    have Ye : wc.cell? ⟨Qd,1,none⟩ = some (.slice Q4 Qh.length Q5) := (qw Qa.out 1).trans rfl
                    have Yf : wc.cell? ⟨Qd,2,none⟩ = some (.int .i64 Qc) := (qw Qa.out 2).trans rfl
                    have Yg : wc.cell? ⟨Qd,3,none⟩ = some (.int .u64 Qj) := (qw Qa.out 3).trans rfl
                    have Yh : wc.cell? ⟨Qd,4,none⟩ = some (.int .i64 Qk) := (qw Qa.out 4).trans rfl
                    have Yi := qx Qa.out 0
                    have Yj := qx Qa.out 1
                    have Yk := qx Qa.out 2
                    have Yl := qx Qa.out 3
                    have Ym := qx Qa.out 4
                    go_wp2
                    go_meet
                    case rel => exact ⟨_,(true),(by first | rfl | (simp;done) | (simp [*];done)),H',⟨by have := HJ4.out;have := Xg.out;have := Xl.out;have := Xs.out;have := Vt.out;first | omega | exact zh _⟩,⟨by (with_reducible repeat (first | apply qh | apply qi | apply qj));exact Qe.out⟩,⟨by (with_reducible repeat (first | apply qh | apply qi | apply qj));exact Qm.out⟩,⟨by (with_reducible repeat (first | apply qh | apply qi | apply qj));exact Q1.out⟩,⟨by (with_reducible repeat (first | apply qk | apply ql | apply qm));exact Ql.out⟩,⟨by (with_reducible repeat (first | apply qk | apply ql | apply qm));exact Qf.out⟩,⟨by (with_reducible repeat (first | refine qa ?_ _ | refine qb ?_ | refine qc ?_ _));exact Qa.out⟩,⟨by repeat (first | (with_reducible first | exact HB.out | apply qe | apply qf | apply qg | refine qd ?_ Qn.out) | exact HB.out)⟩⟩
                  ·rw [if_neg c99] at H
                   have c99b0 : decide ((Qb.length : Int) ≤ Qc) = false := decide_eq_false c99
                   clear c99
                   replace H := Option.bind_eq_some_iff.mp H
                   obtain ⟨Vs,D9,H⟩ := H
                   replace H : (tattlelaw06_TableTells.j5 Dk Qb Qg Q0 Qx Qw Qq Qt Qr Qs (!Vs) Qi Qh Qc Qj Qk) = some r := H
                   have L1 := qr D9
                   clear D9
                   as_aux_lemma =>
                    have H' := qr H
                    clear H
                    have Yn : wc.cell? ⟨Qd,0,none⟩ = some (.slice Q2 Qi.length Q3) := (qw Qa.out 0).trans rfl
                    have Yo : wc.cell? ⟨Qd,1,none⟩ = some (.slice Q4 Qh.length Q5) := (qw Qa.out 1).trans rfl
                    have Yp : wc.cell? ⟨Qd,2,none⟩ = some (.int .i64 Qc) := (qw Qa.out 2).trans rfl
                    have Yq : wc.cell? ⟨Qd,3,none⟩ = some (.int .u64 Qj) := (qw Qa.out 3).trans rfl
                    have Yr : wc.cell? ⟨Qd,4,none⟩ = some (.int .i64 Qk) := (qw Qa.out 4).trans rfl
                    have Ys := qx Qa.out 0
                    have Yt := qx Qa.out 1
                    have Yu := qx Qa.out 2
                    have Yv := qx Qa.out 3
                    have Yw := qx Qa.out 4
                    go_wp2_with (first | (go_at_call 17;(with_reducible refine (tattleref05_May.calls Qj Qk Vs _ L1.out).mono ?_);rintro e Wl ⟨rfl,hb⟩;have n0_ := qr (qp (by (with_reducible repeat (first | apply qh | apply qi | apply qj));exact Qe.out) hb);have n1_ := qr (qp (by (with_reducible repeat (first | apply qh | apply qi | apply qj));exact Qm.out) hb);have n2_ := qr (qp (by (with_reducible repeat (first | apply qh | apply qi | apply qj));exact Q1.out) hb);have n3_ := qr (qq (by (with_reducible repeat (first | apply qk | apply ql | apply qm));exact Ql.out) hb);have n4_ := qr (qq (by (with_reducible repeat (first | apply qk | apply ql | apply qm));exact Qf.out) hb);have n5_ := qr (qv (g := Qd) (o := .cells #[.slice Q2 Qi.length Q3,.slice Q4 Qh.length Q5,.int .i64 Qc,.int .u64 Qj,.int .i64 Qk] 69 (0,0)) (by (with_reducible repeat (first | refine qa ?_ _ | refine qb ?_ | refine qc ?_ _));exact Qa.out) hb);have n6_ := qr (qz (by repeat (first | (with_reducible first | exact HB.out | apply qe | apply qf | apply qg | refine qd ?_ Qn.out) | exact HB.out)) hb);clear Qe;clear Qm;clear Q1;clear Ql;clear Qf;clear Qa;clear HB;have Qe := n0_;have Qm := n1_;have Q1 := n2_;have Ql := n3_;have Qf := n4_;have Qa := n5_;have HB := n6_;clear n0_ n1_ n2_ n3_ n4_ n5_ n6_;(try clear hb);(try clear hb2);(try clear hk);(try clear hi)))
                    go_meet
                    case rel => exact ⟨_,(!Vs),(by first | rfl | (simp;done) | (simp [*];done)),H',⟨by have := HJ4.out;have := Xg.out;have := Xl.out;have := Xs.out;have := Vt.out;first | omega | exact zh _⟩,⟨by (with_reducible repeat (first | apply qh | apply qi | apply qj));exact Qe.out⟩,⟨by (with_reducible repeat (first | apply qh | apply qi | apply qj));exact Qm.out⟩,⟨by (with_reducible repeat (first | apply qh | apply qi | apply qj));exact Q1.out⟩,⟨by (with_reducible repeat (first | apply qk | apply ql | apply qm));exact Ql.out⟩,⟨by (with_reducible repeat (first | apply qk | apply ql | apply qm));exact Qf.out⟩,⟨by (with_reducible repeat (first | refine qa ?_ _ | refine qb ?_ | refine qc ?_ _));exact Qa.out⟩,⟨by repeat (first | (with_reducible first | exact HB.out | apply qe | apply qf | apply qg | refine qd ?_ Qn.out) | exact HB.out)⟩⟩
                case rest => as_aux_lemma =>
                 clear G1
                 try clear p2
                 try clear c3
                 try clear c4
                 try clear c5
                 try clear c6
                 try clear p6
                 try clear q6
                 try clear hx6
                 try clear qi6
                 try clear c7
                 try clear c8
                 try clear c9
                 try clear c31
                 try clear c34
                 try clear c39
                 try clear c41
                 try clear c42
                 try clear c43
                 try clear c51
                 try clear c53
                 try clear c60
                 try clear p66
                 try clear q66
                 try clear Gz
                 try clear G0
                 try clear c76
                 try clear c78
                 try clear c78b0
                 try clear c78b1
                 try clear c78b2
                 try clear c79
                 try clear c79b0
                 try clear c79b1
                 try clear c80
                 try clear c80b0
                 try clear c80b1
                 try clear c81
                 try clear c81b0
                 try clear c81b1
                 try clear c82
                 try clear c82b0
                 try clear c82b1
                 try clear c83
                 try clear c83b0
                 try clear c83b1
                 try clear c89
                 try clear c89b0
                 try clear c89b1
                 try clear c90
                 try clear c90b0
                 try clear c90b1
                 try clear c91
                 try clear c91b0
                 try clear c91b1
                 try clear c95
                 try clear c97
                 try clear c97b0
                 try clear c99
                 try clear c99b0
                 try clear Yd
                 try clear Ye
                 try clear Yf
                 try clear Yg
                 try clear Yh
                 try clear Yn
                 try clear Yo
                 try clear Yp
                 try clear Yq
                 try clear Yr
                 try clear Jr
                 try clear Js
                 try clear Jt
                 try clear Ju
                 try clear Jv
                 try clear Yi
                 try clear Yj
                 try clear Yk
                 try clear Yl
                 try clear Ym
                 try clear Ys
                 try clear Yt
                 try clear Yu
                 try clear Yv
                 try clear Yw
                 try clear Zz
                 try clear Z0
                 try clear Z1
                 try clear Z2
                 try clear Z3
                 try clear Z4
                 try clear Xb
                 try clear Xc
                 try clear Xd
                 try clear Xe
                 try clear Xf
                 try clear Xm
                 try clear Xn
                 try clear Xo
                 try clear Xp
                 try clear Xq
                 try clear Jw
                 try clear Jx
                 try clear Jy
                 try clear Jz
                 try clear J0
                 try clear Zo
                 try clear Zp
                 try clear p2
                 try clear p6
                 try clear p66
                 try clear X9
                 try clear Yb
                 try clear q6
                 try clear q66
                 try clear Ya
                 try clear Yc
                 obtain ⟨kq,X5,rfl,HA,Dw,Qe,Qm,Q1,Ql,Qf,Qa,HB⟩ := hcut
                 cases kq with
                 | zero => exact absurd HA.out (by simp [tattlelaw06_TableTells.j5])
                 | succ Z8 =>
                  have H := HA.out
                  clear HA
                  simp only [tattlelaw06_TableTells.j5] at H
                  have Dl := qr H
                  clear H
                  go_upto_if 215 with (fail)
                  go_cut [] (fun wc => ∃ (kq : Nat),Aside0 (tattlelaw06_TableTells.j6 kq Qb Qg Qq Qt Qr Qs = some r) ∧ Aside0 (kq ≤ Z8) ∧ Aside0 (Kd.V k26 26 wc w.heap.size (fun k_ => some k_ ≠ (Zx : Value).ownBlock ∧ some k_ ≠ (Zs : Value).ownBlock ∧ k_ ≠ Qd) (.slice Zk Qb.length Zl) Qb) ∧ Aside0 (Kd.V k26 26 wc w.heap.size (fun k_ => some k_ ≠ (Zx : Value).ownBlock ∧ some k_ ≠ (Zs : Value).ownBlock ∧ k_ ≠ Qd) (.slice X6 Qg.length X7) Qg) ∧ Aside0 (Kd.R k26 26 wc w.heap.size (fun _ => True) Zx Qq) ∧ Aside0 (Kd.R (Kd.int .i64) 3 wc w.heap.size (fun _ => True) Zs Qr) ∧ Aside0 (wc.heap[Qd]? = some (.cells #[(.slice Q2 Qi.length Q3),(.slice Q4 Qh.length Q5),.int .i64 Qc,.int .u64 Qj,.int .i64 Qk] 69 (0,0))) ∧ Aside0 (Below w.heap.size w wc))
                  case first => as_aux_lemma =>
                   have H := Dl.out
                   clear Dl
                   by_cases Dd : X5 = true
                   ·subst Dd
                    have H1 : ((tattleref06_Same.f Z8 Q0 Qb).bind fun Db => (if Db = true then (if Qx = true then (some false) else (if Qw = 1 then (tattlelaw06_TableTells.j6 Z8 Qb Qg Qq Qt Qr Qs) else (some false))) else (some false))) = some r := by rw [if_pos rfl] at H;exact H
                    clear H
                    have H := H1
                    clear H1
                    replace H := Option.bind_eq_some_iff.mp H
                    obtain ⟨Db,Ga,H⟩ := H
                    replace H : (if Db = true then (if Qx = true then (some false) else (if Qw = 1 then (tattlelaw06_TableTells.j6 Z8 Qb Qg Qq Qt Qr Qs) else (some false))) else (some false)) = some r := H
                    have L2 := qr Ga
                    clear Ga
                    by_cases De : Db = true
                    ·subst De
                     have H1 : (if Qx = true then (some false) else (if Qw = 1 then (tattlelaw06_TableTells.j6 Z8 Qb Qg Qq Qt Qr Qs) else (some false))) = some r := by rw [if_pos rfl] at H;exact H
                     clear H
                     have H := H1
                     clear H1
                     by_cases Df : Qx = true
                     ·subst Df
                      have H1 : (some false) = some r := by rw [if_pos rfl] at H;exact H
                      clear H
                      have H := H1
                      clear H1
                      as_aux_lemma =>
                       exact absurd ((Option.some.inj H).trans hrt.out) (by decide)
                     ·replace Df := Bool.eq_false_iff.mpr Df
                      subst Df
                      have H1 : (if Qw = 1 then (tattlelaw06_TableTells.j6 Z8 Qb Qg Qq Qt Qr Qs) else (some false)) = some r := by rw [if_neg (show ¬ (false = true) by decide)] at H;exact H
                      clear H
                      have H := H1
                      clear H1
                      by_cases J1 : Qw = 1
                      ·rw [if_pos J1] at H
                       have c109b0 : (Qw == 1) = true := beq_iff_eq.mpr J1
                       have c109b1 : (Qw != 1) = false := bne_eq_false_iff_eq.mpr J1
                       clear J1
                       (first | rw [c109b0] | (simp only [i64_w,i32_w];rw [c109b0]) | skip)
                       as_aux_lemma =>
                        have H' := qr H
                        clear H
                        obtain ⟨Uz,U0,U1⟩ := Kd.V_slice Q1.out
                        subst U1
                        go_wp2_with (first | ((with_reducible refine qy (f := 30) rfl ?_);refine zm (some 218) rfl rfl Try.func30 (by kernel_rfl) rfl #[.slice Uz Q0.length U0,.slice Zk Qb.length Zl] rfl (by (try simp only [zc,zd,ze]);first | done | rfl | (simp only [za,zb];rfl)) ?_;(with_reducible refine (tattleref06_Same.calls Z8 _ _ Q0 _ _ Qb true _ ?Qo ?Qp ?Zc ?Zd L2.out).mono ?_);(case Qo => repeat (first | exact (Kd.V_reads' Q1.out).2.2 | (with_reducible refine zj ?_ _) | (with_reducible refine zk ?_ _) | (with_reducible refine zl ?_)));(case Qp => exact (Kd.V_reads' Q1.out).2.1);(case Zc => repeat (first | exact (Kd.V_reads' Qe.out).2.2 | (with_reducible refine zj ?_ _) | (with_reducible refine zk ?_ _) | (with_reducible refine zl ?_)));(case Zd => exact (Kd.V_reads' Qe.out).2.1);rintro e w' ⟨rfl,⟨nd,rfl⟩⟩;refine ⟨_,rfl,?_⟩))
                        go_meet
                        case rel => exact ⟨_,H',⟨by have := HJ4.out;have := Xg.out;have := Xl.out;have := Xs.out;have := Vt.out;have := Dw.out;first | omega | exact zh _⟩,⟨by (with_reducible repeat (first | apply qh | apply qi | apply qj));exact Qe.out⟩,⟨by (with_reducible repeat (first | apply qh | apply qi | apply qj));exact Qm.out⟩,⟨by (with_reducible repeat (first | apply qk | apply ql | apply qm));exact Ql.out⟩,⟨by (with_reducible repeat (first | apply qk | apply ql | apply qm));exact Qf.out⟩,⟨by (with_reducible repeat (first | refine qa ?_ _ | refine qb ?_ | refine qc ?_ _));exact Qa.out⟩,⟨by repeat (first | (with_reducible first | exact HB.out | apply qe | apply qf | apply qg | refine qd ?_ Qn.out) | exact HB.out)⟩⟩
                      ·rw [if_neg J1] at H
                       have c109b0 : (Qw == 1) = false := beq_eq_false_iff_ne.mpr J1
                       have c109b1 : (Qw != 1) = true := bne_iff_ne.mpr J1
                       (first | rw [c109b0] | (simp only [i64_w,i32_w];rw [c109b0]) | skip)
                       as_aux_lemma =>
                        exact absurd ((Option.some.inj H).trans hrt.out) (by decide)
                    ·replace De := Bool.eq_false_iff.mpr De
                     subst De
                     have H1 : (some false) = some r := by rw [if_neg (show ¬ (false = true) by decide)] at H;exact H
                     clear H
                     have H := H1
                     clear H1
                     as_aux_lemma =>
                      exact absurd ((Option.some.inj H).trans hrt.out) (by decide)
                   ·replace Dd := Bool.eq_false_iff.mpr Dd
                    subst Dd
                    have H1 : ((tattleref06_Apply.f Qb Qc Qj Qk).bind fun Xv => ((tattleref06_Same.f Z8 Q0 Xv).bind fun J4 => (if J4 = true then ((tattleref06_Same.f Z8 Xv Qb).bind fun Z7 => (if (Qx != (!Z7)) = true then (some false) else (if Qw = 0 then (tattlelaw06_TableTells.j6 Z8 Qb Qg Qq Qt Qr Qs) else (some false)))) else (some false)))) = some r := by rw [if_neg (show ¬ (false = true) by decide)] at H;exact H
                    clear H
                    have H := H1
                    clear H1
                    replace H := Option.bind_eq_some_iff.mp H
                    obtain ⟨Xv,Gb,H⟩ := H
                    replace H : ((tattleref06_Same.f Z8 Q0 Xv).bind fun J4 => (if J4 = true then ((tattleref06_Same.f Z8 Xv Qb).bind fun Z7 => (if (Qx != (!Z7)) = true then (some false) else (if Qw = 0 then (tattlelaw06_TableTells.j6 Z8 Qb Qg Qq Qt Qr Qs) else (some false)))) else (some false))) = some r := H
                    have L3 := qr Gb
                    clear Gb
                    replace H := Option.bind_eq_some_iff.mp H
                    obtain ⟨J4,Gc,H⟩ := H
                    replace H : (if J4 = true then ((tattleref06_Same.f Z8 Xv Qb).bind fun Z7 => (if (Qx != (!Z7)) = true then (some false) else (if Qw = 0 then (tattlelaw06_TableTells.j6 Z8 Qb Qg Qq Qt Qr Qs) else (some false)))) else (some false)) = some r := H
                    have L4 := qr Gc
                    clear Gc
                    by_cases Dg : J4 = true
                    ·subst Dg
                     have H1 : ((tattleref06_Same.f Z8 Xv Qb).bind fun Z7 => (if (Qx != (!Z7)) = true then (some false) else (if Qw = 0 then (tattlelaw06_TableTells.j6 Z8 Qb Qg Qq Qt Qr Qs) else (some false)))) = some r := by rw [if_pos rfl] at H;exact H
                     clear H
                     have H := H1
                     clear H1
                     replace H := Option.bind_eq_some_iff.mp H
                     obtain ⟨Z7,Gd,H⟩ := H
                     replace H : (if (Qx != (!Z7)) = true then (some false) else (if Qw = 0 then (tattlelaw06_TableTells.j6 Z8 Qb Qg Qq Qt Qr Qs) else (some false))) = some r := H
                     have L5 := qr Gd
                     clear Gd
                     by_cases X0 : (Qx != (!Z7)) = true
                     ·rw [if_pos X0] at H
                      have c115b0 : (Qx != (!Z7)) = true := X0
                      (try (have c115b1 : decide (Qx = (!Z7)) = false := by simpa using X0))
                      (try (have c115b2 : (Qx == (!Z7)) = false := by simpa using X0))
                      (try (have c115b3 : ¬ (Qx = (!Z7)) := by simpa using X0))
                      clear X0
                      as_aux_lemma =>
                       exact absurd ((Option.some.inj H).trans hrt.out) (by decide)
                     ·rw [if_neg X0] at H
                      have e_ : Qx = (!Z7) := bne_eq_false_iff_eq.mp (Bool.eq_false_iff.mpr X0)
                      subst e_
                      have c115b0 : ((!Z7) != (!Z7)) = false := by simp
                      clear X0
                      by_cases J2 : Qw = 0
                      ·rw [if_pos J2] at H
                       have c116b0 : (Qw == 0) = true := beq_iff_eq.mpr J2
                       have c116b1 : (Qw != 0) = false := bne_eq_false_iff_eq.mpr J2
                       clear J2
                       as_aux_lemma =>
                        have H' := qr H
                        clear H
                        have Vb : wc.cell? ⟨Qd,0,none⟩ = some (.slice Q2 Qi.length Q3) := (qw Qa.out 0).trans rfl
                        have Vc : wc.cell? ⟨Qd,1,none⟩ = some (.slice Q4 Qh.length Q5) := (qw Qa.out 1).trans rfl
                        have Vd : wc.cell? ⟨Qd,2,none⟩ = some (.int .i64 Qc) := (qw Qa.out 2).trans rfl
                        have Ve : wc.cell? ⟨Qd,3,none⟩ = some (.int .u64 Qj) := (qw Qa.out 3).trans rfl
                        have Vf : wc.cell? ⟨Qd,4,none⟩ = some (.int .i64 Qk) := (qw Qa.out 4).trans rfl
                        have Vg := qx Qa.out 0
                        have Vh := qx Qa.out 1
                        have Vi := qx Qa.out 2
                        have Vj := qx Qa.out 3
                        have Vk := qx Qa.out 4
                        go_wp2_with (first | ((with_reducible refine qy (f := 44) rfl ?_);refine zm (some 232) rfl rfl Try.func44 (by kernel_rfl) rfl #[.slice Zk Qb.length Zl,.int .i64 Qc,.agg #[.int .u64 Qj,.int .i64 Qk]] rfl (by (try simp only [zc,zd,ze]);first | done | rfl | (simp only [za,zb];rfl)) ?_;(with_reducible refine (tattleref06_Apply.calls _ _ Qb Qc Qj Qk Xv _ ?Qo ?Qp L3.out).mono ?_);(case Qo => repeat (first | exact (Kd.V_reads' Qe.out).2.2 | (with_reducible refine zj ?_ _) | (with_reducible refine zk ?_ _) | (with_reducible refine zl ?_)));(case Qp => exact (Kd.V_reads' Qe.out).2.1);rintro e Wm ⟨Wn,rfl,ho0,hb⟩;refine ⟨_,rfl,?_⟩;have n0_ := qr (Kd.V_elder' (by (with_reducible repeat (first | apply qh | apply qi | apply qj));exact Qe.out) (Kd.R_base ho0) hb);have n1_ := qr (Kd.V_elder' (by (with_reducible repeat (first | apply qh | apply qi | apply qj));exact Qm.out) (Kd.R_base ho0) hb);have n2_ := qr (Kd.V_elder' (by (with_reducible repeat (first | apply qh | apply qi | apply qj));exact Q1.out) (Kd.R_base ho0) hb);have n3_ := qr (Kd.R_elder' (by (with_reducible repeat (first | apply qk | apply ql | apply qm));exact Ql.out) (Kd.R_base ho0) hb);have n4_ := qr (qq (by (with_reducible repeat (first | apply qk | apply ql | apply qm));exact Qf.out) hb);have n5_ := qr (zi (Kd.R_new' ho0 (Kd.R_lt (by (with_reducible repeat (first | apply qk | apply ql | apply qm));exact Ql.out))) (below_size (by repeat (first | (with_reducible first | exact HB.out | apply qe | apply qf | apply qg | refine qd ?_ Qn.out) | exact HB.out))));have n6_ := qr (qv (g := Qd) (o := .cells #[.slice Q2 Qi.length Q3,.slice Q4 Qh.length Q5,.int .i64 Qc,.int .u64 Qj,.int .i64 Qk] 69 (0,0)) (by (with_reducible repeat (first | refine qa ?_ _ | refine qb ?_ | refine qc ?_ _));exact Qa.out) hb);have n7_ := qr (qz (by repeat (first | (with_reducible first | exact HB.out | apply qe | apply qf | apply qg | refine qd ?_ Qn.out) | exact HB.out)) hb);clear Qe;clear Qm;clear Q1;clear Ql;clear Qf;clear Qa;clear HB;have Qe := n0_;have Qm := n1_;have Q1 := n2_;have Ql := n3_;have Qf := n4_;have Vl := n5_;have Qa := n6_;have HB := n7_;clear n0_ n1_ n2_ n3_ n4_ n5_ n6_ n7_;(try clear hb);(try clear hb2);(try clear hk);(try clear hi);(try clear ho0);obtain ⟨U2,U3,U4⟩ := Kd.V_slice Q1.out;subst U4;obtain ⟨U5,U6,U7⟩ := Kd.R_slice Vl.out;subst U7) | ((with_reducible refine qy (f := 30) rfl ?_);refine zm (some 235) rfl rfl Try.func30 (by kernel_rfl) rfl #[.slice U2 Q0.length U3,.slice U5 Xv.length U6] rfl (by (try simp only [zc,zd,ze]);first | done | rfl | (simp only [za,zb];rfl)) ?_;(with_reducible refine (tattleref06_Same.calls Z8 _ _ Q0 _ _ Xv true _ ?Qo ?Qp ?Zc ?Zd L4.out).mono ?_);(case Qo => repeat (first | exact (Kd.V_reads' Q1.out).2.2 | (with_reducible refine zj ?_ _) | (with_reducible refine zk ?_ _) | (with_reducible refine zl ?_)));(case Qp => exact (Kd.V_reads' Q1.out).2.1);(case Zc => repeat (first | exact (Kd.R_reads' Vl.out).2.2 | (with_reducible refine zj ?_ _) | (with_reducible refine zk ?_ _) | (with_reducible refine zl ?_)));(case Zd => exact (Kd.R_reads' Vl.out).2.1);rintro e w' ⟨rfl,⟨nd,rfl⟩⟩;refine ⟨_,rfl,?_⟩) | (go_at_call 30;(with_reducible refine (tattleref06_Same.calls Z8 _ _ Xv _ _ Qb Z7 _ ?Qo ?Qp ?Zc ?Zd L5.out).mono ?_);(case Qo => repeat (first | exact (Kd.R_reads' Vl.out).2.2 | (with_reducible refine zj ?_ _) | (with_reducible refine zk ?_ _) | (with_reducible refine zl ?_)));(case Qp => exact (Kd.R_reads' Vl.out).2.1);(case Zc => repeat (first | exact (Kd.V_reads' Qe.out).2.2 | (with_reducible refine zj ?_ _) | (with_reducible refine zk ?_ _) | (with_reducible refine zl ?_)));(case Zd => exact (Kd.V_reads' Qe.out).2.1);rintro e w' ⟨rfl,⟨nd,rfl⟩⟩))
                        go_meet
                        case rel => exact ⟨_,H',⟨by have := HJ4.out;have := Xg.out;have := Xl.out;have := Xs.out;have := Vt.out;have := Dw.out;first | omega | exact zh _⟩,⟨by (with_reducible repeat (first | apply qh | apply qi | apply qj));exact qn Qe.out (fun _ hk => ⟨hk.1.1,⟨hk.1.2.1,hk.1.2.2⟩⟩)⟩,⟨by (with_reducible repeat (first | apply qh | apply qi | apply qj));exact qn Qm.out (fun _ hk => ⟨hk.1.1,⟨hk.1.2.1,hk.1.2.2⟩⟩)⟩,⟨by (with_reducible repeat (first | apply qk | apply ql | apply qm));exact qo Ql.out (fun _ hk => trivial)⟩,⟨by (with_reducible repeat (first | apply qk | apply ql | apply qm));exact Qf.out⟩,⟨by (with_reducible repeat (first | refine qa ?_ _ | refine qb ?_ | refine qc ?_ _));exact Qa.out⟩,⟨by repeat (first | (with_reducible first | exact HB.out | apply qe | apply qf | apply qg | refine qd ?_ Qn.out) | exact HB.out)⟩⟩
                      ·rw [if_neg J2] at H
                       have c116b0 : (Qw == 0) = false := beq_eq_false_iff_ne.mpr J2
                       have c116b1 : (Qw != 0) = true := bne_iff_ne.mpr J2
                       as_aux_lemma =>
                        exact absurd ((Option.some.inj H).trans hrt.out) (by decide)
                    ·replace Dg := Bool.eq_false_iff.mpr Dg
                     subst Dg
                     have H1 : (some false) = some r := by rw [if_neg (show ¬ (false = true) by decide)] at H;exact H
                     clear H
                     have H := H1
                     clear H1
                     as_aux_lemma =>
                      exact absurd ((Option.some.inj H).trans hrt.out) (by decide)
                  case rest => as_aux_lemma =>
                   clear Dl
                   try clear c1
                   try clear p2
                   try clear c3
                   try clear c4
                   try clear c5
                   try clear c6
                   try clear p6
                   try clear q6
                   try clear hx6
                   try clear qi6
                   try clear c7
                   try clear c8
                   try clear c9
                   try clear c10
                   try clear c11
                   try clear c30
                   try clear c31
                   try clear c34
                   try clear c39
                   try clear c41
                   try clear c42
                   try clear c43
                   try clear c44
                   try clear c51
                   try clear c53
                   try clear c60
                   try clear p66
                   try clear q66
                   try clear Gz
                   try clear G0
                   try clear c76
                   try clear c78
                   try clear c78b0
                   try clear c78b1
                   try clear c78b2
                   try clear c79
                   try clear c79b0
                   try clear c79b1
                   try clear c80
                   try clear c80b0
                   try clear c80b1
                   try clear c81
                   try clear c81b0
                   try clear c81b1
                   try clear c82
                   try clear c82b0
                   try clear c82b1
                   try clear c83
                   try clear c83b0
                   try clear c83b1
                   try clear c89
                   try clear c89b0
                   try clear c89b1
                   try clear c90
                   try clear c90b0
                   try clear c90b1
                   try clear c91
                   try clear c91b0
                   try clear c91b1
                   try clear c95
                   try clear c97
                   try clear c97b0
                   try clear c99
                   try clear c99b0
                   try clear Dd
                   try clear De
                   try clear Df
                   try clear J1
                   try clear c109b0
                   try clear c109b1
                   try clear Dg
                   try clear X0
                   try clear c115b0
                   try clear c115b1
                   try clear c115b2
                   try clear J2
                   try clear c116b0
                   try clear c116b1
                   try clear Yd
                   try clear Ye
                   try clear Yf
                   try clear Yg
                   try clear Yh
                   try clear Yn
                   try clear Yo
                   try clear Yp
                   try clear Yq
                   try clear Yr
                   try clear Vb
                   try clear Vc
                   try clear Vd
                   try clear Ve
                   try clear Vf
                   try clear Jr
                   try clear Js
                   try clear Jt
                   try clear Ju
                   try clear Jv
                   try clear Yi
                   try clear Yj
                   try clear Yk
                   try clear Yl
                   try clear Ym
                   try clear Ys
                   try clear Yt
                   try clear Yu
                   try clear Yv
                   try clear Yw
                   try clear Vg
                   try clear Vh
                   try clear Vi
                   try clear Vj
                   try clear Vk
                   try clear Zz
                   try clear Z0
                   try clear Z1
                   try clear Z2
                   try clear Z3
                   try clear Z4
                   try clear Xb
                   try clear Xc
                   try clear Xd
                   try clear Xe
                   try clear Xf
                   try clear Xm
                   try clear Xn
                   try clear Xo
                   try clear Xp
                   try clear Xq
                   try clear Jw
                   try clear Jx
                   try clear Jy
                   try clear Jz
                   try clear J0
                   try clear Zo
                   try clear Zp
                   try clear p2
                   try clear p6
                   try clear p66
                   try clear X9
                   try clear Yb
                   try clear q6
                   try clear q66
                   try clear Ya
                   try clear Yc
                   obtain ⟨kq,HA,Ge,Qe,Qm,Ql,Qf,Qa,HB⟩ := hcut
                   cases kq with
                   | zero => exact absurd HA.out (by simp [tattlelaw06_TableTells.j6])
                   | succ Yx =>
                    have H := HA.out
                    clear HA
                    simp only [tattlelaw06_TableTells.j6] at H
                    have Dm := qr H
                    clear H
                    go_upto_region 27 with (fail)
                    go_cut [258] (fun L6 wc => ∃ (kq : Nat) (Xx : Bool),L6 = .bool Xx ∧ Aside0 (tattlelaw06_TableTells.j7 kq Qb Qg Qq Qt Qr Qs Xx = some r) ∧ Aside0 (kq ≤ Yx) ∧ Aside0 (Kd.V k26 26 wc w.heap.size (fun k_ => some k_ ≠ (Zx : Value).ownBlock ∧ some k_ ≠ (Zs : Value).ownBlock ∧ k_ ≠ Qd) (.slice Zk Qb.length Zl) Qb) ∧ Aside0 (Kd.V k26 26 wc w.heap.size (fun k_ => some k_ ≠ (Zx : Value).ownBlock ∧ some k_ ≠ (Zs : Value).ownBlock ∧ k_ ≠ Qd) (.slice X6 Qg.length X7) Qg) ∧ Aside0 (Kd.R k26 26 wc w.heap.size (fun _ => True) Zx Qq) ∧ Aside0 (Kd.R (Kd.int .i64) 3 wc w.heap.size (fun _ => True) Zs Qr) ∧ Aside0 (wc.heap[Qd]? = some (.cells #[(.slice Q2 Qi.length Q3),(.slice Q4 Qh.length Q5),.int .i64 Qc,.int .u64 Qj,.int .i64 Qk] 69 (0,0))) ∧ Aside0 (Below w.heap.size w wc))
                    case first => as_aux_lemma =>
                     have H := Dm.out
                     clear Dm
                     replace H := Option.bind_eq_some_iff.mp H
                     obtain ⟨Dp,Gf,H⟩ := H
                     replace H : (if Dp = true then (tattlelaw06_TableTells.j7 Yx Qb Qg Qq Qt Qr Qs ((Qg.length : Int) != (Qb.length : Int))) else (tattlelaw06_TableTells.j7 Yx Qb Qg Qq Qt Qr Qs true)) = some r := H
                     have U8 := qr Gf
                     clear Gf
                     by_cases Dn : Dp = true
                     ·subst Dn
                      have H1 : (tattlelaw06_TableTells.j7 Yx Qb Qg Qq Qt Qr Qs ((Qg.length : Int) != (Qb.length : Int))) = some r := by rw [if_pos rfl] at H;exact H
                      clear H
                      have H := H1
                      clear H1
                      as_aux_lemma =>
                       have H' := qr H
                       clear H
                       go_wp2_with (first | ((with_reducible refine qy (f := 39) rfl ?_);refine zm (some 250) rfl rfl Try.func39 (by kernel_rfl) rfl #[.slice X6 Qg.length X7] rfl (by (try simp only [zc,zd,ze]);first | done | rfl | (simp only [za,zb];rfl)) ?_;(with_reducible refine (tattleref06_May.calls Yx _ _ Qg true _ ?Qo ?Qp U8.out).mono ?_);(case Qo => repeat (first | exact (Kd.V_reads' Qm.out).2.2 | (with_reducible refine zj ?_ _) | (with_reducible refine zk ?_ _) | (with_reducible refine zl ?_)));(case Qp => exact (Kd.V_reads' Qm.out).2.1);rintro e Wo ⟨rfl,hb⟩;refine ⟨_,rfl,?_⟩;have n0_ := qr (qp (by (with_reducible repeat (first | apply qh | apply qi | apply qj));exact Qe.out) hb);have n1_ := qr (qp (by (with_reducible repeat (first | apply qh | apply qi | apply qj));exact Qm.out) hb);have n2_ := qr (qq (by (with_reducible repeat (first | apply qk | apply ql | apply qm));exact Ql.out) hb);have n3_ := qr (qq (by (with_reducible repeat (first | apply qk | apply ql | apply qm));exact Qf.out) hb);have n4_ := qr (qv (g := Qd) (o := .cells #[.slice Q2 Qi.length Q3,.slice Q4 Qh.length Q5,.int .i64 Qc,.int .u64 Qj,.int .i64 Qk] 69 (0,0)) (by (with_reducible repeat (first | refine qa ?_ _ | refine qb ?_ | refine qc ?_ _));exact Qa.out) hb);have n5_ := qr (qz (by repeat (first | (with_reducible first | exact HB.out | apply qe | apply qf | apply qg | refine qd ?_ Qn.out) | exact HB.out)) hb);clear Qe;clear Qm;clear Ql;clear Qf;clear Qa;clear HB;have Qe := n0_;have Qm := n1_;have Ql := n2_;have Qf := n3_;have Qa := n4_;have HB := n5_;clear n0_ n1_ n2_ n3_ n4_ n5_;(try clear hb);(try clear hb2);(try clear hk);(try clear hi)))
                       go_meet
                       case rel => exact ⟨_,(((Qg.length : Int) != (Qb.length : Int))),(by first | rfl | (simp;done) | (simp [*];done)),H',⟨by have := HJ4.out;have := Xg.out;have := Xl.out;have := Xs.out;have := Vt.out;have := Dw.out;have := Ge.out;first | omega | exact zh _⟩,⟨by (with_reducible repeat (first | apply qh | apply qi | apply qj));exact Qe.out⟩,⟨by (with_reducible repeat (first | apply qh | apply qi | apply qj));exact Qm.out⟩,⟨by (with_reducible repeat (first | apply qk | apply ql | apply qm));exact Ql.out⟩,⟨by (with_reducible repeat (first | apply qk | apply ql | apply qm));exact Qf.out⟩,⟨by (with_reducible repeat (first | refine qa ?_ _ | refine qb ?_ | refine qc ?_ _));exact Qa.out⟩,⟨by repeat (first | (with_reducible first | exact HB.out | apply qe | apply qf | apply qg | refine qd ?_ Qn.out) | exact HB.out)⟩⟩
                     ·replace Dn := Bool.eq_false_iff.mpr Dn
                      subst Dn
                      have H1 : (tattlelaw06_TableTells.j7 Yx Qb Qg Qq Qt Qr Qs true) = some r := by rw [if_neg (show ¬ (false = true) by decide)] at H;exact H
                      clear H
                      have H := H1
                      clear H1
                      as_aux_lemma =>
                       have H' := qr H
                       clear H
                       go_wp2_with (first | ((with_reducible refine qy (f := 39) rfl ?_);refine zm (some 250) rfl rfl Try.func39 (by kernel_rfl) rfl #[.slice X6 Qg.length X7] rfl (by (try simp only [zc,zd,ze]);first | done | rfl | (simp only [za,zb];rfl)) ?_;(with_reducible refine (tattleref06_May.calls Yx _ _ Qg false _ ?Qo ?Qp U8.out).mono ?_);(case Qo => repeat (first | exact (Kd.V_reads' Qm.out).2.2 | (with_reducible refine zj ?_ _) | (with_reducible refine zk ?_ _) | (with_reducible refine zl ?_)));(case Qp => exact (Kd.V_reads' Qm.out).2.1);rintro e Wp ⟨rfl,hb⟩;refine ⟨_,rfl,?_⟩;have n0_ := qr (qp (by (with_reducible repeat (first | apply qh | apply qi | apply qj));exact Qe.out) hb);have n1_ := qr (qp (by (with_reducible repeat (first | apply qh | apply qi | apply qj));exact Qm.out) hb);have n2_ := qr (qq (by (with_reducible repeat (first | apply qk | apply ql | apply qm));exact Ql.out) hb);have n3_ := qr (qq (by (with_reducible repeat (first | apply qk | apply ql | apply qm));exact Qf.out) hb);have n4_ := qr (qv (g := Qd) (o := .cells #[.slice Q2 Qi.length Q3,.slice Q4 Qh.length Q5,.int .i64 Qc,.int .u64 Qj,.int .i64 Qk] 69 (0,0)) (by (with_reducible repeat (first | refine qa ?_ _ | refine qb ?_ | refine qc ?_ _));exact Qa.out) hb);have n5_ := qr (qz (by repeat (first | (with_reducible first | exact HB.out | apply qe | apply qf | apply qg | refine qd ?_ Qn.out) | exact HB.out)) hb);clear Qe;clear Qm;clear Ql;clear Qf;clear Qa;clear HB;have Qe := n0_;have Qm := n1_;have Ql := n2_;have Qf := n3_;have Qa := n4_;have HB := n5_;clear n0_ n1_ n2_ n3_ n4_ n5_;(try clear hb);(try clear hb2);(try clear hk);(try clear hi)))
                       go_meet
                       case rel => exact ⟨_,(true),(by first | rfl | (simp;done) | (simp [*];done)),H',⟨by have := HJ4.out;have := Xg.out;have := Xl.out;have := Xs.out;have := Vt.out;have := Dw.out;have := Ge.out;first | omega | exact zh _⟩,⟨by (with_reducible repeat (first | apply qh | apply qi | apply qj));exact Qe.out⟩,⟨by (with_reducible repeat (first | apply qh | apply qi | apply qj));exact Qm.out⟩,⟨by (with_reducible repeat (first | apply qk | apply ql | apply qm));exact Ql.out⟩,⟨by (with_reducible repeat (first | apply qk | apply ql | apply qm));exact Qf.out⟩,⟨by (with_reducible repeat (first | refine qa ?_ _ | refine qb ?_ | refine qc ?_ _));exact Qa.out⟩,⟨by repeat (first | (with_reducible first | exact HB.out | apply qe | apply qf | apply qg | refine qd ?_ Qn.out) | exact HB.out)⟩⟩
                    case rest => as_aux_lemma =>
                     clear Dm
                     try clear c1
                     try clear p2
                     try clear c3
                     try clear c4
                     try clear c5
                     try clear c6
                     try clear p6
                     try clear q6
                     try clear hx6
                     try clear qi6
                     try clear c7
                     try clear c8
                     try clear c9
                     try clear c10
                     try clear c11
                     try clear c12
                     try clear c30
                     try clear c31
                     try clear c34
                     try clear c39
                     try clear c41
                     try clear c42
                     try clear c43
                     try clear c44
                     try clear c51
                     try clear c53
                     try clear c60
                     try clear p66
                     try clear q66
                     try clear Gz
                     try clear G0
                     try clear c76
                     try clear c78
                     try clear c78b0
                     try clear c78b1
                     try clear c78b2
                     try clear c79
                     try clear c79b0
                     try clear c79b1
                     try clear c80
                     try clear c80b0
                     try clear c80b1
                     try clear c81
                     try clear c81b0
                     try clear c81b1
                     try clear c82
                     try clear c82b0
                     try clear c82b1
                     try clear c83
                     try clear c83b0
                     try clear c83b1
                     try clear c89
                     try clear c89b0
                     try clear c89b1
                     try clear c90
                     try clear c90b0
                     try clear c90b1
                     try clear c91
                     try clear c91b0
                     try clear c91b1
                     try clear c95
                     try clear c97
                     try clear c97b0
                     try clear c99
                     try clear c99b0
                     try clear Dd
                     try clear De
                     try clear Df
                     try clear J1
                     try clear c109b0
                     try clear c109b1
                     try clear Dg
                     try clear X0
                     try clear c115b0
                     try clear c115b1
                     try clear c115b2
                     try clear J2
                     try clear c116b0
                     try clear c116b1
                     try clear Dn
                     try clear Yd
                     try clear Ye
                     try clear Yf
                     try clear Yg
                     try clear Yh
                     try clear Yn
                     try clear Yo
                     try clear Yp
                     try clear Yq
                     try clear Yr
                     try clear Vb
                     try clear Vc
                     try clear Vd
                     try clear Ve
                     try clear Vf
                     try clear Jr
                     try clear Js
                     try clear Jt
                     try clear Ju
                     try clear Jv
                     try clear Yi
                     try clear Yj
                     try clear Yk
                     try clear Yl
                     try clear Ym
                     try clear Ys
                     try clear Yt
                     try clear Yu
                     try clear Yv
                     try clear Yw
                     try clear Vg
                     try clear Vh
                     try clear Vi
                     try clear Vj
                     try clear Vk
                     try clear Zz
                     try clear Z0
                     try clear Z1
                     try clear Z2
                     try clear Z3
                     try clear Z4
                     try clear Xb
                     try clear Xc
                     try clear Xd
                     try clear Xe
                     try clear Xf
                     try clear Xm
                     try clear Xn
                     try clear Xo
                     try clear Xp
                     try clear Xq
                     try clear Jw
                     try clear Jx
                     try clear Jy
                     try clear Jz
                     try clear J0
                     try clear Zo
                     try clear Zp
                     try clear p2
                     try clear p6
                     try clear p66
                     try clear X9
                     try clear Yb
                     try clear q6
                     try clear q66
                     try clear Ya
                     try clear Yc
                     obtain ⟨kq,Xx,rfl,HA,Ph,Qe,Qm,Ql,Qf,Qa,HB⟩ := hcut
                     cases kq with
                     | zero => exact absurd HA.out (by simp [tattlelaw06_TableTells.j7])
                     | succ Zm =>
                      have H := HA.out
                      clear HA
                      simp only [tattlelaw06_TableTells.j7] at H
                      by_cases Dx : Xx = true
                      ·subst Dx
                       have H1 : (if (Qq.length : Int) = 0 then (if Qt = 1 then (if (Qr.length : Int) = 0 then (if Qs = 1 then ((tattlelaw06_awakeT.f).bind fun Dc => (some Dc)) else (some false)) else (some false)) else (some false)) else (some false)) = some r := by rw [if_pos rfl] at H;exact H
                       clear H
                       have H := H1
                       clear H1
                       by_cases Vm : (Qq.length : Int) = 0
                       ·rw [if_pos Vm] at H
                        have c127b0 : ((Qq.length : Int) == 0) = true := beq_iff_eq.mpr Vm
                        have c127b1 : ((Qq.length : Int) != 0) = false := bne_eq_false_iff_eq.mpr Vm
                        clear Vm
                        by_cases Vu : Qt = 1
                        ·rw [if_pos Vu] at H
                         have c128b0 : (Qt == 1) = true := beq_iff_eq.mpr Vu
                         have c128b1 : (Qt != 1) = false := bne_eq_false_iff_eq.mpr Vu
                         clear Vu
                         by_cases Vn : (Qr.length : Int) = 0
                         ·rw [if_pos Vn] at H
                          have c129b0 : ((Qr.length : Int) == 0) = true := beq_iff_eq.mpr Vn
                          have c129b1 : ((Qr.length : Int) != 0) = false := bne_eq_false_iff_eq.mpr Vn
                          clear Vn
                          by_cases Vv : Qs = 1
                          ·rw [if_pos Vv] at H
                           have c130b0 : (Qs == 1) = true := beq_iff_eq.mpr Vv
                           have c130b1 : (Qs != 1) = false := bne_eq_false_iff_eq.mpr Vv
                           clear Vv
                           replace H := Option.bind_eq_some_iff.mp H
                           obtain ⟨Dc,Gg,H⟩ := H
                           replace H : (some Dc) = some r := H
                           have L7 := qr Gg
                           clear Gg
                           as_aux_lemma =>
                            obtain rfl := Option.some.inj H
                            obtain ⟨Pi,Pj,U9⟩ := Kd.R_slice Ql.out
                            subst U9
                            obtain ⟨Pk,Pl,Ma⟩ := Kd.R_slice Qf.out
                            subst Ma
                            go_wp2_with (first | (go_at_call 28;(with_reducible refine (tattlelaw06_awakeT.calls  Dc _ L7.out).mono ?_);rintro e Wq ⟨rfl,hb⟩;have n0_ := qr (qv (g := Qd) (o := .cells #[.slice Q2 Qi.length Q3,.slice Q4 Qh.length Q5,.int .i64 Qc,.int .u64 Qj,.int .i64 Qk] 69 (0,0)) (by (with_reducible repeat (first | refine qa ?_ _ | refine qb ?_ | refine qc ?_ _));exact Qa.out) hb);have n1_ := qr (qz (by repeat (first | (with_reducible first | exact HB.out | apply qe | apply qf | apply qg | refine qd ?_ Qn.out) | exact HB.out)) hb);clear Qa;clear HB;have Qa := n0_;have HB := n1_;clear n0_ n1_;(try clear hb);(try clear hb2);(try clear hk);(try clear hi)))
                            go_ret
                            exact ⟨by first | rfl | (simp [errW_none,errW_some] <;> rfl) | (simp [*,errW_none,errW_some] <;> rfl),by repeat (first | (with_reducible first | exact HB.out | apply qe | apply qf | apply qg | refine qd ?_ Qn.out) | exact HB.out)⟩
                          ·rw [if_neg Vv] at H
                           have c130b0 : (Qs == 1) = false := beq_eq_false_iff_ne.mpr Vv
                           have c130b1 : (Qs != 1) = true := bne_iff_ne.mpr Vv
                           as_aux_lemma =>
                            exact absurd ((Option.some.inj H).trans hrt.out) (by decide)
                         ·rw [if_neg Vn] at H
                          have c129b0 : ((Qr.length : Int) == 0) = false := beq_eq_false_iff_ne.mpr Vn
                          have c129b1 : ((Qr.length : Int) != 0) = true := bne_iff_ne.mpr Vn
                          have c129b2 : ¬ (Qr = []) := fun h_ => Vn (by rw [h_];rfl)
                          as_aux_lemma =>
                           exact absurd ((Option.some.inj H).trans hrt.out) (by decide)
                        ·rw [if_neg Vu] at H
                         have c128b0 : (Qt == 1) = false := beq_eq_false_iff_ne.mpr Vu
                         have c128b1 : (Qt != 1) = true := bne_iff_ne.mpr Vu
                         as_aux_lemma =>
                          exact absurd ((Option.some.inj H).trans hrt.out) (by decide)
                       ·rw [if_neg Vm] at H
                        have c127b0 : ((Qq.length : Int) == 0) = false := beq_eq_false_iff_ne.mpr Vm
                        have c127b1 : ((Qq.length : Int) != 0) = true := bne_iff_ne.mpr Vm
                        have c127b2 : ¬ (Qq = []) := fun h_ => Vm (by rw [h_];rfl)
                        as_aux_lemma =>
                         exact absurd ((Option.some.inj H).trans hrt.out) (by decide)
                      ·replace Dx := Bool.eq_false_iff.mpr Dx
                       subst Dx
                       have H1 : ((tattleref06_Merge.f Zm Qb Qg).bind fun J5 => ((tattleref06_Same.f Zm Qq J5).bind fun J6 => (if J6 = true then (if Qt = 0 then ((tattleref06_Behind.f Zm Qb Qg).bind fun Xz => ((tattleref02_Same.f Zm Qr Xz).bind fun Xw => (if Xw = true then (if Qs = 0 then ((tattlelaw06_awakeT.f).bind fun Xj => (some Xj)) else (some false)) else (some false)))) else (some false)) else (some false)))) = some r := by rw [if_neg (show ¬ (false = true) by decide)] at H;exact H
                       clear H
                       have H := H1
                       clear H1
                       replace H := Option.bind_eq_some_iff.mp H
                       obtain ⟨J5,Gh,H⟩ := H
                       replace H : ((tattleref06_Same.f Zm Qq J5).bind fun J6 => (if J6 = true then (if Qt = 0 then ((tattleref06_Behind.f Zm Qb Qg).bind fun Xz => ((tattleref02_Same.f Zm Qr Xz).bind fun Xw => (if Xw = true then (if Qs = 0 then ((tattlelaw06_awakeT.f).bind fun Xj => (some Xj)) else (some false)) else (some false)))) else (some false)) else (some false))) = some r := H
                       have L8 := qr Gh
                       clear Gh
                       replace H := Option.bind_eq_some_iff.mp H
                       obtain ⟨J6,Gi,H⟩ := H
                       replace H : (if J6 = true then (if Qt = 0 then ((tattleref06_Behind.f Zm Qb Qg).bind fun Xz => ((tattleref02_Same.f Zm Qr Xz).bind fun Xw => (if Xw = true then (if Qs = 0 then ((tattlelaw06_awakeT.f).bind fun Xj => (some Xj)) else (some false)) else (some false)))) else (some false)) else (some false)) = some r := H
                       have L9 := qr Gi
                       clear Gi
                       by_cases Dy : J6 = true
                       ·subst Dy
                        have H1 : (if Qt = 0 then ((tattleref06_Behind.f Zm Qb Qg).bind fun Xz => ((tattleref02_Same.f Zm Qr Xz).bind fun Xw => (if Xw = true then (if Qs = 0 then ((tattlelaw06_awakeT.f).bind fun Xj => (some Xj)) else (some false)) else (some false)))) else (some false)) = some r := by rw [if_pos rfl] at H;exact H
                        clear H
                        have H := H1
                        clear H1
                        by_cases Vw : Qt = 0
                        ·rw [if_pos Vw] at H
                         have c138b0 : (Qt == 0) = true := beq_iff_eq.mpr Vw
                         have c138b1 : (Qt != 0) = false := bne_eq_false_iff_eq.mpr Vw
                         clear Vw
                         replace H := Option.bind_eq_some_iff.mp H
                         obtain ⟨Xz,Gj,H⟩ := H
                         replace H : ((tattleref02_Same.f Zm Qr Xz).bind fun Xw => (if Xw = true then (if Qs = 0 then ((tattlelaw06_awakeT.f).bind fun Xj => (some Xj)) else (some false)) else (some false))) = some r := H
                         have Pa := qr Gj
                         clear Gj
                         replace H := Option.bind_eq_some_iff.mp H
                         obtain ⟨Xw,Gk,H⟩ := H
                         replace H : (if Xw = true then (if Qs = 0 then ((tattlelaw06_awakeT.f).bind fun Xj => (some Xj)) else (some false)) else (some false)) = some r := H
                         have Pb := qr Gk
                         clear Gk
                         by_cases Dz : Xw = true
                         ·subst Dz
                          have H1 : (if Qs = 0 then ((tattlelaw06_awakeT.f).bind fun Xj => (some Xj)) else (some false)) = some r := by rw [if_pos rfl] at H;exact H
                          clear H
                          have H := H1
                          clear H1
                          by_cases Vx : Qs = 0
                          ·rw [if_pos Vx] at H
                           have c142b0 : (Qs == 0) = true := beq_iff_eq.mpr Vx
                           have c142b1 : (Qs != 0) = false := bne_eq_false_iff_eq.mpr Vx
                           clear Vx
                           replace H := Option.bind_eq_some_iff.mp H
                           obtain ⟨Xj,Gl,H⟩ := H
                           replace H : (some Xj) = some r := H
                           have Pc := qr Gl
                           clear Gl
                           as_aux_lemma =>
                            obtain rfl := Option.some.inj H
                            go_wp2_with (first | ((with_reducible refine qy (f := 45) rfl ?_);refine zm (some 281) rfl rfl Try.func45 (by kernel_rfl) rfl #[.slice Zk Qb.length Zl,.slice X6 Qg.length X7] rfl (by (try simp only [zc,zd,ze]);first | done | rfl | (simp only [za,zb];rfl)) ?_;(with_reducible refine (tattleref06_Merge.calls Zm _ _ Qb _ _ Qg J5 _ ?Qo ?Qp ?Zc ?Zd L8.out).mono ?_);(case Qo => repeat (first | exact (Kd.V_reads' Qe.out).2.2 | (with_reducible refine zj ?_ _) | (with_reducible refine zk ?_ _) | (with_reducible refine zl ?_)));(case Qp => exact (Kd.V_reads' Qe.out).2.1);(case Zc => repeat (first | exact (Kd.V_reads' Qm.out).2.2 | (with_reducible refine zj ?_ _) | (with_reducible refine zk ?_ _) | (with_reducible refine zl ?_)));(case Zd => exact (Kd.V_reads' Qm.out).2.1);rintro e Wr ⟨Ws,rfl,ho0,hb⟩;refine ⟨_,rfl,?_⟩;have n0_ := qr (Kd.V_elder' (by (with_reducible repeat (first | apply qh | apply qi | apply qj));exact Qe.out) (Kd.R_base ho0) hb);have n1_ := qr (Kd.V_elder' (by (with_reducible repeat (first | apply qh | apply qi | apply qj));exact Qm.out) (Kd.R_base ho0) hb);have n2_ := qr (Kd.R_elder' (by (with_reducible repeat (first | apply qk | apply ql | apply qm));exact Ql.out) (Kd.R_base ho0) hb);have n3_ := qr (qq (by (with_reducible repeat (first | apply qk | apply ql | apply qm));exact Qf.out) hb);have n4_ := qr (zi (Kd.R_new' ho0 (Kd.R_lt (by (with_reducible repeat (first | apply qk | apply ql | apply qm));exact Ql.out))) (below_size (by repeat (first | (with_reducible first | exact HB.out | apply qe | apply qf | apply qg | refine qd ?_ Qn.out) | exact HB.out))));have n5_ := qr (qv (g := Qd) (o := .cells #[.slice Q2 Qi.length Q3,.slice Q4 Qh.length Q5,.int .i64 Qc,.int .u64 Qj,.int .i64 Qk] 69 (0,0)) (by (with_reducible repeat (first | refine qa ?_ _ | refine qb ?_ | refine qc ?_ _));exact Qa.out) hb);have n6_ := qr (qz (by repeat (first | (with_reducible first | exact HB.out | apply qe | apply qf | apply qg | refine qd ?_ Qn.out) | exact HB.out)) hb);clear Qe;clear Qm;clear Ql;clear Qf;clear Qa;clear HB;have Qe := n0_;have Qm := n1_;have Ql := n2_;have Qf := n3_;have Xy := n4_;have Qa := n5_;have HB := n6_;clear n0_ n1_ n2_ n3_ n4_ n5_ n6_;(try clear hb);(try clear hb2);(try clear hk);(try clear hi);(try clear ho0);obtain ⟨Mb,Mc,Md⟩ := Kd.R_slice Ql.out;subst Md;obtain ⟨Me,Mf,Mg⟩ := Kd.R_slice Xy.out;subst Mg) | ((with_reducible refine qy (f := 30) rfl ?_);refine zm (some 282) rfl rfl Try.func30 (by kernel_rfl) rfl #[.slice Mb Qq.length Mc,.slice Me J5.length Mf] rfl (by (try simp only [zc,zd,ze]);first | done | rfl | (simp only [za,zb];rfl)) ?_;(with_reducible refine (tattleref06_Same.calls Zm _ _ Qq _ _ J5 true _ ?Qo ?Qp ?Zc ?Zd L9.out).mono ?_);(case Qo => repeat (first | exact (Kd.R_reads' Ql.out).2.2 | (with_reducible refine zj ?_ _) | (with_reducible refine zk ?_ _) | (with_reducible refine zl ?_)));(case Qp => exact (Kd.R_reads' Ql.out).2.1);(case Zc => repeat (first | exact (Kd.R_reads' Xy.out).2.2 | (with_reducible refine zj ?_ _) | (with_reducible refine zk ?_ _) | (with_reducible refine zl ?_)));(case Zd => exact (Kd.R_reads' Xy.out).2.1);rintro e w' ⟨rfl,⟨nd,rfl⟩⟩;refine ⟨_,rfl,?_⟩) | (go_at_call 46;(with_reducible refine (tattleref06_Behind.calls Zm _ _ Qb _ _ Qg Xz _ ?Qo ?Qp ?Zc ?Zd Pa.out).mono ?_);(case Qo => repeat (first | exact (Kd.V_reads' Qe.out).2.2 | (with_reducible refine zj ?_ _) | (with_reducible refine zk ?_ _) | (with_reducible refine zl ?_)));(case Qp => exact (Kd.V_reads' Qe.out).2.1);(case Zc => repeat (first | exact (Kd.V_reads' Qm.out).2.2 | (with_reducible refine zj ?_ _) | (with_reducible refine zk ?_ _) | (with_reducible refine zl ?_)));(case Zd => exact (Kd.V_reads' Qm.out).2.1);rintro e Wt ⟨Wu,rfl,ho0,hb⟩;have n0_ := qr (Kd.V_elder' (by (with_reducible repeat (first | apply qh | apply qi | apply qj));exact Qe.out) (Kd.R_base ho0) hb);have n1_ := qr (Kd.V_elder' (by (with_reducible repeat (first | apply qh | apply qi | apply qj));exact Qm.out) (Kd.R_base ho0) hb);have n2_ := qr (qq (by (with_reducible repeat (first | apply qk | apply ql | apply qm));exact Ql.out) hb);have n3_ := qr (Kd.R_elder' (by (with_reducible repeat (first | apply qk | apply ql | apply qm));exact Qf.out) (Kd.R_base ho0) hb);have n4_ := qr (qq (by (with_reducible repeat (first | apply qk | apply ql | apply qm));exact Xy.out) hb);have n5_ := qr (zi (Kd.R_new' ho0 (Kd.R_lt (by (with_reducible repeat (first | apply qk | apply ql | apply qm));exact Qf.out))) (below_size (by repeat (first | (with_reducible first | exact HB.out | apply qe | apply qf | apply qg | refine qd ?_ Qn.out) | exact HB.out))));have n6_ := qr (qv (g := Qd) (o := .cells #[.slice Q2 Qi.length Q3,.slice Q4 Qh.length Q5,.int .i64 Qc,.int .u64 Qj,.int .i64 Qk] 69 (0,0)) (by (with_reducible repeat (first | refine qa ?_ _ | refine qb ?_ | refine qc ?_ _));exact Qa.out) hb);have n7_ := qr (qz (by repeat (first | (with_reducible first | exact HB.out | apply qe | apply qf | apply qg | refine qd ?_ Qn.out) | exact HB.out)) hb);clear Qe;clear Qm;clear Ql;clear Qf;clear Xy;clear Qa;clear HB;have Qe := n0_;have Qm := n1_;have Ql := n2_;have Qf := n3_;have Xy := n4_;have Y0 := n5_;have Qa := n6_;have HB := n7_;clear n0_ n1_ n2_ n3_ n4_ n5_ n6_ n7_;(try clear hb);(try clear hb2);(try clear hk);(try clear hi);(try clear ho0);obtain ⟨Pm,Pn,Mh⟩ := Kd.R_slice Qf.out;subst Mh;obtain ⟨Po,Pp,Mi⟩ := Kd.R_slice Y0.out;subst Mi) | (go_at_call 42;(with_reducible refine (tattleref02_Same.calls Zm _ _ Qr _ _ Xz true _ ?Qo ?Qp ?Zc ?Zd Pb.out).mono ?_);(case Qo => repeat (first | exact (Kd.R_reads' Qf.out).2.2 | (with_reducible refine zj ?_ _) | (with_reducible refine zk ?_ _) | (with_reducible refine zl ?_)));(case Qp => exact (Kd.R_reads' Qf.out).2.1);(case Zc => repeat (first | exact (Kd.R_reads' Y0.out).2.2 | (with_reducible refine zj ?_ _) | (with_reducible refine zk ?_ _) | (with_reducible refine zl ?_)));(case Zd => exact (Kd.R_reads' Y0.out).2.1);rintro e w' ⟨rfl,⟨nd,rfl⟩⟩) | (go_at_call 28;(with_reducible refine (tattlelaw06_awakeT.calls  Xj _ Pc.out).mono ?_);rintro e Wv ⟨rfl,hb⟩;have n0_ := qr (qq (by (with_reducible repeat (first | apply qk | apply ql | apply qm));exact Ql.out) hb);have n1_ := qr (qq (by (with_reducible repeat (first | apply qk | apply ql | apply qm));exact Qf.out) hb);have n2_ := qr (qq (by (with_reducible repeat (first | apply qk | apply ql | apply qm));exact Xy.out) hb);have n3_ := qr (qq (by (with_reducible repeat (first | apply qk | apply ql | apply qm));exact Y0.out) hb);have n4_ := qr (qv (g := Qd) (o := .cells #[.slice Q2 Qi.length Q3,.slice Q4 Qh.length Q5,.int .i64 Qc,.int .u64 Qj,.int .i64 Qk] 69 (0,0)) (by (with_reducible repeat (first | refine qa ?_ _ | refine qb ?_ | refine qc ?_ _));exact Qa.out) hb);have n5_ := qr (qz (by repeat (first | (with_reducible first | exact HB.out | apply qe | apply qf | apply qg | refine qd ?_ Qn.out) | exact HB.out)) hb);clear Ql;clear Qf;clear Xy;clear Y0;clear Qa;clear HB;have Ql := n0_;have Qf := n1_;have Xy := n2_;have Y0 := n3_;have Qa := n4_;have HB := n5_;clear n0_ n1_ n2_ n3_ n4_ n5_;(try clear hb);(try clear hb2);(try clear hk);(try clear hi)))
                            go_ret
                            exact ⟨by first | rfl | (simp [errW_none,errW_some] <;> rfl) | (simp [*,errW_none,errW_some] <;> rfl),by repeat (first | (with_reducible first | exact HB.out | apply qe | apply qf | apply qg | refine qd ?_ Qn.out) | exact HB.out)⟩
                          ·rw [if_neg Vx] at H
                           have c142b0 : (Qs == 0) = false := beq_eq_false_iff_ne.mpr Vx
                           have c142b1 : (Qs != 0) = true := bne_iff_ne.mpr Vx
                           as_aux_lemma =>
                            exact absurd ((Option.some.inj H).trans hrt.out) (by decide)
                         ·replace Dz := Bool.eq_false_iff.mpr Dz
                          subst Dz
                          have H1 : (some false) = some r := by rw [if_neg (show ¬ (false = true) by decide)] at H;exact H
                          clear H
                          have H := H1
                          clear H1
                          as_aux_lemma =>
                           exact absurd ((Option.some.inj H).trans hrt.out) (by decide)
                        ·rw [if_neg Vw] at H
                         have c138b0 : (Qt == 0) = false := beq_eq_false_iff_ne.mpr Vw
                         have c138b1 : (Qt != 0) = true := bne_iff_ne.mpr Vw
                         as_aux_lemma =>
                          exact absurd ((Option.some.inj H).trans hrt.out) (by decide)
                       ·replace Dy := Bool.eq_false_iff.mpr Dy
                        subst Dy
                        have H1 : (some false) = some r := by rw [if_neg (show ¬ (false = true) by decide)] at H;exact H
                        clear H
                        have H := H1
                        clear H1
                        as_aux_lemma =>
                         exact absurd ((Option.some.inj H).trans hrt.out) (by decide)
         ·replace c53 := Bool.eq_false_iff.mpr c53
          subst c53
          have H1 : ((tattleref06_Same.f Q9 Q0 Qb).bind fun Yy => (if Yy = true then (if Qx = true then (some false) else (if Qw = 1 then (if (Qq.length : Int) = 0 then (if Qt = 1 then (if (Qr.length : Int) = 0 then (if Qs = 1 then (if Q6 = 0 then (if Za = 1 then ((table_Up.f Qb).bind fun Zw => (if (Zw.length : Int) = 0 then ((table_Others.f Qb Qc).bind fun Zn => (if (Zn.length : Int) = 0 then ((tattlelaw06_awakeT.f).bind fun Z6 => (some Z6)) else (some false))) else (some false))) else (some false)) else (some false)) else (some false)) else (some false)) else (some false)) else (some false)) else (some false))) else (some false))) = some r := by rw [if_neg (show ¬ (false = true) by decide)] at H;exact H
          clear H
          have H := H1
          clear H1
          replace H := Option.bind_eq_some_iff.mp H
          obtain ⟨Yy,Gm,H⟩ := H
          replace H : (if Yy = true then (if Qx = true then (some false) else (if Qw = 1 then (if (Qq.length : Int) = 0 then (if Qt = 1 then (if (Qr.length : Int) = 0 then (if Qs = 1 then (if Q6 = 0 then (if Za = 1 then ((table_Up.f Qb).bind fun Zw => (if (Zw.length : Int) = 0 then ((table_Others.f Qb Qc).bind fun Zn => (if (Zn.length : Int) = 0 then ((tattlelaw06_awakeT.f).bind fun Z6 => (some Z6)) else (some false))) else (some false))) else (some false)) else (some false)) else (some false)) else (some false)) else (some false)) else (some false)) else (some false))) else (some false)) = some r := H
          have Pd := qr Gm
          clear Gm
          by_cases D0 : Yy = true
          ·subst D0
           have H1 : (if Qx = true then (some false) else (if Qw = 1 then (if (Qq.length : Int) = 0 then (if Qt = 1 then (if (Qr.length : Int) = 0 then (if Qs = 1 then (if Q6 = 0 then (if Za = 1 then ((table_Up.f Qb).bind fun Zw => (if (Zw.length : Int) = 0 then ((table_Others.f Qb Qc).bind fun Zn => (if (Zn.length : Int) = 0 then ((tattlelaw06_awakeT.f).bind fun Z6 => (some Z6)) else (some false))) else (some false))) else (some false)) else (some false)) else (some false)) else (some false)) else (some false)) else (some false)) else (some false))) = some r := by rw [if_pos rfl] at H;exact H
           clear H
           have H := H1
           clear H1
           by_cases D1 : Qx = true
           ·subst D1
            have H1 : (some false) = some r := by rw [if_pos rfl] at H;exact H
            clear H
            have H := H1
            clear H1
            as_aux_lemma =>
             exact absurd ((Option.some.inj H).trans hrt.out) (by decide)
           ·replace D1 := Bool.eq_false_iff.mpr D1
            subst D1
            have H1 : (if Qw = 1 then (if (Qq.length : Int) = 0 then (if Qt = 1 then (if (Qr.length : Int) = 0 then (if Qs = 1 then (if Q6 = 0 then (if Za = 1 then ((table_Up.f Qb).bind fun Zw => (if (Zw.length : Int) = 0 then ((table_Others.f Qb Qc).bind fun Zn => (if (Zn.length : Int) = 0 then ((tattlelaw06_awakeT.f).bind fun Z6 => (some Z6)) else (some false))) else (some false))) else (some false)) else (some false)) else (some false)) else (some false)) else (some false)) else (some false)) else (some false)) = some r := by rw [if_neg (show ¬ (false = true) by decide)] at H;exact H
            clear H
            have H := H1
            clear H1
            by_cases Vy : Qw = 1
            ·rw [if_pos Vy] at H
             have c154b0 : (Qw == 1) = true := beq_iff_eq.mpr Vy
             have c154b1 : (Qw != 1) = false := bne_eq_false_iff_eq.mpr Vy
             clear Vy
             by_cases Vo : (Qq.length : Int) = 0
             ·rw [if_pos Vo] at H
              have c155b0 : ((Qq.length : Int) == 0) = true := beq_iff_eq.mpr Vo
              have c155b1 : ((Qq.length : Int) != 0) = false := bne_eq_false_iff_eq.mpr Vo
              clear Vo
              by_cases Vz : Qt = 1
              ·rw [if_pos Vz] at H
               have c156b0 : (Qt == 1) = true := beq_iff_eq.mpr Vz
               have c156b1 : (Qt != 1) = false := bne_eq_false_iff_eq.mpr Vz
               clear Vz
               by_cases Vp : (Qr.length : Int) = 0
               ·rw [if_pos Vp] at H
                have c157b0 : ((Qr.length : Int) == 0) = true := beq_iff_eq.mpr Vp
                have c157b1 : ((Qr.length : Int) != 0) = false := bne_eq_false_iff_eq.mpr Vp
                clear Vp
                by_cases V0 : Qs = 1
                ·rw [if_pos V0] at H
                 have c158b0 : (Qs == 1) = true := beq_iff_eq.mpr V0
                 have c158b1 : (Qs != 1) = false := bne_eq_false_iff_eq.mpr V0
                 clear V0
                 by_cases V1 : Q6 = 0
                 ·rw [if_pos V1] at H
                  have c159b0 : (Q6 == 0) = true := beq_iff_eq.mpr V1
                  have c159b1 : (Q6 != 0) = false := bne_eq_false_iff_eq.mpr V1
                  clear V1
                  by_cases V2 : Za = 1
                  ·rw [if_pos V2] at H
                   have c160b0 : (Za == 1) = true := beq_iff_eq.mpr V2
                   have c160b1 : (Za != 1) = false := bne_eq_false_iff_eq.mpr V2
                   clear V2
                   replace H := Option.bind_eq_some_iff.mp H
                   obtain ⟨Zw,Gn,H⟩ := H
                   replace H : (if (Zw.length : Int) = 0 then ((table_Others.f Qb Qc).bind fun Zn => (if (Zn.length : Int) = 0 then ((tattlelaw06_awakeT.f).bind fun Z6 => (some Z6)) else (some false))) else (some false)) = some r := H
                   have Pe := qr Gn
                   clear Gn
                   by_cases Vq : (Zw.length : Int) = 0
                   ·rw [if_pos Vq] at H
                    have c162b0 : ((Zw.length : Int) == 0) = true := beq_iff_eq.mpr Vq
                    have c162b1 : ((Zw.length : Int) != 0) = false := bne_eq_false_iff_eq.mpr Vq
                    clear Vq
                    replace H := Option.bind_eq_some_iff.mp H
                    obtain ⟨Zn,Gp,H⟩ := H
                    replace H : (if (Zn.length : Int) = 0 then ((tattlelaw06_awakeT.f).bind fun Z6 => (some Z6)) else (some false)) = some r := H
                    have Pf := qr Gp
                    clear Gp
                    by_cases Vr : (Zn.length : Int) = 0
                    ·rw [if_pos Vr] at H
                     have c164b0 : ((Zn.length : Int) == 0) = true := beq_iff_eq.mpr Vr
                     have c164b1 : ((Zn.length : Int) != 0) = false := bne_eq_false_iff_eq.mpr Vr
                     clear Vr
                     replace H := Option.bind_eq_some_iff.mp H
                     obtain ⟨Z6,Gq,H⟩ := H
                     replace H : (some Z6) = some r := H
                     have Pg := qr Gq
                     clear Gq
                     as_aux_lemma =>
                      obtain rfl := Option.some.inj H
                      go_wp2_with (first | ((with_reducible refine qy (f := 39) rfl ?_);refine zm (some 98) rfl rfl Try.func39 (by kernel_rfl) rfl #[.slice Zk Qb.length Zl] rfl (by (try simp only [zc,zd,ze]);first | done | rfl | (simp only [za,zb];rfl)) ?_;(with_reducible refine (tattleref06_May.calls Q9 _ _ Qb false _ ?Qo ?Qp A52.out).mono ?_);(case Qo => repeat (first | exact (Kd.V_reads' Qe.out).2.2 | (with_reducible refine zj ?_ _) | (with_reducible refine zk ?_ _) | (with_reducible refine zl ?_)));(case Qp => exact (Kd.V_reads' Qe.out).2.1);rintro e Ww ⟨rfl,hb⟩;refine ⟨_,rfl,?_⟩;have n0_ := qr (qp (by (with_reducible repeat (first | apply qh | apply qi | apply qj));exact Qe.out) hb);have n1_ := qr (qp (by (with_reducible repeat (first | apply qh | apply qi | apply qj));exact Q1.out) hb);have n2_ := qr (qq (by (with_reducible repeat (first | apply qk | apply ql | apply qm));exact Ql.out) hb);have n3_ := qr (qq (by (with_reducible repeat (first | apply qk | apply ql | apply qm));exact Qf.out) hb);have n4_ := qr (qv (g := Qd) (o := .cells #[.slice Q2 Qi.length Q3,.slice Q4 Qh.length Q5,.int .i64 Qc,.int .u64 Qj,.int .i64 Qk] 69 (0,0)) (by (with_reducible repeat (first | refine qa ?_ _ | refine qb ?_ | refine qc ?_ _));exact Qa.out) hb);have n5_ := qr (qz (by repeat (first | (with_reducible first | exact HB.out | apply qe | apply qf | apply qg | refine qd ?_ Qn.out) | exact HB.out)) hb);clear Qe;clear Q1;clear Ql;clear Qf;clear Qa;clear HB;have Qe := n0_;have Q1 := n1_;have Ql := n2_;have Qf := n3_;have Qa := n4_;have HB := n5_;clear n0_ n1_ n2_ n3_ n4_ n5_;(try clear hb);(try clear hb2);(try clear hk);(try clear hi);obtain ⟨Mj,Mk,Ml⟩ := Kd.V_slice Q1.out;subst Ml) | ((with_reducible refine qy (f := 30) rfl ?_);refine zm (some 102) rfl rfl Try.func30 (by kernel_rfl) rfl #[.slice Mj Q0.length Mk,.slice Zk Qb.length Zl] rfl (by (try simp only [zc,zd,ze]);first | done | rfl | (simp only [za,zb];rfl)) ?_;(with_reducible refine (tattleref06_Same.calls Q9 _ _ Q0 _ _ Qb true _ ?Qo ?Qp ?Zc ?Zd Pd.out).mono ?_);(case Qo => repeat (first | exact (Kd.V_reads' Q1.out).2.2 | (with_reducible refine zj ?_ _) | (with_reducible refine zk ?_ _) | (with_reducible refine zl ?_)));(case Qp => exact (Kd.V_reads' Q1.out).2.1);(case Zc => repeat (first | exact (Kd.V_reads' Qe.out).2.2 | (with_reducible refine zj ?_ _) | (with_reducible refine zk ?_ _) | (with_reducible refine zl ?_)));(case Zd => exact (Kd.V_reads' Qe.out).2.1);rintro e w' ⟨rfl,⟨nd,rfl⟩⟩;refine ⟨_,rfl,?_⟩;obtain ⟨Pq,Pr,Mm⟩ := Kd.R_slice Ql.out;subst Mm;obtain ⟨Ps,Pt,Mn⟩ := Kd.R_slice Qf.out;subst Mn) | (go_at_call 31;(with_reducible refine (table_Up.calls _ _ Qb Zw _ ?Qo ?Qp Pe.out).mono ?_);(case Qo => repeat (first | exact (Kd.V_reads' Qe.out).2.2 | (with_reducible refine zj ?_ _) | (with_reducible refine zk ?_ _) | (with_reducible refine zl ?_)));(case Qp => exact (Kd.V_reads' Qe.out).2.1);rintro e Do ⟨Wx,rfl,ho0,hb⟩;have n0_ := qr (Kd.V_elder' (by (with_reducible repeat (first | apply qh | apply qi | apply qj));exact Qe.out) (Kd.R_base ho0) hb);have n1_ := qr (qq (by (with_reducible repeat (first | apply qk | apply ql | apply qm));exact Ql.out) hb);have n2_ := qr (Kd.R_elder' (by (with_reducible repeat (first | apply qk | apply ql | apply qm));exact Qf.out) (Kd.R_base ho0) hb);have n3_ := qr (zi (Kd.R_new' ho0 (Kd.R_lt (by (with_reducible repeat (first | apply qk | apply ql | apply qm));exact Qf.out))) (below_size (by repeat (first | (with_reducible first | exact HB.out | apply qe | apply qf | apply qg | refine qd ?_ Qn.out) | exact HB.out))));have n4_ := qr (qv (g := Qd) (o := .cells #[.slice Q2 Qi.length Q3,.slice Q4 Qh.length Q5,.int .i64 Qc,.int .u64 Qj,.int .i64 Qk] 69 (0,0)) (by (with_reducible repeat (first | refine qa ?_ _ | refine qb ?_ | refine qc ?_ _));exact Qa.out) hb);have n5_ := qr (qz (by repeat (first | (with_reducible first | exact HB.out | apply qe | apply qf | apply qg | refine qd ?_ Qn.out) | exact HB.out)) hb);clear Qe;clear Ql;clear Qf;clear Qa;clear HB;have Qe := n0_;have Ql := n1_;have Qf := n2_;have X2 := n3_;have Qa := n4_;have HB := n5_;clear n0_ n1_ n2_ n3_ n4_ n5_;(try clear hb);(try clear hb2);(try clear hk);(try clear hi);(try clear ho0);obtain ⟨Pu,Pv,Mo⟩ := Kd.R_slice X2.out;subst Mo;have Mp : Do.cell? ⟨Qd,0,none⟩ = some (.slice Q2 Qi.length Q3) := (qw Qa.out 0).trans rfl;have Mq : Do.cell? ⟨Qd,1,none⟩ = some (.slice Q4 Qh.length Q5) := (qw Qa.out 1).trans rfl;have Mr : Do.cell? ⟨Qd,2,none⟩ = some (.int .i64 Qc) := (qw Qa.out 2).trans rfl;have Ms : Do.cell? ⟨Qd,3,none⟩ = some (.int .u64 Qj) := (qw Qa.out 3).trans rfl;have Mt : Do.cell? ⟨Qd,4,none⟩ = some (.int .i64 Qk) := (qw Qa.out 4).trans rfl;have Mu := qx Qa.out 0;have Mv := qx Qa.out 1;have Mw := qx Qa.out 2;have Mx := qx Qa.out 3;have My := qx Qa.out 4) | (go_at_call 34;(with_reducible refine (table_Others.calls _ _ Qb Qc Zn _ ?Qo ?Qp Pf.out).mono ?_);(case Qo => repeat (first | exact (Kd.V_reads' Qe.out).2.2 | (with_reducible refine zj ?_ _) | (with_reducible refine zk ?_ _) | (with_reducible refine zl ?_)));(case Qp => exact (Kd.V_reads' Qe.out).2.1);rintro e Wy ⟨Wz,rfl,ho0,hb⟩;have n0_ := qr (Kd.V_elder' (by (with_reducible repeat (first | apply qh | apply qi | apply qj));exact Qe.out) (Kd.R_base ho0) hb);have n1_ := qr (qq (by (with_reducible repeat (first | apply qk | apply ql | apply qm));exact Ql.out) hb);have n2_ := qr (Kd.R_elder' (by (with_reducible repeat (first | apply qk | apply ql | apply qm));exact Qf.out) (Kd.R_base ho0) hb);have n3_ := qr (Kd.R_elder' (by (with_reducible repeat (first | apply qk | apply ql | apply qm));exact X2.out) (Kd.R_base ho0) hb);have n4_ := qr (zi (Kd.R_new' (Kd.R_new' ho0 (Kd.R_lt (by (with_reducible repeat (first | apply qk | apply ql | apply qm));exact Qf.out))) (Kd.R_lt (by (with_reducible repeat (first | apply qk | apply ql | apply qm));exact X2.out))) (below_size (by repeat (first | (with_reducible first | exact HB.out | apply qe | apply qf | apply qg | refine qd ?_ Qn.out) | exact HB.out))));have n5_ := qr (qv (g := Qd) (o := .cells #[.slice Q2 Qi.length Q3,.slice Q4 Qh.length Q5,.int .i64 Qc,.int .u64 Qj,.int .i64 Qk] 69 (0,0)) (by (with_reducible repeat (first | refine qa ?_ _ | refine qb ?_ | refine qc ?_ _));exact Qa.out) hb);have n6_ := qr (qz (by repeat (first | (with_reducible first | exact HB.out | apply qe | apply qf | apply qg | refine qd ?_ Qn.out) | exact HB.out)) hb);clear Qe;clear Ql;clear Qf;clear X2;clear Qa;clear HB;have Qe := n0_;have Ql := n1_;have Qf := n2_;have X2 := n3_;have V9 := n4_;have Qa := n5_;have HB := n6_;clear n0_ n1_ n2_ n3_ n4_ n5_ n6_;(try clear hb);(try clear hb2);(try clear hk);(try clear hi);(try clear ho0);obtain ⟨Pw,Px,Mz⟩ := Kd.R_slice V9.out;subst Mz) | (go_at_call 28;(with_reducible refine (tattlelaw06_awakeT.calls  Z6 _ Pg.out).mono ?_);rintro e W0 ⟨rfl,hb⟩;have n0_ := qr (qq (by (with_reducible repeat (first | apply qk | apply ql | apply qm));exact Qf.out) hb);have n1_ := qr (qq (by (with_reducible repeat (first | apply qk | apply ql | apply qm));exact X2.out) hb);have n2_ := qr (qq (by (with_reducible repeat (first | apply qk | apply ql | apply qm));exact V9.out) hb);have n3_ := qr (qv (g := Qd) (o := .cells #[.slice Q2 Qi.length Q3,.slice Q4 Qh.length Q5,.int .i64 Qc,.int .u64 Qj,.int .i64 Qk] 69 (0,0)) (by (with_reducible repeat (first | refine qa ?_ _ | refine qb ?_ | refine qc ?_ _));exact Qa.out) hb);have n4_ := qr (qz (by repeat (first | (with_reducible first | exact HB.out | apply qe | apply qf | apply qg | refine qd ?_ Qn.out) | exact HB.out)) hb);clear Qf;clear X2;clear V9;clear Qa;clear HB;have Qf := n0_;have X2 := n1_;have V9 := n2_;have Qa := n3_;have HB := n4_;clear n0_ n1_ n2_ n3_ n4_;(try clear hb);(try clear hb2);(try clear hk);(try clear hi)))
                      go_ret
                      exact ⟨by first | rfl | (simp [errW_none,errW_some] <;> rfl) | (simp [*,errW_none,errW_some] <;> rfl),by repeat (first | (with_reducible first | exact HB.out | apply qe | apply qf | apply qg | refine qd ?_ Qn.out) | exact HB.out)⟩
                    ·rw [if_neg Vr] at H
                     have c164b0 : ((Zn.length : Int) == 0) = false := beq_eq_false_iff_ne.mpr Vr
                     have c164b1 : ((Zn.length : Int) != 0) = true := bne_iff_ne.mpr Vr
                     have c164b2 : ¬ (Zn = []) := fun h_ => Vr (by rw [h_];rfl)
                     as_aux_lemma =>
                      exact absurd ((Option.some.inj H).trans hrt.out) (by decide)
                   ·rw [if_neg Vq] at H
                    have c162b0 : ((Zw.length : Int) == 0) = false := beq_eq_false_iff_ne.mpr Vq
                    have c162b1 : ((Zw.length : Int) != 0) = true := bne_iff_ne.mpr Vq
                    have c162b2 : ¬ (Zw = []) := fun h_ => Vq (by rw [h_];rfl)
                    as_aux_lemma =>
                     exact absurd ((Option.some.inj H).trans hrt.out) (by decide)
                  ·rw [if_neg V2] at H
                   have c160b0 : (Za == 1) = false := beq_eq_false_iff_ne.mpr V2
                   have c160b1 : (Za != 1) = true := bne_iff_ne.mpr V2
                   as_aux_lemma =>
                    exact absurd ((Option.some.inj H).trans hrt.out) (by decide)
                 ·rw [if_neg V1] at H
                  have c159b0 : (Q6 == 0) = false := beq_eq_false_iff_ne.mpr V1
                  have c159b1 : (Q6 != 0) = true := bne_iff_ne.mpr V1
                  as_aux_lemma =>
                   exact absurd ((Option.some.inj H).trans hrt.out) (by decide)
                ·rw [if_neg V0] at H
                 have c158b0 : (Qs == 1) = false := beq_eq_false_iff_ne.mpr V0
                 have c158b1 : (Qs != 1) = true := bne_iff_ne.mpr V0
                 as_aux_lemma =>
                  exact absurd ((Option.some.inj H).trans hrt.out) (by decide)
               ·rw [if_neg Vp] at H
                have c157b0 : ((Qr.length : Int) == 0) = false := beq_eq_false_iff_ne.mpr Vp
                have c157b1 : ((Qr.length : Int) != 0) = true := bne_iff_ne.mpr Vp
                have c157b2 : ¬ (Qr = []) := fun h_ => Vp (by rw [h_];rfl)
                as_aux_lemma =>
                 exact absurd ((Option.some.inj H).trans hrt.out) (by decide)
              ·rw [if_neg Vz] at H
               have c156b0 : (Qt == 1) = false := beq_eq_false_iff_ne.mpr Vz
               have c156b1 : (Qt != 1) = true := bne_iff_ne.mpr Vz
               as_aux_lemma =>
                exact absurd ((Option.some.inj H).trans hrt.out) (by decide)
             ·rw [if_neg Vo] at H
              have c155b0 : ((Qq.length : Int) == 0) = false := beq_eq_false_iff_ne.mpr Vo
              have c155b1 : ((Qq.length : Int) != 0) = true := bne_iff_ne.mpr Vo
              have c155b2 : ¬ (Qq = []) := fun h_ => Vo (by rw [h_];rfl)
              as_aux_lemma =>
               exact absurd ((Option.some.inj H).trans hrt.out) (by decide)
            ·rw [if_neg Vy] at H
             have c154b0 : (Qw == 1) = false := beq_eq_false_iff_ne.mpr Vy
             have c154b1 : (Qw != 1) = true := bne_iff_ne.mpr Vy
             as_aux_lemma =>
              exact absurd ((Option.some.inj H).trans hrt.out) (by decide)
          ·replace D0 := Bool.eq_false_iff.mpr D0
           subst D0
           have H1 : (some false) = some r := by rw [if_neg (show ¬ (false = true) by decide)] at H;exact H
           clear H
           have H := H1
           clear H1
           as_aux_lemma =>
            exact absurd ((Option.some.inj H).trans hrt.out) (by decide)

end Go.Proofs.Ytjamociekniepaa.Fn
