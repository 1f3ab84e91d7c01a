-- Written by program (a turned copy of the kit's print) for this seat: functions, contracts. Lean checks it.
import Derived.Test.YtlanodnbdgiihaaFnx0
import Derived.Test.YtlanodnbdgiihaaFnx2
import Derived.Test.YtlanodnbdgiihaaFnx13
import Derived.Test.YtlanodnbdgiihaaFnx14
import Derived.Test.YtlanodnbdgiihaaAw30
namespace Go.Proofs.Ytlanodnbdgiihaa.Fn
open Go.RowKit Go.Proofs.YtlanodnbdgiihaaW.PrintWords Go.Proofs.YtlanodnbdgiihaaW.PrintLast Go.Proofs.YtlanodnbdgiihaaW.PrintMore
attribute [local go_sem] max2_int min2_int max_two min_two max_three min_three max_four min_four   -- for this text's walks alone
set_option linter.unusedVariables false
set_option linter.unusedSimpArgs false

/-! ### tattlelaw08_TurnGone: function 10 -/
abbrev tattlelaw08_TurnGone.Q.qa := @blk_drewN
abbrev tattlelaw08_TurnGone.Q.qb := @blk_drew
abbrev tattlelaw08_TurnGone.Q.qc := @blk_alloc
abbrev tattlelaw08_TurnGone.Q.qd := @below_set
abbrev tattlelaw08_TurnGone.Q.qe := @below_alloc
abbrev tattlelaw08_TurnGone.Q.qf := @pw_below_drewN
abbrev tattlelaw08_TurnGone.Q.qg := @below_drew1
abbrev tattlelaw08_TurnGone.Q.qh := @Kd.V_alloc
abbrev tattlelaw08_TurnGone.Q.qi := @Kd.V_drewN
abbrev tattlelaw08_TurnGone.Q.qj := @Kd.V_drew
abbrev tattlelaw08_TurnGone.Q.qk := @Kd.R_alloc
abbrev tattlelaw08_TurnGone.Q.ql := @Kd.R_drewN
abbrev tattlelaw08_TurnGone.Q.qm := @Kd.R_drew
abbrev tattlelaw08_TurnGone.Q.qn := @Kd.V_far
abbrev tattlelaw08_TurnGone.Q.qo := @Kd.R_far
abbrev tattlelaw08_TurnGone.Q.qp := @Kd.V_mono
abbrev tattlelaw08_TurnGone.Q.qq := @Kd.V_below
abbrev tattlelaw08_TurnGone.Q.qr := @Aside0.mk
abbrev tattlelaw08_TurnGone.Q.qs := @List.setIfInBounds_toArray
abbrev tattlelaw08_TurnGone.Q.qt := @List.set_cons_zero
abbrev tattlelaw08_TurnGone.Q.qu := @List.set_cons_succ
abbrev tattlelaw08_TurnGone.Q.qv := @blk_below
abbrev tattlelaw08_TurnGone.Q.qw := @blk_cell
abbrev tattlelaw08_TurnGone.Q.qx := @blk_far
abbrev tattlelaw08_TurnGone.Q.qy := @blk_frozen
abbrev tattlelaw08_TurnGone.Q.qz := @Nat.ne_of_lt
abbrev tattlelaw08_TurnGone.Q.za := @Nat.ne_of_gt
abbrev tattlelaw08_TurnGone.Q.zb := @Nat.le_of_eq
abbrev tattlelaw08_TurnGone.Q.zc := @gate_callee
abbrev tattlelaw08_TurnGone.Q.zd := @gate_dst
abbrev tattlelaw08_TurnGone.Q.ze := @below_step
abbrev tattlelaw08_TurnGone.Q.zf := @List.length_drop
abbrev tattlelaw08_TurnGone.Q.zg := @List.length_take
abbrev tattlelaw08_TurnGone.Q.zh := @List.map_toArray
abbrev tattlelaw08_TurnGone.Q.zi := @List.map_cons
abbrev tattlelaw08_TurnGone.Q.zj := @List.map_nil
abbrev tattlelaw08_TurnGone.Q.zk := @pure_
abbrev tattlelaw08_TurnGone.Q.zl := @norm_
abbrev tattlelaw08_TurnGone.Q.zm := @Nat.le_refl
abbrev tattlelaw08_TurnGone.Q.zn := @Kd.V_lower
abbrev tattlelaw08_TurnGone.Q.zo := @Kd.C_alloc
abbrev tattlelaw08_TurnGone.Q.zp := @Kd.C_drewN
abbrev tattlelaw08_TurnGone.Q.zq := @Kd.C_drew
abbrev tattlelaw08_TurnGone.Q.zr := @goesL_
abbrev tattlelaw08_TurnGone.Q.zs := @goes_
open tattlelaw08_TurnGone.Q
mutual
def tattlelaw08_TurnGone.j0 : Nat → List Int → Int → Int → Bool → List Int → Int → ByteArray → Int → Option (Bool)
  | 0,_,_,_,_,_,_,_,_ => none
  | k + 1,x5,x6,x7,x59,Xn,Xo,Xp,Xq => if x59 = true then ((tattlelaw08_awakeT.f).bind fun Vp => (some Vp)) else (if (x5.length : Int) = 0 then (none) else (tattlelaw08_TurnGone.l0 k x5 x7 (Int.tmod (wrap64 (x6)) (x5.length : Int)) ([] : List Int) 0 Xn Xo Xp Xq))
def tattlelaw08_TurnGone.l0 : Nat → List Int → Int → Int → List Int → Int → List Int → Int → ByteArray → Int → Option (Bool)
  | 0,_,_,_,_,_,_,_,_,_ => none
  | k + 1,x5,x7,x8,x9,x10,Xn,Xo,Xp,Xq => if x10 < (x5.length : Int) then (if x10 = x8 then (tattlelaw08_TurnGone.l0 k x5 x7 x8 x9 (wrap64 (x10 + 1)) Xn Xo Xp Xq) else (if 0 ≤ x10 then (if x9.length < 17592186044416 then (tattlelaw08_TurnGone.l0 k x5 x7 x8 (x9 ++ [rd x5 x10]) (wrap64 (x10 + 1)) Xn Xo Xp Xq) else (none)) else (none))) else (tattlelaw08_TurnGone.l1 k x5 x7 x8 x9 0 Xn Xo Xp Xq)
def tattlelaw08_TurnGone.l1 : Nat → List Int → Int → Int → List Int → Int → List Int → Int → ByteArray → Int → Option (Bool)
  | 0,_,_,_,_,_,_,_,_,_ => none
  | k + 1,x5,x7,x8,x9,x11,Xn,Xo,Xp,Xq => if x11 < (wrap64 (Int.tmod x7 9)) then ((turn_Next.f k Xn Xo Xp Xq x9).bind fun Jr => (if Jr.2.2.2.2.2 = 0 then (if 0 ≤ x8 then (if x8 < (x5.length : Int) then (if Jr.1 = (rd x5 x8) then (some false) else (tattlelaw08_TurnGone.l1 k x5 x7 x8 x9 (wrap64 (x11 + 1)) Jr.2.1 Jr.2.2.1 Jr.2.2.2.1 Jr.2.2.2.2.1)) else (none)) else (none)) else (some false))) else (tattlelaw08_TurnGone.l2 k x5 x8 0 Xn Xo Xp Xq)
def tattlelaw08_TurnGone.l2 : Nat → List Int → Int → Int → List Int → Int → ByteArray → Int → Option (Bool)
  | 0,_,_,_,_,_,_,_ => none
  | k + 1,x5,x8,x16,Xn,Xo,Xp,Xq => if x16 < (wrap64 ((wrap64 (2 * (x5.length : Int))) - 1)) then ((turn_Next.f k Xn Xo Xp Xq x5).bind fun Js => (if Js.2.2.2.2.2 = 0 then (if 0 ≤ x8 then (if x8 < (x5.length : Int) then (if Js.1 = (rd x5 x8) then ((tattlelaw08_awakeT.f).bind fun Ju => (some Ju)) else (tattlelaw08_TurnGone.l2 k x5 x8 (wrap64 (x16 + 1)) Js.2.1 Js.2.2.1 Js.2.2.2.1 Js.2.2.2.2.1)) else (none)) else (none)) else (some false))) else (some false)
end
def tattlelaw08_TurnGone.f (k : Nat) (Qn : List Int) (Qi : Int) (Qv : ByteArray) (Qw : Int) (Qu : List Int) (Qk : Int) (Qm : Int) : Option (Bool) := (tattlelaw02_Few.f Qv Qw).bind fun Zp => ((tattlelaw08_Few.f Qu).bind fun Qo => ((tattlelaw08_Few.f Qn).bind fun Zb => (if (Qo.length : Int) > 10 then (tattlelaw08_TurnGone.j0 k Qo Qk Qm true Zb Qi Zp.1 Zp.2) else (if (Qo.length : Int) < 2 then (tattlelaw08_TurnGone.j0 k Qo Qk Qm true Zb Qi Zp.1 Zp.2) else ((turn_Nodes.f k Qo).bind fun Yg => (if Yg = 0 then ((turn_Check.f Zb Qi).bind fun X7 => (if X7 = 0 then ((tattleref02_May.f Zp.1 Zp.2).bind fun Yi => (tattlelaw08_TurnGone.j0 k Qo Qk Qm (!Yi) Zb Qi Zp.1 Zp.2)) else (tattlelaw08_TurnGone.j0 k Qo Qk Qm true Zb Qi Zp.1 Zp.2))) else (tattlelaw08_TurnGone.j0 k Qo Qk Qm true Zb Qi Zp.1 Zp.2)))))))
theorem tattlelaw08_TurnGone.mono_l : ∀ k,(∀ y0 y1 y2 y3 y4 y5 y6 y7,LeO (tattlelaw08_TurnGone.j0 k y0 y1 y2 y3 y4 y5 y6 y7) (tattlelaw08_TurnGone.j0 (k + 1) y0 y1 y2 y3 y4 y5 y6 y7)) ∧ (∀ y0 y1 y2 y3 y4 y5 y6 y7 y8,LeO (tattlelaw08_TurnGone.l0 k y0 y1 y2 y3 y4 y5 y6 y7 y8) (tattlelaw08_TurnGone.l0 (k + 1) y0 y1 y2 y3 y4 y5 y6 y7 y8)) ∧ (∀ y0 y1 y2 y3 y4 y5 y6 y7 y8,LeO (tattlelaw08_TurnGone.l1 k y0 y1 y2 y3 y4 y5 y6 y7 y8) (tattlelaw08_TurnGone.l1 (k + 1) y0 y1 y2 y3 y4 y5 y6 y7 y8)) ∧ (∀ y0 y1 y2 y3 y4 y5 y6,LeO (tattlelaw08_TurnGone.l2 k y0 y1 y2 y3 y4 y5 y6) (tattlelaw08_TurnGone.l2 (k + 1) y0 y1 y2 y3 y4 y5 y6))
  | 0 => ⟨fun _ _ _ _ _ _ _ _ r h => by simp [tattlelaw08_TurnGone.j0] at h,fun _ _ _ _ _ _ _ _ _ r h => by simp [tattlelaw08_TurnGone.l0] at h,fun _ _ _ _ _ _ _ _ _ r h => by simp [tattlelaw08_TurnGone.l1] at h,fun _ _ _ _ _ _ _ r h => by simp [tattlelaw08_TurnGone.l2] at h⟩
  | k + 1 => by
   obtain ⟨ih0,ih1,ih2,ih3⟩ := tattlelaw08_TurnGone.mono_l k
   refine ⟨?_,?_,?_,?_⟩
   ·intro y0 y1 y2 y3 y4 y5 y6 y7
    unfold tattlelaw08_TurnGone.j0
    repeat' first
    | (with_reducible exact ih0 _ _ _ _ _ _ _ _)
    | (with_reducible exact ih1 _ _ _ _ _ _ _ _ _)
    | (with_reducible exact ih2 _ _ _ _ _ _ _ _ _)
    | (with_reducible exact ih3 _ _ _ _ _ _ _)
    | (with_reducible exact turn_Next.mono _ _ _ _ _ _)
    | (with_reducible exact turn_Nodes.mono _ _)
    | (with_reducible exact LeO.refl _)
    | (with_reducible exact LeO.none _)
    | (with_reducible refine LeO.ite ?_ ?_)
    | (with_reducible refine LeO.bind ?_ (fun _ => ?_))
    | exact ih0 _ _ _ _ _ _ _ _
    | exact ih1 _ _ _ _ _ _ _ _ _
    | exact ih2 _ _ _ _ _ _ _ _ _
    | exact ih3 _ _ _ _ _ _ _
    | exact turn_Next.mono _ _ _ _ _ _
    | exact turn_Nodes.mono _ _
    | exact LeO.none _
    | refine LeO.ite ?_ ?_
    | refine LeO.bind ?_ (fun _ => ?_)
   ·intro y0 y1 y2 y3 y4 y5 y6 y7 y8
    unfold tattlelaw08_TurnGone.l0
    repeat' first
    | (with_reducible exact ih0 _ _ _ _ _ _ _ _)
    | (with_reducible exact ih1 _ _ _ _ _ _ _ _ _)
    | (with_reducible exact ih2 _ _ _ _ _ _ _ _ _)
    | (with_reducible exact ih3 _ _ _ _ _ _ _)
    | (with_reducible exact turn_Next.mono _ _ _ _ _ _)
    | (with_reducible exact turn_Nodes.mono _ _)
    | (with_reducible exact LeO.refl _)
    | (with_reducible exact LeO.none _)
    | (with_reducible refine LeO.ite ?_ ?_)
    | (with_reducible refine LeO.bind ?_ (fun _ => ?_))
    | exact ih0 _ _ _ _ _ _ _ _
    | exact ih1 _ _ _ _ _ _ _ _ _
    | exact ih2 _ _ _ _ _ _ _ _ _
    | exact ih3 _ _ _ _ _ _ _
    | exact turn_Next.mono _ _ _ _ _ _
    | exact turn_Nodes.mono _ _
    | exact LeO.none _
    | refine LeO.ite ?_ ?_
    | refine LeO.bind ?_ (fun _ => ?_)
   ·intro y0 y1 y2 y3 y4 y5 y6 y7 y8
    unfold tattlelaw08_TurnGone.l1
    repeat' first
    | (with_reducible exact ih0 _ _ _ _ _ _ _ _)
    | (with_reducible exact ih1 _ _ _ _ _ _ _ _ _)
    | (with_reducible exact ih2 _ _ _ _ _ _ _ _ _)
    | (with_reducible exact ih3 _ _ _ _ _ _ _)
    | (with_reducible exact turn_Next.mono _ _ _ _ _ _)
    | (with_reducible exact turn_Nodes.mono _ _)
    | (with_reducible exact LeO.refl _)
    | (with_reducible exact LeO.none _)
    | (with_reducible refine LeO.ite ?_ ?_)
    | (with_reducible refine LeO.bind ?_ (fun _ => ?_))
    | exact ih0 _ _ _ _ _ _ _ _
    | exact ih1 _ _ _ _ _ _ _ _ _
    | exact ih2 _ _ _ _ _ _ _ _ _
    | exact ih3 _ _ _ _ _ _ _
    | exact turn_Next.mono _ _ _ _ _ _
    | exact turn_Nodes.mono _ _
    | exact LeO.none _
    | refine LeO.ite ?_ ?_
    | refine LeO.bind ?_ (fun _ => ?_)
   ·intro y0 y1 y2 y3 y4 y5 y6
    unfold tattlelaw08_TurnGone.l2
    repeat' first
    | (with_reducible exact ih0 _ _ _ _ _ _ _ _)
    | (with_reducible exact ih1 _ _ _ _ _ _ _ _ _)
    | (with_reducible exact ih2 _ _ _ _ _ _ _ _ _)
    | (with_reducible exact ih3 _ _ _ _ _ _ _)
    | (with_reducible exact turn_Next.mono _ _ _ _ _ _)
    | (with_reducible exact turn_Nodes.mono _ _)
    | (with_reducible exact LeO.refl _)
    | (with_reducible exact LeO.none _)
    | (with_reducible refine LeO.ite ?_ ?_)
    | (with_reducible refine LeO.bind ?_ (fun _ => ?_))
    | exact ih0 _ _ _ _ _ _ _ _
    | exact ih1 _ _ _ _ _ _ _ _ _
    | exact ih2 _ _ _ _ _ _ _ _ _
    | exact ih3 _ _ _ _ _ _ _
    | exact turn_Next.mono _ _ _ _ _ _
    | exact turn_Nodes.mono _ _
    | exact LeO.none _
    | refine LeO.ite ?_ ?_
    | refine LeO.bind ?_ (fun _ => ?_)
theorem tattlelaw08_TurnGone.mono : ∀ a0 a1 a2 a3 a4 a5 a6 k,LeO (tattlelaw08_TurnGone.f k a0 a1 a2 a3 a4 a5 a6) (tattlelaw08_TurnGone.f (k + 1) a0 a1 a2 a3 a4 a5 a6) := by
  intro a0 a1 a2 a3 a4 a5 a6 k
  obtain ⟨ih0,ih1,ih2,ih3⟩ := tattlelaw08_TurnGone.mono_l k
  unfold tattlelaw08_TurnGone.f
  repeat' first
    | (with_reducible exact ih0 _ _ _ _ _ _ _ _)
    | (with_reducible exact ih1 _ _ _ _ _ _ _ _ _)
    | (with_reducible exact ih2 _ _ _ _ _ _ _ _ _)
    | (with_reducible exact ih3 _ _ _ _ _ _ _)
    | (with_reducible exact turn_Next.mono _ _ _ _ _ _)
    | (with_reducible exact turn_Nodes.mono _ _)
    | (with_reducible exact LeO.refl _)
    | (with_reducible exact LeO.none _)
    | (with_reducible refine LeO.ite ?_ ?_)
    | (with_reducible refine LeO.bind ?_ (fun _ => ?_))
    | exact ih0 _ _ _ _ _ _ _ _
    | exact ih1 _ _ _ _ _ _ _ _ _
    | exact ih2 _ _ _ _ _ _ _ _ _
    | exact ih3 _ _ _ _ _ _ _
    | exact turn_Next.mono _ _ _ _ _ _
    | exact turn_Nodes.mono _ _
    | exact LeO.none _
    | refine LeO.ite ?_ ?_
    | refine LeO.bind ?_ (fun _ => ?_)
def tattlelaw08_TurnGone.T1 : Bool × List (List Nat × List Nat) := (true,[([],[]),([0],[0]),([],[]),([2],[2]),([3],[3]),([],[]),([5],[5]),([6,4],[6]),([],[]),([8],[8]),([],[]),([10],[10]),([],[]),([],[]),([12,1,7,0,1,12,13],[1,12]),([13,4,14,0,1,2,3,4,12,13,14],[4,13]),([7,15,0,1,2,3,4,5,6,7,12,13,14,15],[7]),([9,16,0,1,2,3,4,5,6,7,8,9,12,13,14,15,16],[9]),([11,17,0,1,2,3,4,5,6,7,8,9,10,11,12,13,14,15,16,17],[11])])
def tattlelaw08_TurnGone.B1 : List Nat := [0,1,0,4,12,0,32,124,0,256,0,1024,0,0,12543,28927,61695,127999,262143]
theorem tattlelaw08_TurnGone.tab1 : rtab .any (opsOf Try.f10 1) = tattlelaw08_TurnGone.T1 := by kernel_rfl
theorem tattlelaw08_TurnGone.bits1 : waitsOk tattlelaw08_TurnGone.T1.2 tattlelaw08_TurnGone.B1 = true := by kernel_rfl
set_option maxHeartbeats 8000000 in
set_option maxRecDepth 100000 in
theorem tattlelaw08_TurnGone.calls (k : Nat) (Qs : Option Addr) (Qt : Nat) (Qn : List Int) (Qi : Int) (Qv : ByteArray) (Qw : Int) (Qy : Option Addr) (Qz : Nat) (Qu : List Int) (Qk : Int) (Qm : Int) (r : Bool) (w : World) (Di : Kd.C (Kd.int .i64) w Qs Qn.length Qn) (Dj : Qn.length ≤ Qt) (Dk : Kd.C (Kd.int .i64) w Qy Qu.length Qu) (Dl : Qu.length ≤ Qz) (hrt : Aside0 (r = true)) (h : tattlelaw08_TurnGone.f k Qn Qi Qv Qw Qu Qk Qm = some r) :
   Calls Try.prog 10 #[.agg #[.slice Qs Qn.length Qt,.int .i64 Qi,.string Qv,.int .i64 Qw,.slice Qy Qu.length Qz,.int .u8 Qk,.int .u8 Qm]] w fun e w' => e = .returned (.bool r) ∧ Below w.heap.size w w' := by
  have Rl := Try.underlying57
  have Rm := Try.underlying49
  have Rn := Try.underlying23
  have Dp := qr Di
  have Dq := qr Dj
  clear Di Dj
  have Vj := qr Dk
  have Vk := qr Dl
  clear Dk Dl
  have HB := qr (Below.refl w.heap.size w)
  have H : ((tattlelaw02_Few.f Qv Qw).bind fun Zp => ((tattlelaw08_Few.f Qu).bind fun Qo => ((tattlelaw08_Few.f Qn).bind fun Zb => (if (Qo.length : Int) > 10 then (tattlelaw08_TurnGone.j0 k Qo Qk Qm true Zb Qi Zp.1 Zp.2) else (if (Qo.length : Int) < 2 then (tattlelaw08_TurnGone.j0 k Qo Qk Qm true Zb Qi Zp.1 Zp.2) else ((turn_Nodes.f k Qo).bind fun Yg => (if Yg = 0 then ((turn_Check.f Zb Qi).bind fun X7 => (if X7 = 0 then ((tattleref02_May.f Zp.1 Zp.2).bind fun Yi => (tattlelaw08_TurnGone.j0 k Qo Qk Qm (!Yi) Zb Qi Zp.1 Zp.2)) else (tattlelaw08_TurnGone.j0 k Qo Qk Qm true Zb Qi Zp.1 Zp.2))) else (tattlelaw08_TurnGone.j0 k Qo Qk Qm true Zb Qi Zp.1 Zp.2)))))))) = some r := h
  clear h
  replace H := Option.bind_eq_some_iff.mp H
  obtain ⟨⟨Zg,Zi⟩,A20,H⟩ := H
  replace H : ((tattlelaw08_Few.f Qu).bind fun Qo => ((tattlelaw08_Few.f Qn).bind fun Zb => (if (Qo.length : Int) > 10 then (tattlelaw08_TurnGone.j0 k Qo Qk Qm true Zb Qi Zg Zi) else (if (Qo.length : Int) < 2 then (tattlelaw08_TurnGone.j0 k Qo Qk Qm true Zb Qi Zg Zi) else ((turn_Nodes.f k Qo).bind fun Yg => (if Yg = 0 then ((turn_Check.f Zb Qi).bind fun X7 => (if X7 = 0 then ((tattleref02_May.f Zg Zi).bind fun Yi => (tattlelaw08_TurnGone.j0 k Qo Qk Qm (!Yi) Zb Qi Zg Zi)) else (tattlelaw08_TurnGone.j0 k Qo Qk Qm true Zb Qi Zg Zi))) else (tattlelaw08_TurnGone.j0 k Qo Qk Qm true Zb Qi Zg Zi))))))) = some r := H
  have A2 := qr A20
  clear A20
  replace H := Option.bind_eq_some_iff.mp H
  obtain ⟨Qo,A30,H⟩ := H
  replace H : ((tattlelaw08_Few.f Qn).bind fun Zb => (if (Qo.length : Int) > 10 then (tattlelaw08_TurnGone.j0 k Qo Qk Qm true Zb Qi Zg Zi) else (if (Qo.length : Int) < 2 then (tattlelaw08_TurnGone.j0 k Qo Qk Qm true Zb Qi Zg Zi) else ((turn_Nodes.f k Qo).bind fun Yg => (if Yg = 0 then ((turn_Check.f Zb Qi).bind fun X7 => (if X7 = 0 then ((tattleref02_May.f Zg Zi).bind fun Yi => (tattlelaw08_TurnGone.j0 k Qo Qk Qm (!Yi) Zb Qi Zg Zi)) else (tattlelaw08_TurnGone.j0 k Qo Qk Qm true Zb Qi Zg Zi))) else (tattlelaw08_TurnGone.j0 k Qo Qk Qm true Zb Qi Zg Zi)))))) = some r := H
  have A3 := qr A30
  clear A30
  replace H := Option.bind_eq_some_iff.mp H
  obtain ⟨Zb,A40,H⟩ := H
  replace H : (if (Qo.length : Int) > 10 then (tattlelaw08_TurnGone.j0 k Qo Qk Qm true Zb Qi Zg Zi) else (if (Qo.length : Int) < 2 then (tattlelaw08_TurnGone.j0 k Qo Qk Qm true Zb Qi Zg Zi) else ((turn_Nodes.f k Qo).bind fun Yg => (if Yg = 0 then ((turn_Check.f Zb Qi).bind fun X7 => (if X7 = 0 then ((tattleref02_May.f Zg Zi).bind fun Yi => (tattlelaw08_TurnGone.j0 k Qo Qk Qm (!Yi) Zb Qi Zg Zi)) else (tattlelaw08_TurnGone.j0 k Qo Qk Qm true Zb Qi Zg Zi))) else (tattlelaw08_TurnGone.j0 k Qo Qk Qm true Zb Qi Zg Zi))))) = some r := H
  have A4 := qr A40
  clear A40
  have HC5 := qr H
  clear H
  go_enter Try.func10,Try.ntmps10
  try go_wp2_with (first | ((with_reducible refine zd (N := 1) rfl ?_);(try (refine gate_guard (by rfl) ?_;dsimp only));refine box_event ?hg (N := 1) ?hd (cs := #[.slice Qs Qn.length Qt,.int .i64 Qi,.string Qv,.int .i64 Qw,.slice Qy Qu.length Qz,.int .u8 Qk,.int .u8 Qm]) (t := 57) ?hr ?_;(case hd => rfl);(case hg => rfl);(case hr => first | (go_simp;done) | (go_simp;rfl));intro Qa hg w6 hbox hb;have n0_ := qr (ze (by repeat (first | (with_reducible first | exact HB.out | apply qe | apply qf | apply qg) | exact HB.out)) hb);have n1_ := qr (hbox);have n2_ := qr ((by rw [hg];exact (below_size (by repeat (first | (with_reducible first | exact HB.out | apply qe | apply qf | apply qg) | exact HB.out))) : w.heap.size ≤ Qa));have n3_ := qr ((by rw [hg];exact (below_size (by repeat (first | (with_reducible first | exact HB.out | apply qe | apply qf | apply qg) | exact HB.out))) : w.heap.size ≤ Qa));clear HB;have HB := n0_;have Qb := n1_;have Jv := n2_;have Ql := n3_;clear n0_ n1_ n2_ n3_;clear hb hbox hg))
  have n0_ := qr (qb Qb.out)
  have n1_ := qr (qg HB.out)
  clear Qb
  clear HB
  have Qb := n0_
  have HB := n1_
  clear n0_ n1_
  refine start_ (n := 19) (S := fun w' => w'.cell? ⟨Qa,0,none⟩ = some (.slice Qs Qn.length Qt) ∧ w'.cell? ⟨Qa,1,none⟩ = some (.int .i64 Qi) ∧ w'.cell? ⟨Qa,2,none⟩ = some (.string Qv) ∧ w'.cell? ⟨Qa,3,none⟩ = some (.int .i64 Qw) ∧ w'.cell? ⟨Qa,4,none⟩ = some (.slice Qy Qu.length Qz) ∧ w'.cell? ⟨Qa,5,none⟩ = some (.int .u8 Qk) ∧ w'.cell? ⟨Qa,6,none⟩ = some (.int .u8 Qm)) (ds := []) #[false,false,false,false,false,false,false,false,false,false,false,false,false,false,false,false,false,false,false] (by kernel_rfl) rfl rfl ⟨(qw Qb.out 0).trans rfl,(qw Qb.out 1).trans rfl,(qw Qb.out 2).trans rfl,(qw Qb.out 3).trans rfl,(qw Qb.out 4).trans rfl,(qw Qb.out 5).trans rfl,(qw Qb.out 6).trans rfl⟩ (fun hHeld => ?_);refine with_tabW tattlelaw08_TurnGone.tab1 tattlelaw08_TurnGone.bits1 (fun HT_ HW_ => ?_)
  generalize w6.drew = w7 at Qb HB hHeld ⊢
  refine zk (i := 0) (N := some 21) (v := ?_) (a' := ?_) #[true,false,false,false,false,false,false,false,false,false,false,false,false,false,false,false,false,false,false] rfl rfl (any_of HT_.out (by kernel_rfl)) (fun _ _ _ h => h) (Or.inl ⟨by rfl,?_⟩) ?_ ?_
  rotate_left
  ·intro w'
   go_simp
   with_reducible rfl
  rotate_left
  ·simp only [Act.put,qs,qt,qu,i64_w,i32_w]
   rfl
  refine zk (i := 2) (N := some 23) (v := ?_) (a' := ?_) #[true,false,true,false,false,false,false,false,false,false,false,false,false,false,false,false,false,false,false] rfl rfl (any_of HT_.out (by kernel_rfl)) (fun _ _ _ h => h) (Or.inl ⟨by rfl,?_⟩) ?_ ?_
  rotate_left
  ·intro w'
   go_simp
   with_reducible rfl
  rotate_left
  ·simp only [Act.put,qs,qt,qu,i64_w,i32_w]
   rfl
  refine zk (i := 5) (N := some 26) (v := ?_) (a' := ?_) #[true,false,true,false,false,true,false,false,false,false,false,false,false,false,false,false,false,false,false] rfl rfl (any_of HT_.out (by kernel_rfl)) (fun _ _ _ h => h) (Or.inl ⟨by rfl,?_⟩) ?_ ?_
  rotate_left
  ·intro w'
   go_simp
   with_reducible rfl
  rotate_left
  ·simp only [Act.put,qs,qt,qu,i64_w,i32_w]
   rfl
  refine zk (i := 8) (N := some 29) (v := ?_) (a' := ?_) #[true,false,true,false,false,true,false,false,true,false,false,false,false,false,false,false,false,false,false] rfl rfl (any_of HT_.out (by kernel_rfl)) (fun _ _ _ h => h) (Or.inl ⟨by rfl,?_⟩) ?_ ?_
  rotate_left
  ·intro w'
   go_simp
   with_reducible rfl
  rotate_left
  ·simp only [Act.put,qs,qt,qu,i64_w,i32_w]
   rfl
  refine zk (i := 10) (N := some 31) (v := ?_) (a' := ?_) #[true,false,true,false,false,true,false,false,true,false,true,false,false,false,false,false,false,false,false] rfl rfl (any_of HT_.out (by kernel_rfl)) (fun _ _ _ h => h) (Or.inl ⟨by rfl,?_⟩) ?_ ?_
  rotate_left
  ·intro w'
   go_simp
   with_reducible rfl
  rotate_left
  ·simp only [Act.put,qs,qt,qu,i64_w,i32_w]
   rfl
  refine take_ (i := 1) (N := some 22) (v := ?_) (a' := ?_) #[true,true,true,false,false,true,false,false,true,false,true,false,false,false,false,false,false,false,false] rfl rfl (take_ofW HT_.out HW_.out (by kernel_rfl)) (fun _ _ _ h => h) (Or.inl ⟨by rfl,?_⟩) hHeld ?_ ?_
  rotate_left
  ·rintro w' ⟨s0,s1,s2,s3,s4,s5,s6⟩
   go_simp
   with_reducible rfl
  rotate_left
  ·simp only [Act.put,qs,qt,qu,i64_w,i32_w]
   rfl
  refine take_ (i := 3) (N := some 24) (v := ?_) (a' := ?_) #[true,true,true,true,false,true,false,false,true,false,true,false,false,false,false,false,false,false,false] rfl rfl (take_ofW HT_.out HW_.out (by kernel_rfl)) (fun _ _ _ h => h) (Or.inl ⟨by rfl,?_⟩) hHeld ?_ ?_
  rotate_left
  ·rintro w' ⟨s0,s1,s2,s3,s4,s5,s6⟩
   go_simp
   with_reducible rfl
  rotate_left
  ·simp only [Act.put,qs,qt,qu,i64_w,i32_w]
   rfl
  refine take_ (i := 6) (N := some 27) (v := ?_) (a' := ?_) #[true,true,true,true,false,true,true,false,true,false,true,false,false,false,false,false,false,false,false] rfl rfl (take_ofW HT_.out HW_.out (by kernel_rfl)) (fun _ _ _ h => h) (Or.inl ⟨by rfl,?_⟩) hHeld ?_ ?_
  rotate_left
  ·rintro w' ⟨s0,s1,s2,s3,s4,s5,s6⟩
   go_simp
   with_reducible rfl
  rotate_left
  ·simp only [Act.put,qs,qt,qu,i64_w,i32_w]
   rfl
  refine take_ (i := 9) (N := some 30) (v := ?_) (a' := ?_) #[true,true,true,true,false,true,true,false,true,true,true,false,false,false,false,false,false,false,false] rfl rfl (take_ofW HT_.out HW_.out (by kernel_rfl)) (fun _ _ _ h => h) (Or.inl ⟨by rfl,?_⟩) hHeld ?_ ?_
  rotate_left
  ·rintro w' ⟨s0,s1,s2,s3,s4,s5,s6⟩
   go_simp
   with_reducible rfl
  rotate_left
  ·simp only [Act.put,qs,qt,qu,i64_w,i32_w]
   rfl
  refine take_ (i := 11) (N := some 32) (v := ?_) (a' := ?_) #[true,true,true,true,false,true,true,false,true,true,true,true,false,false,false,false,false,false,false] rfl rfl (take_ofW HT_.out HW_.out (by kernel_rfl)) (fun _ _ _ h => h) (Or.inl ⟨by rfl,?_⟩) hHeld ?_ ?_
  rotate_left
  ·rintro w' ⟨s0,s1,s2,s3,s4,s5,s6⟩
   go_simp
   with_reducible rfl
  rotate_left
  ·simp only [Act.put,qs,qt,qu,i64_w,i32_w]
   rfl
  refine join_ (σ := Value × Nat × Nat) 5 #[true,true,true,true,true,true,true,true,true,true,true,true,true,true,false,false,false,false,false] (fun s_ => [(25,.agg #[.string Zg,.int .i64 Zi]),(28,s_.1),(3,.pointer (some ⟨s_.2.1,0,none⟩)),(4,.pointer (some ⟨s_.2.2,0,none⟩))]) (fun s_ w' => (w'.cell? ⟨Qa,0,none⟩ = some (.slice Qs Qn.length Qt) ∧ w'.cell? ⟨Qa,1,none⟩ = some (.int .i64 Qi) ∧ w'.cell? ⟨Qa,2,none⟩ = some (.string Qv) ∧ w'.cell? ⟨Qa,3,none⟩ = some (.int .i64 Qw) ∧ w'.cell? ⟨Qa,4,none⟩ = some (.slice Qy Qu.length Qz) ∧ w'.cell? ⟨Qa,5,none⟩ = some (.int .u8 Qk) ∧ w'.cell? ⟨Qa,6,none⟩ = some (.int .u8 Qm)) ∧ (Kd.V (Kd.int .i64) 3 w' w.heap.size (fun k_ => k_ ≠ Qa ∧ k_ ≠ s_.2.1 ∧ k_ ≠ s_.2.2) s_.1 Qo) ∧ (w'.heap[Qa]? = some (.cells #[.slice Qs Qn.length Qt,.int .i64 Qi,.string Qv,.int .i64 Qw,.slice Qy Qu.length Qz,.int .u8 Qk,.int .u8 Qm] 57 (0,0))) ∧ (w'.heap[s_.2.1]? = some (.cells #[.slice none 0 0,.int .i64 0] 49 (0,0))) ∧ (w'.heap[s_.2.2]? = some (.cells #[.string (⟨#[]⟩ : ByteArray),.int .i64 0] 23 (0,0))) ∧ (w.heap.size ≤ s_.2.1) ∧ (w.heap.size ≤ s_.2.1) ∧ (Qa ≠ s_.2.1) ∧ (s_.2.1 ≠ Qa) ∧ (s_.2.2 ≠ s_.2.1) ∧ (s_.2.1 ≠ s_.2.2) ∧ (w.heap.size ≤ s_.2.2) ∧ (w.heap.size ≤ s_.2.2) ∧ (Qa ≠ s_.2.2) ∧ (s_.2.2 ≠ Qa) ∧ (Below w.heap.size w w')) ?_ ?_
  rotate_left
  ·intro Yj
   refine join_ (σ := Value × Nat) 6 #[true,true,true,true,true,true,true,true,true,true,true,true,true,false,false,false,false,false,false] (fun s_ => [(25,.agg #[.string Zg,.int .i64 Zi]),(28,s_.1),(3,.pointer (some ⟨s_.2,0,none⟩))]) (fun s_ w' => (w'.cell? ⟨Qa,0,none⟩ = some (.slice Qs Qn.length Qt) ∧ w'.cell? ⟨Qa,1,none⟩ = some (.int .i64 Qi) ∧ w'.cell? ⟨Qa,2,none⟩ = some (.string Qv) ∧ w'.cell? ⟨Qa,3,none⟩ = some (.int .i64 Qw) ∧ w'.cell? ⟨Qa,4,none⟩ = some (.slice Qy Qu.length Qz) ∧ w'.cell? ⟨Qa,5,none⟩ = some (.int .u8 Qk) ∧ w'.cell? ⟨Qa,6,none⟩ = some (.int .u8 Qm)) ∧ (Kd.V (Kd.int .i64) 3 w' w.heap.size (fun k_ => k_ ≠ Qa ∧ k_ ≠ s_.2) s_.1 Qo) ∧ (w'.heap[Qa]? = some (.cells #[.slice Qs Qn.length Qt,.int .i64 Qi,.string Qv,.int .i64 Qw,.slice Qy Qu.length Qz,.int .u8 Qk,.int .u8 Qm] 57 (0,0))) ∧ (w'.heap[s_.2]? = some (.cells #[.slice none 0 0,.int .i64 0] 49 (0,0))) ∧ (w.heap.size ≤ s_.2) ∧ (w.heap.size ≤ s_.2) ∧ (Qa ≠ s_.2) ∧ (s_.2 ≠ Qa) ∧ (Below w.heap.size w w')) ?_ ?_
   rotate_left
   ·intro Jw
    refine join_ (σ := Value × Nat) 6 #[true,true,true,true,true,true,true,true,true,true,true,true,false,true,false,false,false,false,false] (fun s_ => [(25,.agg #[.string Zg,.int .i64 Zi]),(28,s_.1),(4,.pointer (some ⟨s_.2,0,none⟩))]) (fun s_ w' => (w'.cell? ⟨Qa,0,none⟩ = some (.slice Qs Qn.length Qt) ∧ w'.cell? ⟨Qa,1,none⟩ = some (.int .i64 Qi) ∧ w'.cell? ⟨Qa,2,none⟩ = some (.string Qv) ∧ w'.cell? ⟨Qa,3,none⟩ = some (.int .i64 Qw) ∧ w'.cell? ⟨Qa,4,none⟩ = some (.slice Qy Qu.length Qz) ∧ w'.cell? ⟨Qa,5,none⟩ = some (.int .u8 Qk) ∧ w'.cell? ⟨Qa,6,none⟩ = some (.int .u8 Qm)) ∧ (Kd.V (Kd.int .i64) 3 w' w.heap.size (fun k_ => k_ ≠ Qa ∧ k_ ≠ s_.2) s_.1 Qo) ∧ (w'.heap[Qa]? = some (.cells #[.slice Qs Qn.length Qt,.int .i64 Qi,.string Qv,.int .i64 Qw,.slice Qy Qu.length Qz,.int .u8 Qk,.int .u8 Qm] 57 (0,0))) ∧ (w'.heap[s_.2]? = some (.cells #[.string (⟨#[]⟩ : ByteArray),.int .i64 0] 23 (0,0))) ∧ (w.heap.size ≤ s_.2) ∧ (w.heap.size ≤ s_.2) ∧ (Qa ≠ s_.2) ∧ (s_.2 ≠ Qa) ∧ (Below w.heap.size w w')) ?_ ?_
    rotate_left
    ·intro Jx
     refine join_ (σ := Nat × Nat) 6 #[true,true,true,true,true,true,true,false,true,true,true,true,true,true,false,false,false,false,false] (fun s_ => [(25,.agg #[.string Zg,.int .i64 Zi]),(3,.pointer (some ⟨s_.1,0,none⟩)),(4,.pointer (some ⟨s_.2,0,none⟩))]) (fun s_ w' => (w'.cell? ⟨Qa,0,none⟩ = some (.slice Qs Qn.length Qt) ∧ w'.cell? ⟨Qa,1,none⟩ = some (.int .i64 Qi) ∧ w'.cell? ⟨Qa,2,none⟩ = some (.string Qv) ∧ w'.cell? ⟨Qa,3,none⟩ = some (.int .i64 Qw) ∧ w'.cell? ⟨Qa,4,none⟩ = some (.slice Qy Qu.length Qz) ∧ w'.cell? ⟨Qa,5,none⟩ = some (.int .u8 Qk) ∧ w'.cell? ⟨Qa,6,none⟩ = some (.int .u8 Qm)) ∧ (w'.heap[Qa]? = some (.cells #[.slice Qs Qn.length Qt,.int .i64 Qi,.string Qv,.int .i64 Qw,.slice Qy Qu.length Qz,.int .u8 Qk,.int .u8 Qm] 57 (0,0))) ∧ (w'.heap[s_.1]? = some (.cells #[.slice none 0 0,.int .i64 0] 49 (0,0))) ∧ (w'.heap[s_.2]? = some (.cells #[.string (⟨#[]⟩ : ByteArray),.int .i64 0] 23 (0,0))) ∧ (w.heap.size ≤ s_.1) ∧ (w.heap.size ≤ s_.1) ∧ (Qa ≠ s_.1) ∧ (s_.1 ≠ Qa) ∧ (s_.2 ≠ s_.1) ∧ (s_.1 ≠ s_.2) ∧ (w.heap.size ≤ s_.2) ∧ (w.heap.size ≤ s_.2) ∧ (Qa ≠ s_.2) ∧ (s_.2 ≠ Qa) ∧ (Below w.heap.size w w')) ?_ ?_
     rotate_left
     ·intro Yt
      refine join_ (σ := Value) 7 #[true,true,true,true,true,true,true,true,true,true,true,true,false,false,false,false,false,false,false] (fun s_ => [(25,.agg #[.string Zg,.int .i64 Zi]),(28,s_)]) (fun s_ w' => (w'.cell? ⟨Qa,0,none⟩ = some (.slice Qs Qn.length Qt) ∧ w'.cell? ⟨Qa,1,none⟩ = some (.int .i64 Qi) ∧ w'.cell? ⟨Qa,2,none⟩ = some (.string Qv) ∧ w'.cell? ⟨Qa,3,none⟩ = some (.int .i64 Qw) ∧ w'.cell? ⟨Qa,4,none⟩ = some (.slice Qy Qu.length Qz) ∧ w'.cell? ⟨Qa,5,none⟩ = some (.int .u8 Qk) ∧ w'.cell? ⟨Qa,6,none⟩ = some (.int .u8 Qm)) ∧ (Kd.V (Kd.int .i64) 3 w' w.heap.size (fun k_ => k_ ≠ Qa) s_ Qo) ∧ (w'.heap[Qa]? = some (.cells #[.slice Qs Qn.length Qt,.int .i64 Qi,.string Qv,.int .i64 Qw,.slice Qy Qu.length Qz,.int .u8 Qk,.int .u8 Qm] 57 (0,0))) ∧ (Below w.heap.size w w')) ?_ ?_
      rotate_left
      ·intro Dr
       refine join_ (σ := Nat) 7 #[true,true,true,true,true,true,true,false,true,true,true,true,true,false,false,false,false,false,false] (fun s_ => [(25,.agg #[.string Zg,.int .i64 Zi]),(3,.pointer (some ⟨s_,0,none⟩))]) (fun s_ w' => (w'.cell? ⟨Qa,0,none⟩ = some (.slice Qs Qn.length Qt) ∧ w'.cell? ⟨Qa,1,none⟩ = some (.int .i64 Qi) ∧ w'.cell? ⟨Qa,2,none⟩ = some (.string Qv) ∧ w'.cell? ⟨Qa,3,none⟩ = some (.int .i64 Qw) ∧ w'.cell? ⟨Qa,4,none⟩ = some (.slice Qy Qu.length Qz) ∧ w'.cell? ⟨Qa,5,none⟩ = some (.int .u8 Qk) ∧ w'.cell? ⟨Qa,6,none⟩ = some (.int .u8 Qm)) ∧ (w'.heap[Qa]? = some (.cells #[.slice Qs Qn.length Qt,.int .i64 Qi,.string Qv,.int .i64 Qw,.slice Qy Qu.length Qz,.int .u8 Qk,.int .u8 Qm] 57 (0,0))) ∧ (w'.heap[s_]? = some (.cells #[.slice none 0 0,.int .i64 0] 49 (0,0))) ∧ (w.heap.size ≤ s_) ∧ (w.heap.size ≤ s_) ∧ (Qa ≠ s_) ∧ (s_ ≠ Qa) ∧ (Below w.heap.size w w')) ?_ ?_
       rotate_left
       ·intro Vs
        refine join_ (σ := Nat) 7 #[true,true,true,true,true,true,true,false,true,true,true,true,false,true,false,false,false,false,false] (fun s_ => [(25,.agg #[.string Zg,.int .i64 Zi]),(4,.pointer (some ⟨s_,0,none⟩))]) (fun s_ w' => (w'.cell? ⟨Qa,0,none⟩ = some (.slice Qs Qn.length Qt) ∧ w'.cell? ⟨Qa,1,none⟩ = some (.int .i64 Qi) ∧ w'.cell? ⟨Qa,2,none⟩ = some (.string Qv) ∧ w'.cell? ⟨Qa,3,none⟩ = some (.int .i64 Qw) ∧ w'.cell? ⟨Qa,4,none⟩ = some (.slice Qy Qu.length Qz) ∧ w'.cell? ⟨Qa,5,none⟩ = some (.int .u8 Qk) ∧ w'.cell? ⟨Qa,6,none⟩ = some (.int .u8 Qm)) ∧ (w'.heap[Qa]? = some (.cells #[.slice Qs Qn.length Qt,.int .i64 Qi,.string Qv,.int .i64 Qw,.slice Qy Qu.length Qz,.int .u8 Qk,.int .u8 Qm] 57 (0,0))) ∧ (w'.heap[s_]? = some (.cells #[.string (⟨#[]⟩ : ByteArray),.int .i64 0] 23 (0,0))) ∧ (w.heap.size ≤ s_) ∧ (w.heap.size ≤ s_) ∧ (Qa ≠ s_) ∧ (s_ ≠ Qa) ∧ (Below w.heap.size w w')) ?_ ?_
        rotate_left
        ·intro Vt
         refine join_ (σ := Nat × Nat) 7 #[true,true,true,true,false,true,true,false,true,true,true,true,true,true,false,false,false,false,false] (fun s_ => [(3,.pointer (some ⟨s_.1,0,none⟩)),(4,.pointer (some ⟨s_.2,0,none⟩))]) (fun s_ w' => (w'.cell? ⟨Qa,0,none⟩ = some (.slice Qs Qn.length Qt) ∧ w'.cell? ⟨Qa,1,none⟩ = some (.int .i64 Qi) ∧ w'.cell? ⟨Qa,2,none⟩ = some (.string Qv) ∧ w'.cell? ⟨Qa,3,none⟩ = some (.int .i64 Qw) ∧ w'.cell? ⟨Qa,4,none⟩ = some (.slice Qy Qu.length Qz) ∧ w'.cell? ⟨Qa,5,none⟩ = some (.int .u8 Qk) ∧ w'.cell? ⟨Qa,6,none⟩ = some (.int .u8 Qm)) ∧ (w'.heap[Qa]? = some (.cells #[.slice Qs Qn.length Qt,.int .i64 Qi,.string Qv,.int .i64 Qw,.slice Qy Qu.length Qz,.int .u8 Qk,.int .u8 Qm] 57 (0,0))) ∧ (w'.heap[s_.1]? = some (.cells #[.slice none 0 0,.int .i64 0] 49 (0,0))) ∧ (w'.heap[s_.2]? = some (.cells #[.string (⟨#[]⟩ : ByteArray),.int .i64 0] 23 (0,0))) ∧ (w.heap.size ≤ s_.1) ∧ (w.heap.size ≤ s_.1) ∧ (Qa ≠ s_.1) ∧ (s_.1 ≠ Qa) ∧ (s_.2 ≠ s_.1) ∧ (s_.1 ≠ s_.2) ∧ (w.heap.size ≤ s_.2) ∧ (w.heap.size ≤ s_.2) ∧ (Qa ≠ s_.2) ∧ (s_.2 ≠ Qa) ∧ (Below w.heap.size w w')) ?_ ?_
         rotate_left
         ·intro Vl
          refine join_ (σ := Unit) 8 #[true,true,true,true,true,true,true,false,true,true,true,true,false,false,false,false,false,false,false] (fun s_ => [(25,.agg #[.string Zg,.int .i64 Zi])]) (fun s_ w' => (w'.cell? ⟨Qa,0,none⟩ = some (.slice Qs Qn.length Qt) ∧ w'.cell? ⟨Qa,1,none⟩ = some (.int .i64 Qi) ∧ w'.cell? ⟨Qa,2,none⟩ = some (.string Qv) ∧ w'.cell? ⟨Qa,3,none⟩ = some (.int .i64 Qw) ∧ w'.cell? ⟨Qa,4,none⟩ = some (.slice Qy Qu.length Qz) ∧ w'.cell? ⟨Qa,5,none⟩ = some (.int .u8 Qk) ∧ w'.cell? ⟨Qa,6,none⟩ = some (.int .u8 Qm)) ∧ (w'.heap[Qa]? = some (.cells #[.slice Qs Qn.length Qt,.int .i64 Qi,.string Qv,.int .i64 Qw,.slice Qy Qu.length Qz,.int .u8 Qk,.int .u8 Qm] 57 (0,0))) ∧ (Below w.heap.size w w')) ?_ ?_
          rotate_left
          ·intro hJ4
           refine join_ (σ := Nat) 8 #[true,true,true,true,false,true,true,false,true,true,true,true,true,false,false,false,false,false,false] (fun s_ => [(3,.pointer (some ⟨s_,0,none⟩))]) (fun s_ w' => (w'.cell? ⟨Qa,0,none⟩ = some (.slice Qs Qn.length Qt) ∧ w'.cell? ⟨Qa,1,none⟩ = some (.int .i64 Qi) ∧ w'.cell? ⟨Qa,2,none⟩ = some (.string Qv) ∧ w'.cell? ⟨Qa,3,none⟩ = some (.int .i64 Qw) ∧ w'.cell? ⟨Qa,4,none⟩ = some (.slice Qy Qu.length Qz) ∧ w'.cell? ⟨Qa,5,none⟩ = some (.int .u8 Qk) ∧ w'.cell? ⟨Qa,6,none⟩ = some (.int .u8 Qm)) ∧ (w'.heap[Qa]? = some (.cells #[.slice Qs Qn.length Qt,.int .i64 Qi,.string Qv,.int .i64 Qw,.slice Qy Qu.length Qz,.int .u8 Qk,.int .u8 Qm] 57 (0,0))) ∧ (w'.heap[s_]? = some (.cells #[.slice none 0 0,.int .i64 0] 49 (0,0))) ∧ (w.heap.size ≤ s_) ∧ (w.heap.size ≤ s_) ∧ (Qa ≠ s_) ∧ (s_ ≠ Qa) ∧ (Below w.heap.size w w')) ?_ ?_
           rotate_left
           ·intro Lf
            refine join_ (σ := Nat) 8 #[true,true,true,true,false,true,true,false,true,true,true,true,false,true,false,false,false,false,false] (fun s_ => [(4,.pointer (some ⟨s_,0,none⟩))]) (fun s_ w' => (w'.cell? ⟨Qa,0,none⟩ = some (.slice Qs Qn.length Qt) ∧ w'.cell? ⟨Qa,1,none⟩ = some (.int .i64 Qi) ∧ w'.cell? ⟨Qa,2,none⟩ = some (.string Qv) ∧ w'.cell? ⟨Qa,3,none⟩ = some (.int .i64 Qw) ∧ w'.cell? ⟨Qa,4,none⟩ = some (.slice Qy Qu.length Qz) ∧ w'.cell? ⟨Qa,5,none⟩ = some (.int .u8 Qk) ∧ w'.cell? ⟨Qa,6,none⟩ = some (.int .u8 Qm)) ∧ (w'.heap[Qa]? = some (.cells #[.slice Qs Qn.length Qt,.int .i64 Qi,.string Qv,.int .i64 Qw,.slice Qy Qu.length Qz,.int .u8 Qk,.int .u8 Qm] 57 (0,0))) ∧ (w'.heap[s_]? = some (.cells #[.string (⟨#[]⟩ : ByteArray),.int .i64 0] 23 (0,0))) ∧ (w.heap.size ≤ s_) ∧ (w.heap.size ≤ s_) ∧ (Qa ≠ s_) ∧ (s_ ≠ Qa) ∧ (Below w.heap.size w w')) ?_ ?_
            rotate_left
            ·intro Lg
             refine three_ (i := 4) (j := 12) (k := 13) (Ni := some 25) (Nj := some 3) (Nk := some 4) #[true,true,true,true,true,true,true,false,true,true,true,true,false,false,false,false,false,false,false] #[true,true,true,true,false,true,true,false,true,true,true,true,true,false,false,false,false,false,false] #[true,true,true,true,false,true,true,false,true,true,true,true,false,true,false,false,false,false,false] rfl rfl rfl rfl rfl rfl (three_of HT_.out (by kernel_rfl)) (by decide) (by decide) (by decide) (fun K hK => ?_) (fun K hK => ?_) (fun K hK => ?_)
             ·skip
              refine zs Try.func14 (by kernel_rfl) rfl #[.agg #[.string Qv,.int .i64 Qw]] (by rfl) rfl rfl (by (try simp only [zh,zi,zj]);first | done | rfl | (simp only [zf,zg];rfl)) ?_
              with_reducible refine (tattlelaw02_Few.calls Qv Qw Zg Zi _ A2.out).mono ?_
              rintro e w8 ⟨rfl,hb⟩
              refine ⟨_,rfl,?_⟩
              have n0_ := qr (qv (g := Qa) (o := .cells #[.slice Qs Qn.length Qt,.int .i64 Qi,.string Qv,.int .i64 Qw,.slice Qy Qu.length Qz,.int .u8 Qk,.int .u8 Qm] 57 (0,0)) (by (with_reducible repeat (first | refine qa ?_ _ | refine qb ?_ | refine qc ?_ _));exact Qb.out) hb)
              have n1_ := qr (ze (by repeat (first | (with_reducible first | exact HB.out | apply qe | apply qf | apply qg | refine qd ?_ Ql.out) | exact HB.out)) hb)
              clear Qb
              clear HB
              have Qb := n0_
              have HB := n1_
              clear n0_ n1_
              (try clear hb)
              (try clear hb2)
              (try clear hk)
              (try clear hi)
              refine hK.out _ _ ⟨(qw Qb.out 0).trans rfl,(qw Qb.out 1).trans rfl,(qw Qb.out 2).trans rfl,(qw Qb.out 3).trans rfl,(qw Qb.out 4).trans rfl,(qw Qb.out 5).trans rfl,(qw Qb.out 6).trans rfl⟩ (fun hHeld => ?_)
              clear hK K
              refine zl (a' := ?_) ?_ ?_
              rotate_left
              ·show Act.put _ (some 25) _ = _
               simp only [Act.put,qs,qt,qu,i64_w,i32_w]
               rfl
              exact zl (by first | (simp only [putAll,Act.put,qs,qt,qu];done) | (simp only [putAll,Act.put,qs,qt,qu];rfl)) (hJ4 () _ ⟨hHeld,(by (with_reducible repeat (first | refine qa ?_ _ | refine qb ?_ | refine qc ?_ _));exact Qb.out),(by repeat (first | (with_reducible first | exact HB.out | apply qe | apply qf | apply qg | refine qd ?_ Ql.out) | exact HB.out))⟩)
             ·skip
              refine box_step ?hg (N := 3) ?hd (cs := #[.slice none 0 0,.int .i64 0]) (t := 49) ?hr ?_;(case hd => rfl);(case hg => rfl);(case hr => first | (go_simp;done) | (go_simp;rfl))
              intro Qc hg w8 hbox hb
              have n0_ := qr (qv (g := Qa) (o := .cells #[.slice Qs Qn.length Qt,.int .i64 Qi,.string Qv,.int .i64 Qw,.slice Qy Qu.length Qz,.int .u8 Qk,.int .u8 Qm] 57 (0,0)) (by (with_reducible repeat (first | refine qa ?_ _ | refine qb ?_ | refine qc ?_ _));exact Qb.out) hb)
              have n1_ := qr (ze (by repeat (first | (with_reducible first | exact HB.out | apply qe | apply qf | apply qg | refine qd ?_ Ql.out) | exact HB.out)) hb)
              have n2_ := qr (hbox)
              have n3_ := qr ((by rw [hg];exact (below_size (by repeat (first | (with_reducible first | exact HB.out | apply qe | apply qf | apply qg | refine qd ?_ Ql.out) | exact HB.out))) : w.heap.size ≤ Qc))
              have n4_ := qr ((by rw [hg];exact (below_size (by repeat (first | (with_reducible first | exact HB.out | apply qe | apply qf | apply qg | refine qd ?_ Ql.out) | exact HB.out))) : w.heap.size ≤ Qc))
              have n5_ := qr ((by rw [hg];exact qz (blk_lt (g := Qa) (o := .cells #[.slice Qs Qn.length Qt,.int .i64 Qi,.string Qv,.int .i64 Qw,.slice Qy Qu.length Qz,.int .u8 Qk,.int .u8 Qm] 57 (0,0)) (by (with_reducible repeat (first | refine qa ?_ _ | refine qb ?_ | refine qc ?_ _));exact Qb.out)) : Qa ≠ Qc))
              have n6_ := qr ((by rw [hg];exact za (blk_lt (g := Qa) (o := .cells #[.slice Qs Qn.length Qt,.int .i64 Qi,.string Qv,.int .i64 Qw,.slice Qy Qu.length Qz,.int .u8 Qk,.int .u8 Qm] 57 (0,0)) (by (with_reducible repeat (first | refine qa ?_ _ | refine qb ?_ | refine qc ?_ _));exact Qb.out)) : Qc ≠ Qa))
              clear Qb
              clear HB
              have Qb := n0_
              have HB := n1_
              have Qe := n2_
              have Zm := n3_
              have Qp := n4_
              have Qh := n5_
              have Q1 := n6_
              clear n0_ n1_ n2_ n3_ n4_ n5_ n6_
              clear hb hbox hg
              refine hK.out _ _ ⟨(qw Qb.out 0).trans rfl,(qw Qb.out 1).trans rfl,(qw Qb.out 2).trans rfl,(qw Qb.out 3).trans rfl,(qw Qb.out 4).trans rfl,(qw Qb.out 5).trans rfl,(qw Qb.out 6).trans rfl⟩ (fun hHeld => ?_)
              clear hK K
              refine zl (a' := ?_) ?_ ?_
              rotate_left
              ·show Act.put _ (some 3) _ = _
               simp only [Act.put,qs,qt,qu,i64_w,i32_w]
               rfl
              exact zl (by first | (simp only [putAll,Act.put,qs,qt,qu];done) | (simp only [putAll,Act.put,qs,qt,qu];rfl)) (Lf (Qc) _ ⟨hHeld,(by (with_reducible repeat (first | refine qa ?_ _ | refine qb ?_ | refine qc ?_ _));exact Qb.out),(by (with_reducible repeat (first | refine qa ?_ _ | refine qb ?_ | refine qc ?_ _));exact Qe.out),Zm.out,Qp.out,Qh.out,Q1.out,(by repeat (first | (with_reducible first | exact HB.out | apply qe | apply qf | apply qg | refine qd ?_ Ql.out | refine qd ?_ Qp.out) | exact HB.out))⟩)
             ·skip
              refine box_step ?hg (N := 4) ?hd (cs := #[.string (⟨#[]⟩ : ByteArray),.int .i64 0]) (t := 23) ?hr ?_;(case hd => rfl);(case hg => rfl);(case hr => first | (go_simp;done) | (go_simp;rfl))
              intro Qd hg w8 hbox hb
              have n0_ := qr (qv (g := Qa) (o := .cells #[.slice Qs Qn.length Qt,.int .i64 Qi,.string Qv,.int .i64 Qw,.slice Qy Qu.length Qz,.int .u8 Qk,.int .u8 Qm] 57 (0,0)) (by (with_reducible repeat (first | refine qa ?_ _ | refine qb ?_ | refine qc ?_ _));exact Qb.out) hb)
              have n1_ := qr (ze (by repeat (first | (with_reducible first | exact HB.out | apply qe | apply qf | apply qg | refine qd ?_ Ql.out) | exact HB.out)) hb)
              have n2_ := qr (hbox)
              have n3_ := qr ((by rw [hg];exact (below_size (by repeat (first | (with_reducible first | exact HB.out | apply qe | apply qf | apply qg | refine qd ?_ Ql.out) | exact HB.out))) : w.heap.size ≤ Qd))
              have n4_ := qr ((by rw [hg];exact (below_size (by repeat (first | (with_reducible first | exact HB.out | apply qe | apply qf | apply qg | refine qd ?_ Ql.out) | exact HB.out))) : w.heap.size ≤ Qd))
              have n5_ := qr ((by rw [hg];exact qz (blk_lt (g := Qa) (o := .cells #[.slice Qs Qn.length Qt,.int .i64 Qi,.string Qv,.int .i64 Qw,.slice Qy Qu.length Qz,.int .u8 Qk,.int .u8 Qm] 57 (0,0)) (by (with_reducible repeat (first | refine qa ?_ _ | refine qb ?_ | refine qc ?_ _));exact Qb.out)) : Qa ≠ Qd))
              have n6_ := qr ((by rw [hg];exact za (blk_lt (g := Qa) (o := .cells #[.slice Qs Qn.length Qt,.int .i64 Qi,.string Qv,.int .i64 Qw,.slice Qy Qu.length Qz,.int .u8 Qk,.int .u8 Qm] 57 (0,0)) (by (with_reducible repeat (first | refine qa ?_ _ | refine qb ?_ | refine qc ?_ _));exact Qb.out)) : Qd ≠ Qa))
              clear Qb
              clear HB
              have Qb := n0_
              have HB := n1_
              have Qf := n2_
              have Zn := n3_
              have Qq := n4_
              have Qj := n5_
              have Q3 := n6_
              clear n0_ n1_ n2_ n3_ n4_ n5_ n6_
              clear hb hbox hg
              refine hK.out _ _ ⟨(qw Qb.out 0).trans rfl,(qw Qb.out 1).trans rfl,(qw Qb.out 2).trans rfl,(qw Qb.out 3).trans rfl,(qw Qb.out 4).trans rfl,(qw Qb.out 5).trans rfl,(qw Qb.out 6).trans rfl⟩ (fun hHeld => ?_)
              clear hK K
              refine zl (a' := ?_) ?_ ?_
              rotate_left
              ·show Act.put _ (some 4) _ = _
               simp only [Act.put,qs,qt,qu,i64_w,i32_w]
               rfl
              exact zl (by first | (simp only [putAll,Act.put,qs,qt,qu];done) | (simp only [putAll,Act.put,qs,qt,qu];rfl)) (Lg (Qd) _ ⟨hHeld,(by (with_reducible repeat (first | refine qa ?_ _ | refine qb ?_ | refine qc ?_ _));exact Qb.out),(by (with_reducible repeat (first | refine qa ?_ _ | refine qb ?_ | refine qc ?_ _));exact Qf.out),Zn.out,Qq.out,Qj.out,Q3.out,(by repeat (first | (with_reducible first | exact HB.out | apply qe | apply qf | apply qg | refine qd ?_ Ql.out | refine qd ?_ Qq.out) | exact HB.out))⟩)
            ·skip
             rintro Qd w9 ⟨hS_,h0_,h1_,h2_,h3_,h4_,h5_,h6_⟩
             have n0_ : Aside0 (w9.heap[Qa]? = some (.cells #[.slice Qs Qn.length Qt,.int .i64 Qi,.string Qv,.int .i64 Qw,.slice Qy Qu.length Qz,.int .u8 Qk,.int .u8 Qm] 57 (0,0))) := ⟨h0_⟩
             have n1_ : Aside0 (w9.heap[Qd]? = some (.cells #[.string (⟨#[]⟩ : ByteArray),.int .i64 0] 23 (0,0))) := ⟨h1_⟩
             have n2_ : Aside0 (w.heap.size ≤ Qd) := ⟨h2_⟩
             have n3_ : Aside0 (w.heap.size ≤ Qd) := ⟨h3_⟩
             have n4_ : Aside0 (Qa ≠ Qd) := ⟨h4_⟩
             have n5_ : Aside0 (Qd ≠ Qa) := ⟨h5_⟩
             have n6_ : Aside0 (Below w.heap.size w w9) := ⟨h6_⟩
             clear Qb
             clear HB
             clear h0_ h1_ h2_ h3_ h4_ h5_ h6_
             have Qb := n0_
             have Qf := n1_
             have Zn := n2_
             have Qq := n3_
             have Qj := n4_
             have Q3 := n5_
             have HB := n6_
             clear n0_ n1_ n2_ n3_ n4_ n5_ n6_
             have hHeld : w9.cell? ⟨Qa,0,none⟩ = some (.slice Qs Qn.length Qt) ∧ w9.cell? ⟨Qa,1,none⟩ = some (.int .i64 Qi) ∧ w9.cell? ⟨Qa,2,none⟩ = some (.string Qv) ∧ w9.cell? ⟨Qa,3,none⟩ = some (.int .i64 Qw) ∧ w9.cell? ⟨Qa,4,none⟩ = some (.slice Qy Qu.length Qz) ∧ w9.cell? ⟨Qa,5,none⟩ = some (.int .u8 Qk) ∧ w9.cell? ⟨Qa,6,none⟩ = some (.int .u8 Qm) := hS_
             refine zl (a' := ?_) ?_ ?_
             rotate_left
             ·simp only [putAll,Act.put,qs,qt,qu]
              rfl
             refine two_ (i := 4) (j := 12) (Ni := some 25) (Nj := some 3) #[true,true,true,true,true,true,true,false,true,true,true,true,false,true,false,false,false,false,false] #[true,true,true,true,false,true,true,false,true,true,true,true,true,true,false,false,false,false,false] rfl rfl rfl rfl (two_of HT_.out (by kernel_rfl)) (by decide) (by decide) (fun K hK => ?_) (fun K hK => ?_)
             ·skip
              refine zs Try.func14 (by kernel_rfl) rfl #[.agg #[.string Qv,.int .i64 Qw]] (by rfl) rfl rfl (by (try simp only [zh,zi,zj]);first | done | rfl | (simp only [zf,zg];rfl)) ?_
              with_reducible refine (tattlelaw02_Few.calls Qv Qw Zg Zi _ A2.out).mono ?_
              rintro e w10 ⟨rfl,hb⟩
              refine ⟨_,rfl,?_⟩
              have n0_ := qr (qv (g := Qa) (o := .cells #[.slice Qs Qn.length Qt,.int .i64 Qi,.string Qv,.int .i64 Qw,.slice Qy Qu.length Qz,.int .u8 Qk,.int .u8 Qm] 57 (0,0)) (by (with_reducible repeat (first | refine qa ?_ _ | refine qb ?_ | refine qc ?_ _));exact Qb.out) hb)
              have n1_ := qr (qv (g := Qd) (o := .cells #[.string (⟨#[]⟩ : ByteArray),.int .i64 0] 23 (0,0)) (by (with_reducible repeat (first | refine qa ?_ _ | refine qb ?_ | refine qc ?_ _));exact Qf.out) hb)
              have n2_ := qr (ze (by repeat (first | (with_reducible first | exact HB.out | apply qe | apply qf | apply qg | refine qd ?_ Ql.out | refine qd ?_ Qq.out) | exact HB.out)) hb)
              clear Qb
              clear Qf
              clear HB
              have Qb := n0_
              have Qf := n1_
              have HB := n2_
              clear n0_ n1_ n2_
              (try clear hb)
              (try clear hb2)
              (try clear hk)
              (try clear hi)
              refine hK.out _ _ ⟨(qw Qb.out 0).trans rfl,(qw Qb.out 1).trans rfl,(qw Qb.out 2).trans rfl,(qw Qb.out 3).trans rfl,(qw Qb.out 4).trans rfl,(qw Qb.out 5).trans rfl,(qw Qb.out 6).trans rfl⟩ (fun hHeld => ?_)
              clear hK K
              refine zl (a' := ?_) ?_ ?_
              rotate_left
              ·show Act.put _ (some 25) _ = _
               simp only [Act.put,qs,qt,qu,i64_w,i32_w]
               rfl
              exact zl (by first | (simp only [putAll,Act.put,qs,qt,qu];done) | (simp only [putAll,Act.put,qs,qt,qu];rfl)) (Vt (Qd) _ ⟨hHeld,(by (with_reducible repeat (first | refine qa ?_ _ | refine qb ?_ | refine qc ?_ _));exact Qb.out),(by (with_reducible repeat (first | refine qa ?_ _ | refine qb ?_ | refine qc ?_ _));exact Qf.out),Zn.out,Qq.out,Qj.out,Q3.out,(by repeat (first | (with_reducible first | exact HB.out | apply qe | apply qf | apply qg | refine qd ?_ Ql.out | refine qd ?_ Qq.out) | exact HB.out))⟩)
             ·skip
              refine box_step ?hg (N := 3) ?hd (cs := #[.slice none 0 0,.int .i64 0]) (t := 49) ?hr ?_;(case hd => rfl);(case hg => rfl);(case hr => first | (go_simp;done) | (go_simp;rfl))
              intro Qc hg w10 hbox hb
              have n0_ := qr (qv (g := Qa) (o := .cells #[.slice Qs Qn.length Qt,.int .i64 Qi,.string Qv,.int .i64 Qw,.slice Qy Qu.length Qz,.int .u8 Qk,.int .u8 Qm] 57 (0,0)) (by (with_reducible repeat (first | refine qa ?_ _ | refine qb ?_ | refine qc ?_ _));exact Qb.out) hb)
              have n1_ := qr (qv (g := Qd) (o := .cells #[.string (⟨#[]⟩ : ByteArray),.int .i64 0] 23 (0,0)) (by (with_reducible repeat (first | refine qa ?_ _ | refine qb ?_ | refine qc ?_ _));exact Qf.out) hb)
              have n2_ := qr (ze (by repeat (first | (with_reducible first | exact HB.out | apply qe | apply qf | apply qg | refine qd ?_ Ql.out | refine qd ?_ Qq.out) | exact HB.out)) hb)
              have n3_ := qr (hbox)
              have n4_ := qr ((by rw [hg];exact (below_size (by repeat (first | (with_reducible first | exact HB.out | apply qe | apply qf | apply qg | refine qd ?_ Ql.out | refine qd ?_ Qq.out) | exact HB.out))) : w.heap.size ≤ Qc))
              have n5_ := qr ((by rw [hg];exact (below_size (by repeat (first | (with_reducible first | exact HB.out | apply qe | apply qf | apply qg | refine qd ?_ Ql.out | refine qd ?_ Qq.out) | exact HB.out))) : w.heap.size ≤ Qc))
              have n6_ := qr ((by rw [hg];exact qz (blk_lt (g := Qa) (o := .cells #[.slice Qs Qn.length Qt,.int .i64 Qi,.string Qv,.int .i64 Qw,.slice Qy Qu.length Qz,.int .u8 Qk,.int .u8 Qm] 57 (0,0)) (by (with_reducible repeat (first | refine qa ?_ _ | refine qb ?_ | refine qc ?_ _));exact Qb.out)) : Qa ≠ Qc))
              have n7_ := qr ((by rw [hg];exact za (blk_lt (g := Qa) (o := .cells #[.slice Qs Qn.length Qt,.int .i64 Qi,.string Qv,.int .i64 Qw,.slice Qy Qu.length Qz,.int .u8 Qk,.int .u8 Qm] 57 (0,0)) (by (with_reducible repeat (first | refine qa ?_ _ | refine qb ?_ | refine qc ?_ _));exact Qb.out)) : Qc ≠ Qa))
              have n8_ := qr ((by rw [hg];exact qz (blk_lt (g := Qd) (o := .cells #[.string (⟨#[]⟩ : ByteArray),.int .i64 0] 23 (0,0)) (by (with_reducible repeat (first | refine qa ?_ _ | refine qb ?_ | refine qc ?_ _));exact Qf.out)) : Qd ≠ Qc))
              have n9_ := qr ((by rw [hg];exact za (blk_lt (g := Qd) (o := .cells #[.string (⟨#[]⟩ : ByteArray),.int .i64 0] 23 (0,0)) (by (with_reducible repeat (first | refine qa ?_ _ | refine qb ?_ | refine qc ?_ _));exact Qf.out)) : Qc ≠ Qd))
              clear Qb
              clear Qf
              clear HB
              have Qb := n0_
              have Qf := n1_
              have HB := n2_
              have Qe := n3_
              have Zm := n4_
              have Qp := n5_
              have Qh := n6_
              have Q1 := n7_
              have Qr := n8_
              have Qx := n9_
              clear n0_ n1_ n2_ n3_ n4_ n5_ n6_ n7_ n8_ n9_
              clear hb hbox hg
              refine hK.out _ _ ⟨(qw Qb.out 0).trans rfl,(qw Qb.out 1).trans rfl,(qw Qb.out 2).trans rfl,(qw Qb.out 3).trans rfl,(qw Qb.out 4).trans rfl,(qw Qb.out 5).trans rfl,(qw Qb.out 6).trans rfl⟩ (fun hHeld => ?_)
              clear hK K
              refine zl (a' := ?_) ?_ ?_
              rotate_left
              ·show Act.put _ (some 3) _ = _
               simp only [Act.put,qs,qt,qu,i64_w,i32_w]
               rfl
              exact zl (by first | (simp only [putAll,Act.put,qs,qt,qu];done) | (simp only [putAll,Act.put,qs,qt,qu];rfl)) (Vl (Qc,Qd) _ ⟨hHeld,(by (with_reducible repeat (first | refine qa ?_ _ | refine qb ?_ | refine qc ?_ _));exact Qb.out),(by (with_reducible repeat (first | refine qa ?_ _ | refine qb ?_ | refine qc ?_ _));exact Qe.out),(by (with_reducible repeat (first | refine qa ?_ _ | refine qb ?_ | refine qc ?_ _));exact Qf.out),Zm.out,Qp.out,Qh.out,Q1.out,Qr.out,Qx.out,Zn.out,Qq.out,Qj.out,Q3.out,(by repeat (first | (with_reducible first | exact HB.out | apply qe | apply qf | apply qg | refine qd ?_ Ql.out | refine qd ?_ Qq.out | refine qd ?_ Qp.out) | exact HB.out))⟩)
           ·skip
            rintro Qc w9 ⟨hS_,h0_,h1_,h2_,h3_,h4_,h5_,h6_⟩
            have n0_ : Aside0 (w9.heap[Qa]? = some (.cells #[.slice Qs Qn.length Qt,.int .i64 Qi,.string Qv,.int .i64 Qw,.slice Qy Qu.length Qz,.int .u8 Qk,.int .u8 Qm] 57 (0,0))) := ⟨h0_⟩
            have n1_ : Aside0 (w9.heap[Qc]? = some (.cells #[.slice none 0 0,.int .i64 0] 49 (0,0))) := ⟨h1_⟩
            have n2_ : Aside0 (w.heap.size ≤ Qc) := ⟨h2_⟩
            have n3_ : Aside0 (w.heap.size ≤ Qc) := ⟨h3_⟩
            have n4_ : Aside0 (Qa ≠ Qc) := ⟨h4_⟩
            have n5_ : Aside0 (Qc ≠ Qa) := ⟨h5_⟩
            have n6_ : Aside0 (Below w.heap.size w w9) := ⟨h6_⟩
            clear Qb
            clear HB
            clear h0_ h1_ h2_ h3_ h4_ h5_ h6_
            have Qb := n0_
            have Qe := n1_
            have Zm := n2_
            have Qp := n3_
            have Qh := n4_
            have Q1 := n5_
            have HB := n6_
            clear n0_ n1_ n2_ n3_ n4_ n5_ n6_
            have hHeld : w9.cell? ⟨Qa,0,none⟩ = some (.slice Qs Qn.length Qt) ∧ w9.cell? ⟨Qa,1,none⟩ = some (.int .i64 Qi) ∧ w9.cell? ⟨Qa,2,none⟩ = some (.string Qv) ∧ w9.cell? ⟨Qa,3,none⟩ = some (.int .i64 Qw) ∧ w9.cell? ⟨Qa,4,none⟩ = some (.slice Qy Qu.length Qz) ∧ w9.cell? ⟨Qa,5,none⟩ = some (.int .u8 Qk) ∧ w9.cell? ⟨Qa,6,none⟩ = some (.int .u8 Qm) := hS_
            refine zl (a' := ?_) ?_ ?_
            rotate_left
            ·simp only [putAll,Act.put,qs,qt,qu]
             rfl
            refine two_ (i := 4) (j := 13) (Ni := some 25) (Nj := some 4) #[true,true,true,true,true,true,true,false,true,true,true,true,true,false,false,false,false,false,false] #[true,true,true,true,false,true,true,false,true,true,true,true,true,true,false,false,false,false,false] rfl rfl rfl rfl (two_of HT_.out (by kernel_rfl)) (by decide) (by decide) (fun K hK => ?_) (fun K hK => ?_)
            ·skip
             refine zs Try.func14 (by kernel_rfl) rfl #[.agg #[.string Qv,.int .i64 Qw]] (by rfl) rfl rfl (by (try simp only [zh,zi,zj]);first | done | rfl | (simp only [zf,zg];rfl)) ?_
             with_reducible refine (tattlelaw02_Few.calls Qv Qw Zg Zi _ A2.out).mono ?_
             rintro e w10 ⟨rfl,hb⟩
             refine ⟨_,rfl,?_⟩
             have n0_ := qr (qv (g := Qa) (o := .cells #[.slice Qs Qn.length Qt,.int .i64 Qi,.string Qv,.int .i64 Qw,.slice Qy Qu.length Qz,.int .u8 Qk,.int .u8 Qm] 57 (0,0)) (by (with_reducible repeat (first | refine qa ?_ _ | refine qb ?_ | refine qc ?_ _));exact Qb.out) hb)
             have n1_ := qr (qv (g := Qc) (o := .cells #[.slice none 0 0,.int .i64 0] 49 (0,0)) (by (with_reducible repeat (first | refine qa ?_ _ | refine qb ?_ | refine qc ?_ _));exact Qe.out) hb)
             have n2_ := qr (ze (by repeat (first | (with_reducible first | exact HB.out | apply qe | apply qf | apply qg | refine qd ?_ Ql.out | refine qd ?_ Qp.out) | exact HB.out)) hb)
             clear Qb
             clear Qe
             clear HB
             have Qb := n0_
             have Qe := n1_
             have HB := n2_
             clear n0_ n1_ n2_
             (try clear hb)
             (try clear hb2)
             (try clear hk)
             (try clear hi)
             refine hK.out _ _ ⟨(qw Qb.out 0).trans rfl,(qw Qb.out 1).trans rfl,(qw Qb.out 2).trans rfl,(qw Qb.out 3).trans rfl,(qw Qb.out 4).trans rfl,(qw Qb.out 5).trans rfl,(qw Qb.out 6).trans rfl⟩ (fun hHeld => ?_)
             clear hK K
             refine zl (a' := ?_) ?_ ?_
             rotate_left
             ·show Act.put _ (some 25) _ = _
              simp only [Act.put,qs,qt,qu,i64_w,i32_w]
              rfl
             exact zl (by first | (simp only [putAll,Act.put,qs,qt,qu];done) | (simp only [putAll,Act.put,qs,qt,qu];rfl)) (Vs (Qc) _ ⟨hHeld,(by (with_reducible repeat (first | refine qa ?_ _ | refine qb ?_ | refine qc ?_ _));exact Qb.out),(by (with_reducible repeat (first | refine qa ?_ _ | refine qb ?_ | refine qc ?_ _));exact Qe.out),Zm.out,Qp.out,Qh.out,Q1.out,(by repeat (first | (with_reducible first | exact HB.out | apply qe | apply qf | apply qg | refine qd ?_ Ql.out | refine qd ?_ Qp.out) | exact HB.out))⟩)
            ·skip
             refine box_step ?hg (N := 4) ?hd (cs := #[.string (⟨#[]⟩ : ByteArray),.int .i64 0]) (t := 23) ?hr ?_;(case hd => rfl);(case hg => rfl);(case hr => first | (go_simp;done) | (go_simp;rfl))
             intro Qd hg w10 hbox hb
             have n0_ := qr (qv (g := Qa) (o := .cells #[.slice Qs Qn.length Qt,.int .i64 Qi,.string Qv,.int .i64 Qw,.slice Qy Qu.length Qz,.int .u8 Qk,.int .u8 Qm] 57 (0,0)) (by (with_reducible repeat (first | refine qa ?_ _ | refine qb ?_ | refine qc ?_ _));exact Qb.out) hb)
             have n1_ := qr (qv (g := Qc) (o := .cells #[.slice none 0 0,.int .i64 0] 49 (0,0)) (by (with_reducible repeat (first | refine qa ?_ _ | refine qb ?_ | refine qc ?_ _));exact Qe.out) hb)
             have n2_ := qr (ze (by repeat (first | (with_reducible first | exact HB.out | apply qe | apply qf | apply qg | refine qd ?_ Ql.out | refine qd ?_ Qp.out) | exact HB.out)) hb)
             have n3_ := qr (hbox)
             have n4_ := qr ((by rw [hg];exact (below_size (by repeat (first | (with_reducible first | exact HB.out | apply qe | apply qf | apply qg | refine qd ?_ Ql.out | refine qd ?_ Qp.out) | exact HB.out))) : w.heap.size ≤ Qd))
             have n5_ := qr ((by rw [hg];exact (below_size (by repeat (first | (with_reducible first | exact HB.out | apply qe | apply qf | apply qg | refine qd ?_ Ql.out | refine qd ?_ Qp.out) | exact HB.out))) : w.heap.size ≤ Qd))
             have n6_ := qr ((by rw [hg];exact qz (blk_lt (g := Qa) (o := .cells #[.slice Qs Qn.length Qt,.int .i64 Qi,.string Qv,.int .i64 Qw,.slice Qy Qu.length Qz,.int .u8 Qk,.int .u8 Qm] 57 (0,0)) (by (with_reducible repeat (first | refine qa ?_ _ | refine qb ?_ | refine qc ?_ _));exact Qb.out)) : Qa ≠ Qd))
             have n7_ := qr ((by rw [hg];exact za (blk_lt (g := Qa) (o := .cells #[.slice Qs Qn.length Qt,.int .i64 Qi,.string Qv,.int .i64 Qw,.slice Qy Qu.length Qz,.int .u8 Qk,.int .u8 Qm] 57 (0,0)) (by (with_reducible repeat (first | refine qa ?_ _ | refine qb ?_ | refine qc ?_ _));exact Qb.out)) : Qd ≠ Qa))
             have n8_ := qr ((by rw [hg];exact qz (blk_lt (g := Qc) (o := .cells #[.slice none 0 0,.int .i64 0] 49 (0,0)) (by (with_reducible repeat (first | refine qa ?_ _ | refine qb ?_ | refine qc ?_ _));exact Qe.out)) : Qc ≠ Qd))
             have n9_ := qr ((by rw [hg];exact za (blk_lt (g := Qc) (o := .cells #[.slice none 0 0,.int .i64 0] 49 (0,0)) (by (with_reducible repeat (first | refine qa ?_ _ | refine qb ?_ | refine qc ?_ _));exact Qe.out)) : Qd ≠ Qc))
             clear Qb
             clear Qe
             clear HB
             have Qb := n0_
             have Qe := n1_
             have HB := n2_
             have Qf := n3_
             have Zn := n4_
             have Qq := n5_
             have Qj := n6_
             have Q3 := n7_
             have Qx := n8_
             have Qr := n9_
             clear n0_ n1_ n2_ n3_ n4_ n5_ n6_ n7_ n8_ n9_
             clear hb hbox hg
             refine hK.out _ _ ⟨(qw Qb.out 0).trans rfl,(qw Qb.out 1).trans rfl,(qw Qb.out 2).trans rfl,(qw Qb.out 3).trans rfl,(qw Qb.out 4).trans rfl,(qw Qb.out 5).trans rfl,(qw Qb.out 6).trans rfl⟩ (fun hHeld => ?_)
             clear hK K
             refine zl (a' := ?_) ?_ ?_
             rotate_left
             ·show Act.put _ (some 4) _ = _
              simp only [Act.put,qs,qt,qu,i64_w,i32_w]
              rfl
             exact zl (by first | (simp only [putAll,Act.put,qs,qt,qu];done) | (simp only [putAll,Act.put,qs,qt,qu];rfl)) (Vl (Qc,Qd) _ ⟨hHeld,(by (with_reducible repeat (first | refine qa ?_ _ | refine qb ?_ | refine qc ?_ _));exact Qb.out),(by (with_reducible repeat (first | refine qa ?_ _ | refine qb ?_ | refine qc ?_ _));exact Qe.out),(by (with_reducible repeat (first | refine qa ?_ _ | refine qb ?_ | refine qc ?_ _));exact Qf.out),Zm.out,Qp.out,Qh.out,Q1.out,Qr.out,Qx.out,Zn.out,Qq.out,Qj.out,Q3.out,(by repeat (first | (with_reducible first | exact HB.out | apply qe | apply qf | apply qg | refine qd ?_ Ql.out | refine qd ?_ Qp.out | refine qd ?_ Qq.out) | exact HB.out))⟩)
          ·skip
           rintro _ w9 ⟨hS_,h0_,h1_⟩
           have n0_ : Aside0 (w9.heap[Qa]? = some (.cells #[.slice Qs Qn.length Qt,.int .i64 Qi,.string Qv,.int .i64 Qw,.slice Qy Qu.length Qz,.int .u8 Qk,.int .u8 Qm] 57 (0,0))) := ⟨h0_⟩
           have n1_ : Aside0 (Below w.heap.size w w9) := ⟨h1_⟩
           clear Qb
           clear HB
           clear h0_ h1_
           have Qb := n0_
           have HB := n1_
           clear n0_ n1_
           have hHeld : w9.cell? ⟨Qa,0,none⟩ = some (.slice Qs Qn.length Qt) ∧ w9.cell? ⟨Qa,1,none⟩ = some (.int .i64 Qi) ∧ w9.cell? ⟨Qa,2,none⟩ = some (.string Qv) ∧ w9.cell? ⟨Qa,3,none⟩ = some (.int .i64 Qw) ∧ w9.cell? ⟨Qa,4,none⟩ = some (.slice Qy Qu.length Qz) ∧ w9.cell? ⟨Qa,5,none⟩ = some (.int .u8 Qk) ∧ w9.cell? ⟨Qa,6,none⟩ = some (.int .u8 Qm) := hS_
           refine zl (a' := ?_) ?_ ?_
           rotate_left
           ·simp only [putAll,Act.put,qs,qt,qu]
            rfl
           refine three_ (i := 7) (j := 12) (k := 13) (Ni := some 28) (Nj := some 3) (Nk := some 4) #[true,true,true,true,true,true,true,true,true,true,true,true,false,false,false,false,false,false,false] #[true,true,true,true,true,true,true,false,true,true,true,true,true,false,false,false,false,false,false] #[true,true,true,true,true,true,true,false,true,true,true,true,false,true,false,false,false,false,false] rfl rfl rfl rfl rfl rfl (three_of HT_.out (by kernel_rfl)) (by decide) (by decide) (by decide) (fun K hK => ?_) (fun K hK => ?_) (fun K hK => ?_)
           ·skip
            refine zs Try.func27 (by kernel_rfl) rfl #[.slice Qy Qu.length Qz] (by rfl) rfl rfl (by (try simp only [zh,zi,zj]);first | done | rfl | (simp only [zf,zg];rfl)) ?_
            with_reducible refine (tattlelaw08_Few.calls (fun k_ => k_ < w.heap.size) _ _ Qu Qo _ ?Zq A3.out).mono ?_
            (case Zq => exact Kd.V_mk Vk.out (Kd.F_below (Kd.C_F (Kd.heap_int .i64) Vj.out) (by repeat (first | (with_reducible first | exact HB.out | apply qe | apply qf | apply qg | refine qd ?_ Ql.out) | exact HB.out))))
            rintro e w10 ⟨X6,rfl,ho0,hb⟩
            refine ⟨_,rfl,?_⟩
            have n0_ := qr (zn (qp (ok' := fun k_ => k_ ≠ Qa) ho0 (fun k_ hk_ => Or.elim hk_ (fun hs_ => fun e_ => Nat.not_le.2 hs_ (by rw [e_];exact Jv.out)) (fun hn_ => (Kd.freshB (g := Qa) (o := .cells #[.slice Qs Qn.length Qt,.int .i64 Qi,.string Qv,.int .i64 Qw,.slice Qy Qu.length Qz,.int .u8 Qk,.int .u8 Qm] 57 (0,0)) (by (with_reducible repeat (first | refine qa ?_ _ | refine qb ?_ | refine qc ?_ _));exact Qb.out) k_ hn_)))) (below_size (by repeat (first | (with_reducible first | exact HB.out | apply qe | apply qf | apply qg | refine qd ?_ Ql.out) | exact HB.out))))
            have n1_ := qr (qv (g := Qa) (o := .cells #[.slice Qs Qn.length Qt,.int .i64 Qi,.string Qv,.int .i64 Qw,.slice Qy Qu.length Qz,.int .u8 Qk,.int .u8 Qm] 57 (0,0)) (by (with_reducible repeat (first | refine qa ?_ _ | refine qb ?_ | refine qc ?_ _));exact Qb.out) hb)
            have n2_ := qr (ze (by repeat (first | (with_reducible first | exact HB.out | apply qe | apply qf | apply qg | refine qd ?_ Ql.out) | exact HB.out)) hb)
            clear Qb
            clear HB
            have Q8 := n0_
            have Qb := n1_
            have HB := n2_
            clear n0_ n1_ n2_
            (try clear hb)
            (try clear hb2)
            (try clear hk)
            (try clear hi)
            (try clear ho0)
            refine hK.out _ _ ⟨(qw Qb.out 0).trans rfl,(qw Qb.out 1).trans rfl,(qw Qb.out 2).trans rfl,(qw Qb.out 3).trans rfl,(qw Qb.out 4).trans rfl,(qw Qb.out 5).trans rfl,(qw Qb.out 6).trans rfl⟩ (fun hHeld => ?_)
            clear hK K
            refine zl (a' := ?_) ?_ ?_
            rotate_left
            ·show Act.put _ (some 28) _ = _
             simp only [Act.put,qs,qt,qu,i64_w,i32_w]
             rfl
            exact zl (by first | (simp only [putAll,Act.put,qs,qt,qu];done) | (simp only [putAll,Act.put,qs,qt,qu];rfl)) (Dr (X6) _ ⟨hHeld,(by (with_reducible repeat (first | apply qh | apply qi | apply qj));exact Q8.out),(by (with_reducible repeat (first | refine qa ?_ _ | refine qb ?_ | refine qc ?_ _));exact Qb.out),(by repeat (first | (with_reducible first | exact HB.out | apply qe | apply qf | apply qg | refine qd ?_ Ql.out) | exact HB.out))⟩)
           ·skip
            refine box_step ?hg (N := 3) ?hd (cs := #[.slice none 0 0,.int .i64 0]) (t := 49) ?hr ?_;(case hd => rfl);(case hg => rfl);(case hr => first | (go_simp;done) | (go_simp;rfl))
            intro Qc hg w10 hbox hb
            have n0_ := qr (qv (g := Qa) (o := .cells #[.slice Qs Qn.length Qt,.int .i64 Qi,.string Qv,.int .i64 Qw,.slice Qy Qu.length Qz,.int .u8 Qk,.int .u8 Qm] 57 (0,0)) (by (with_reducible repeat (first | refine qa ?_ _ | refine qb ?_ | refine qc ?_ _));exact Qb.out) hb)
            have n1_ := qr (ze (by repeat (first | (with_reducible first | exact HB.out | apply qe | apply qf | apply qg | refine qd ?_ Ql.out) | exact HB.out)) hb)
            have n2_ := qr (hbox)
            have n3_ := qr ((by rw [hg];exact (below_size (by repeat (first | (with_reducible first | exact HB.out | apply qe | apply qf | apply qg | refine qd ?_ Ql.out) | exact HB.out))) : w.heap.size ≤ Qc))
            have n4_ := qr ((by rw [hg];exact (below_size (by repeat (first | (with_reducible first | exact HB.out | apply qe | apply qf | apply qg | refine qd ?_ Ql.out) | exact HB.out))) : w.heap.size ≤ Qc))
            have n5_ := qr ((by rw [hg];exact qz (blk_lt (g := Qa) (o := .cells #[.slice Qs Qn.length Qt,.int .i64 Qi,.string Qv,.int .i64 Qw,.slice Qy Qu.length Qz,.int .u8 Qk,.int .u8 Qm] 57 (0,0)) (by (with_reducible repeat (first | refine qa ?_ _ | refine qb ?_ | refine qc ?_ _));exact Qb.out)) : Qa ≠ Qc))
            have n6_ := qr ((by rw [hg];exact za (blk_lt (g := Qa) (o := .cells #[.slice Qs Qn.length Qt,.int .i64 Qi,.string Qv,.int .i64 Qw,.slice Qy Qu.length Qz,.int .u8 Qk,.int .u8 Qm] 57 (0,0)) (by (with_reducible repeat (first | refine qa ?_ _ | refine qb ?_ | refine qc ?_ _));exact Qb.out)) : Qc ≠ Qa))
            clear Qb
            clear HB
            have Qb := n0_
            have HB := n1_
            have Qe := n2_
            have Zm := n3_
            have Qp := n4_
            have Qh := n5_
            have Q1 := n6_
            clear n0_ n1_ n2_ n3_ n4_ n5_ n6_
            clear hb hbox hg
            refine hK.out _ _ ⟨(qw Qb.out 0).trans rfl,(qw Qb.out 1).trans rfl,(qw Qb.out 2).trans rfl,(qw Qb.out 3).trans rfl,(qw Qb.out 4).trans rfl,(qw Qb.out 5).trans rfl,(qw Qb.out 6).trans rfl⟩ (fun hHeld => ?_)
            clear hK K
            refine zl (a' := ?_) ?_ ?_
            rotate_left
            ·show Act.put _ (some 3) _ = _
             simp only [Act.put,qs,qt,qu,i64_w,i32_w]
             rfl
            exact zl (by first | (simp only [putAll,Act.put,qs,qt,qu];done) | (simp only [putAll,Act.put,qs,qt,qu];rfl)) (Vs (Qc) _ ⟨hHeld,(by (with_reducible repeat (first | refine qa ?_ _ | refine qb ?_ | refine qc ?_ _));exact Qb.out),(by (with_reducible repeat (first | refine qa ?_ _ | refine qb ?_ | refine qc ?_ _));exact Qe.out),Zm.out,Qp.out,Qh.out,Q1.out,(by repeat (first | (with_reducible first | exact HB.out | apply qe | apply qf | apply qg | refine qd ?_ Ql.out | refine qd ?_ Qp.out) | exact HB.out))⟩)
           ·skip
            refine box_step ?hg (N := 4) ?hd (cs := #[.string (⟨#[]⟩ : ByteArray),.int .i64 0]) (t := 23) ?hr ?_;(case hd => rfl);(case hg => rfl);(case hr => first | (go_simp;done) | (go_simp;rfl))
            intro Qd hg w10 hbox hb
            have n0_ := qr (qv (g := Qa) (o := .cells #[.slice Qs Qn.length Qt,.int .i64 Qi,.string Qv,.int .i64 Qw,.slice Qy Qu.length Qz,.int .u8 Qk,.int .u8 Qm] 57 (0,0)) (by (with_reducible repeat (first | refine qa ?_ _ | refine qb ?_ | refine qc ?_ _));exact Qb.out) hb)
            have n1_ := qr (ze (by repeat (first | (with_reducible first | exact HB.out | apply qe | apply qf | apply qg | refine qd ?_ Ql.out) | exact HB.out)) hb)
            have n2_ := qr (hbox)
            have n3_ := qr ((by rw [hg];exact (below_size (by repeat (first | (with_reducible first | exact HB.out | apply qe | apply qf | apply qg | refine qd ?_ Ql.out) | exact HB.out))) : w.heap.size ≤ Qd))
            have n4_ := qr ((by rw [hg];exact (below_size (by repeat (first | (with_reducible first | exact HB.out | apply qe | apply qf | apply qg | refine qd ?_ Ql.out) | exact HB.out))) : w.heap.size ≤ Qd))
            have n5_ := qr ((by rw [hg];exact qz (blk_lt (g := Qa) (o := .cells #[.slice Qs Qn.length Qt,.int .i64 Qi,.string Qv,.int .i64 Qw,.slice Qy Qu.length Qz,.int .u8 Qk,.int .u8 Qm] 57 (0,0)) (by (with_reducible repeat (first | refine qa ?_ _ | refine qb ?_ | refine qc ?_ _));exact Qb.out)) : Qa ≠ Qd))
            have n6_ := qr ((by rw [hg];exact za (blk_lt (g := Qa) (o := .cells #[.slice Qs Qn.length Qt,.int .i64 Qi,.string Qv,.int .i64 Qw,.slice Qy Qu.length Qz,.int .u8 Qk,.int .u8 Qm] 57 (0,0)) (by (with_reducible repeat (first | refine qa ?_ _ | refine qb ?_ | refine qc ?_ _));exact Qb.out)) : Qd ≠ Qa))
            clear Qb
            clear HB
            have Qb := n0_
            have HB := n1_
            have Qf := n2_
            have Zn := n3_
            have Qq := n4_
            have Qj := n5_
            have Q3 := n6_
            clear n0_ n1_ n2_ n3_ n4_ n5_ n6_
            clear hb hbox hg
            refine hK.out _ _ ⟨(qw Qb.out 0).trans rfl,(qw Qb.out 1).trans rfl,(qw Qb.out 2).trans rfl,(qw Qb.out 3).trans rfl,(qw Qb.out 4).trans rfl,(qw Qb.out 5).trans rfl,(qw Qb.out 6).trans rfl⟩ (fun hHeld => ?_)
            clear hK K
            refine zl (a' := ?_) ?_ ?_
            rotate_left
            ·show Act.put _ (some 4) _ = _
             simp only [Act.put,qs,qt,qu,i64_w,i32_w]
             rfl
            exact zl (by first | (simp only [putAll,Act.put,qs,qt,qu];done) | (simp only [putAll,Act.put,qs,qt,qu];rfl)) (Vt (Qd) _ ⟨hHeld,(by (with_reducible repeat (first | refine qa ?_ _ | refine qb ?_ | refine qc ?_ _));exact Qb.out),(by (with_reducible repeat (first | refine qa ?_ _ | refine qb ?_ | refine qc ?_ _));exact Qf.out),Zn.out,Qq.out,Qj.out,Q3.out,(by repeat (first | (with_reducible first | exact HB.out | apply qe | apply qf | apply qg | refine qd ?_ Ql.out | refine qd ?_ Qq.out) | exact HB.out))⟩)
         ·skip
          rintro ⟨Qc,Qd⟩ w10 ⟨hS_,h0_,h1_,h2_,h3_,h4_,h5_,h6_,h7_,h8_,h9_,Jy,Jz,J0,J1⟩
          have n0_ : Aside0 (w10.heap[Qa]? = some (.cells #[.slice Qs Qn.length Qt,.int .i64 Qi,.string Qv,.int .i64 Qw,.slice Qy Qu.length Qz,.int .u8 Qk,.int .u8 Qm] 57 (0,0))) := ⟨h0_⟩
          have n1_ : Aside0 (w10.heap[Qc]? = some (.cells #[.slice none 0 0,.int .i64 0] 49 (0,0))) := ⟨h1_⟩
          have n2_ : Aside0 (w10.heap[Qd]? = some (.cells #[.string (⟨#[]⟩ : ByteArray),.int .i64 0] 23 (0,0))) := ⟨h2_⟩
          have n3_ : Aside0 (w.heap.size ≤ Qc) := ⟨h3_⟩
          have n4_ : Aside0 (w.heap.size ≤ Qc) := ⟨h4_⟩
          have n5_ : Aside0 (Qa ≠ Qc) := ⟨h5_⟩
          have n6_ : Aside0 (Qc ≠ Qa) := ⟨h6_⟩
          have n7_ : Aside0 (Qd ≠ Qc) := ⟨h7_⟩
          have n8_ : Aside0 (Qc ≠ Qd) := ⟨h8_⟩
          have n9_ : Aside0 (w.heap.size ≤ Qd) := ⟨h9_⟩
          have Z4 : Aside0 (w.heap.size ≤ Qd) := ⟨Jy⟩
          have Xr : Aside0 (Qa ≠ Qd) := ⟨Jz⟩
          have Xs : Aside0 (Qd ≠ Qa) := ⟨J0⟩
          have Xt : Aside0 (Below w.heap.size w w10) := ⟨J1⟩
          clear Qb
          clear HB
          clear h0_ h1_ h2_ h3_ h4_ h5_ h6_ h7_ h8_ h9_ Jy Jz J0 J1
          have Qb := n0_
          have Qe := n1_
          have Qf := n2_
          have Zm := n3_
          have Qp := n4_
          have Qh := n5_
          have Q1 := n6_
          have Qr := n7_
          have Qx := n8_
          have Zn := n9_
          have Qq := Z4
          have Qj := Xr
          have Q3 := Xs
          have HB := Xt
          clear n0_ n1_ n2_ n3_ n4_ n5_ n6_ n7_ n8_ n9_ Z4 Xr Xs Xt
          have hHeld : w10.cell? ⟨Qa,0,none⟩ = some (.slice Qs Qn.length Qt) ∧ w10.cell? ⟨Qa,1,none⟩ = some (.int .i64 Qi) ∧ w10.cell? ⟨Qa,2,none⟩ = some (.string Qv) ∧ w10.cell? ⟨Qa,3,none⟩ = some (.int .i64 Qw) ∧ w10.cell? ⟨Qa,4,none⟩ = some (.slice Qy Qu.length Qz) ∧ w10.cell? ⟨Qa,5,none⟩ = some (.int .u8 Qk) ∧ w10.cell? ⟨Qa,6,none⟩ = some (.int .u8 Qm) := hS_
          refine zl (a' := ?_) ?_ ?_
          rotate_left
          ·simp only [putAll,Act.put,qs,qt,qu]
           rfl
          refine one_ (i := 4) (N := some 25) #[true,true,true,true,true,true,true,false,true,true,true,true,true,true,false,false,false,false,false] rfl rfl (one_of HT_.out (by kernel_rfl)) (by decide) (fun K hK => ?_)
          refine zs Try.func14 (by kernel_rfl) rfl #[.agg #[.string Qv,.int .i64 Qw]] (by rfl) rfl rfl (by (try simp only [zh,zi,zj]);first | done | rfl | (simp only [zf,zg];rfl)) ?_
          with_reducible refine (tattlelaw02_Few.calls Qv Qw Zg Zi _ A2.out).mono ?_
          rintro e w11 ⟨rfl,hb⟩
          refine ⟨_,rfl,?_⟩
          have n0_ := qr (qv (g := Qa) (o := .cells #[.slice Qs Qn.length Qt,.int .i64 Qi,.string Qv,.int .i64 Qw,.slice Qy Qu.length Qz,.int .u8 Qk,.int .u8 Qm] 57 (0,0)) (by (with_reducible repeat (first | refine qa ?_ _ | refine qb ?_ | refine qc ?_ _));exact Qb.out) hb)
          have n1_ := qr (qv (g := Qc) (o := .cells #[.slice none 0 0,.int .i64 0] 49 (0,0)) (by (with_reducible repeat (first | refine qa ?_ _ | refine qb ?_ | refine qc ?_ _));exact Qe.out) hb)
          have n2_ := qr (qv (g := Qd) (o := .cells #[.string (⟨#[]⟩ : ByteArray),.int .i64 0] 23 (0,0)) (by (with_reducible repeat (first | refine qa ?_ _ | refine qb ?_ | refine qc ?_ _));exact Qf.out) hb)
          have n3_ := qr (ze (by repeat (first | (with_reducible first | exact HB.out | apply qe | apply qf | apply qg | refine qd ?_ Ql.out | refine qd ?_ Qp.out | refine qd ?_ Qq.out) | exact HB.out)) hb)
          clear Qb
          clear Qe
          clear Qf
          clear HB
          have Qb := n0_
          have Qe := n1_
          have Qf := n2_
          have HB := n3_
          clear n0_ n1_ n2_ n3_
          (try clear hb)
          (try clear hb2)
          (try clear hk)
          (try clear hi)
          refine hK.out _ _ ⟨(qw Qb.out 0).trans rfl,(qw Qb.out 1).trans rfl,(qw Qb.out 2).trans rfl,(qw Qb.out 3).trans rfl,(qw Qb.out 4).trans rfl,(qw Qb.out 5).trans rfl,(qw Qb.out 6).trans rfl⟩ (fun hHeld => ?_)
          clear hK K
          refine zl (a' := ?_) ?_ ?_
          rotate_left
          ·show Act.put _ (some 25) _ = _
           simp only [Act.put,qs,qt,qu,i64_w,i32_w]
           rfl
          exact zl (by first | (simp only [putAll,Act.put,qs,qt,qu];done) | (simp only [putAll,Act.put,qs,qt,qu];rfl)) (Yt (Qc,Qd) _ ⟨hHeld,(by (with_reducible repeat (first | refine qa ?_ _ | refine qb ?_ | refine qc ?_ _));exact Qb.out),(by (with_reducible repeat (first | refine qa ?_ _ | refine qb ?_ | refine qc ?_ _));exact Qe.out),(by (with_reducible repeat (first | refine qa ?_ _ | refine qb ?_ | refine qc ?_ _));exact Qf.out),Zm.out,Qp.out,Qh.out,Q1.out,Qr.out,Qx.out,Zn.out,Qq.out,Qj.out,Q3.out,(by repeat (first | (with_reducible first | exact HB.out | apply qe | apply qf | apply qg | refine qd ?_ Ql.out | refine qd ?_ Qp.out | refine qd ?_ Qq.out) | exact HB.out))⟩)
        ·skip
         rintro Qd w10 ⟨hS_,h0_,h1_,h2_,h3_,h4_,h5_,h6_⟩
         have n0_ : Aside0 (w10.heap[Qa]? = some (.cells #[.slice Qs Qn.length Qt,.int .i64 Qi,.string Qv,.int .i64 Qw,.slice Qy Qu.length Qz,.int .u8 Qk,.int .u8 Qm] 57 (0,0))) := ⟨h0_⟩
         have n1_ : Aside0 (w10.heap[Qd]? = some (.cells #[.string (⟨#[]⟩ : ByteArray),.int .i64 0] 23 (0,0))) := ⟨h1_⟩
         have n2_ : Aside0 (w.heap.size ≤ Qd) := ⟨h2_⟩
         have n3_ : Aside0 (w.heap.size ≤ Qd) := ⟨h3_⟩
         have n4_ : Aside0 (Qa ≠ Qd) := ⟨h4_⟩
         have n5_ : Aside0 (Qd ≠ Qa) := ⟨h5_⟩
         have n6_ : Aside0 (Below w.heap.size w w10) := ⟨h6_⟩
         clear Qb
         clear HB
         clear h0_ h1_ h2_ h3_ h4_ h5_ h6_
         have Qb := n0_
         have Qf := n1_
         have Zn := n2_
         have Qq := n3_
         have Qj := n4_
         have Q3 := n5_
         have HB := n6_
         clear n0_ n1_ n2_ n3_ n4_ n5_ n6_
         have hHeld : w10.cell? ⟨Qa,0,none⟩ = some (.slice Qs Qn.length Qt) ∧ w10.cell? ⟨Qa,1,none⟩ = some (.int .i64 Qi) ∧ w10.cell? ⟨Qa,2,none⟩ = some (.string Qv) ∧ w10.cell? ⟨Qa,3,none⟩ = some (.int .i64 Qw) ∧ w10.cell? ⟨Qa,4,none⟩ = some (.slice Qy Qu.length Qz) ∧ w10.cell? ⟨Qa,5,none⟩ = some (.int .u8 Qk) ∧ w10.cell? ⟨Qa,6,none⟩ = some (.int .u8 Qm) := hS_
         refine zl (a' := ?_) ?_ ?_
         rotate_left
         ·simp only [putAll,Act.put,qs,qt,qu]
          rfl
         refine two_ (i := 7) (j := 12) (Ni := some 28) (Nj := some 3) #[true,true,true,true,true,true,true,true,true,true,true,true,false,true,false,false,false,false,false] #[true,true,true,true,true,true,true,false,true,true,true,true,true,true,false,false,false,false,false] rfl rfl rfl rfl (two_of HT_.out (by kernel_rfl)) (by decide) (by decide) (fun K hK => ?_) (fun K hK => ?_)
         ·skip
          refine zs Try.func27 (by kernel_rfl) rfl #[.slice Qy Qu.length Qz] (by rfl) rfl rfl (by (try simp only [zh,zi,zj]);first | done | rfl | (simp only [zf,zg];rfl)) ?_
          with_reducible refine (tattlelaw08_Few.calls (fun k_ => k_ < w.heap.size) _ _ Qu Qo _ ?Zq A3.out).mono ?_
          (case Zq => exact Kd.V_mk Vk.out (Kd.F_below (Kd.C_F (Kd.heap_int .i64) Vj.out) (by repeat (first | (with_reducible first | exact HB.out | apply qe | apply qf | apply qg | refine qd ?_ Ql.out | refine qd ?_ Qq.out) | exact HB.out))))
          rintro e w11 ⟨X6,rfl,ho0,hb⟩
          refine ⟨_,rfl,?_⟩
          have n0_ := qr (zn (qp (ok' := fun k_ => k_ ≠ Qa ∧ k_ ≠ Qd) ho0 (fun k_ hk_ => ⟨Or.elim hk_ (fun hs_ => fun e_ => Nat.not_le.2 hs_ (by rw [e_];exact Jv.out)) (fun hn_ => (Kd.freshB (g := Qa) (o := .cells #[.slice Qs Qn.length Qt,.int .i64 Qi,.string Qv,.int .i64 Qw,.slice Qy Qu.length Qz,.int .u8 Qk,.int .u8 Qm] 57 (0,0)) (by (with_reducible repeat (first | refine qa ?_ _ | refine qb ?_ | refine qc ?_ _));exact Qb.out) k_ hn_)),Or.elim hk_ (fun hs_ => fun e_ => Nat.not_le.2 hs_ (by rw [e_];exact Zn.out)) (fun hn_ => (Kd.freshB (g := Qd) (o := .cells #[.string (⟨#[]⟩ : ByteArray),.int .i64 0] 23 (0,0)) (by (with_reducible repeat (first | refine qa ?_ _ | refine qb ?_ | refine qc ?_ _));exact Qf.out) k_ hn_))⟩)) (below_size (by repeat (first | (with_reducible first | exact HB.out | apply qe | apply qf | apply qg | refine qd ?_ Ql.out | refine qd ?_ Qq.out) | exact HB.out))))
          have n1_ := qr (qv (g := Qa) (o := .cells #[.slice Qs Qn.length Qt,.int .i64 Qi,.string Qv,.int .i64 Qw,.slice Qy Qu.length Qz,.int .u8 Qk,.int .u8 Qm] 57 (0,0)) (by (with_reducible repeat (first | refine qa ?_ _ | refine qb ?_ | refine qc ?_ _));exact Qb.out) hb)
          have n2_ := qr (qv (g := Qd) (o := .cells #[.string (⟨#[]⟩ : ByteArray),.int .i64 0] 23 (0,0)) (by (with_reducible repeat (first | refine qa ?_ _ | refine qb ?_ | refine qc ?_ _));exact Qf.out) hb)
          have n3_ := qr (ze (by repeat (first | (with_reducible first | exact HB.out | apply qe | apply qf | apply qg | refine qd ?_ Ql.out | refine qd ?_ Qq.out) | exact HB.out)) hb)
          clear Qb
          clear Qf
          clear HB
          have Q8 := n0_
          have Qb := n1_
          have Qf := n2_
          have HB := n3_
          clear n0_ n1_ n2_ n3_
          (try clear hb)
          (try clear hb2)
          (try clear hk)
          (try clear hi)
          (try clear ho0)
          refine hK.out _ _ ⟨(qw Qb.out 0).trans rfl,(qw Qb.out 1).trans rfl,(qw Qb.out 2).trans rfl,(qw Qb.out 3).trans rfl,(qw Qb.out 4).trans rfl,(qw Qb.out 5).trans rfl,(qw Qb.out 6).trans rfl⟩ (fun hHeld => ?_)
          clear hK K
          refine zl (a' := ?_) ?_ ?_
          rotate_left
          ·show Act.put _ (some 28) _ = _
           simp only [Act.put,qs,qt,qu,i64_w,i32_w]
           rfl
          exact zl (by first | (simp only [putAll,Act.put,qs,qt,qu];done) | (simp only [putAll,Act.put,qs,qt,qu];rfl)) (Jx (X6,Qd) _ ⟨hHeld,(by (with_reducible repeat (first | apply qh | apply qi | apply qj));exact Q8.out),(by (with_reducible repeat (first | refine qa ?_ _ | refine qb ?_ | refine qc ?_ _));exact Qb.out),(by (with_reducible repeat (first | refine qa ?_ _ | refine qb ?_ | refine qc ?_ _));exact Qf.out),Zn.out,Qq.out,Qj.out,Q3.out,(by repeat (first | (with_reducible first | exact HB.out | apply qe | apply qf | apply qg | refine qd ?_ Ql.out | refine qd ?_ Qq.out) | exact HB.out))⟩)
         ·skip
          refine box_step ?hg (N := 3) ?hd (cs := #[.slice none 0 0,.int .i64 0]) (t := 49) ?hr ?_;(case hd => rfl);(case hg => rfl);(case hr => first | (go_simp;done) | (go_simp;rfl))
          intro Qc hg w11 hbox hb
          have n0_ := qr (qv (g := Qa) (o := .cells #[.slice Qs Qn.length Qt,.int .i64 Qi,.string Qv,.int .i64 Qw,.slice Qy Qu.length Qz,.int .u8 Qk,.int .u8 Qm] 57 (0,0)) (by (with_reducible repeat (first | refine qa ?_ _ | refine qb ?_ | refine qc ?_ _));exact Qb.out) hb)
          have n1_ := qr (qv (g := Qd) (o := .cells #[.string (⟨#[]⟩ : ByteArray),.int .i64 0] 23 (0,0)) (by (with_reducible repeat (first | refine qa ?_ _ | refine qb ?_ | refine qc ?_ _));exact Qf.out) hb)
          have n2_ := qr (ze (by repeat (first | (with_reducible first | exact HB.out | apply qe | apply qf | apply qg | refine qd ?_ Ql.out | refine qd ?_ Qq.out) | exact HB.out)) hb)
          have n3_ := qr (hbox)
          have n4_ := qr ((by rw [hg];exact (below_size (by repeat (first | (with_reducible first | exact HB.out | apply qe | apply qf | apply qg | refine qd ?_ Ql.out | refine qd ?_ Qq.out) | exact HB.out))) : w.heap.size ≤ Qc))
          have n5_ := qr ((by rw [hg];exact (below_size (by repeat (first | (with_reducible first | exact HB.out | apply qe | apply qf | apply qg | refine qd ?_ Ql.out | refine qd ?_ Qq.out) | exact HB.out))) : w.heap.size ≤ Qc))
          have n6_ := qr ((by rw [hg];exact qz (blk_lt (g := Qa) (o := .cells #[.slice Qs Qn.length Qt,.int .i64 Qi,.string Qv,.int .i64 Qw,.slice Qy Qu.length Qz,.int .u8 Qk,.int .u8 Qm] 57 (0,0)) (by (with_reducible repeat (first | refine qa ?_ _ | refine qb ?_ | refine qc ?_ _));exact Qb.out)) : Qa ≠ Qc))
          have n7_ := qr ((by rw [hg];exact za (blk_lt (g := Qa) (o := .cells #[.slice Qs Qn.length Qt,.int .i64 Qi,.string Qv,.int .i64 Qw,.slice Qy Qu.length Qz,.int .u8 Qk,.int .u8 Qm] 57 (0,0)) (by (with_reducible repeat (first | refine qa ?_ _ | refine qb ?_ | refine qc ?_ _));exact Qb.out)) : Qc ≠ Qa))
          have n8_ := qr ((by rw [hg];exact qz (blk_lt (g := Qd) (o := .cells #[.string (⟨#[]⟩ : ByteArray),.int .i64 0] 23 (0,0)) (by (with_reducible repeat (first | refine qa ?_ _ | refine qb ?_ | refine qc ?_ _));exact Qf.out)) : Qd ≠ Qc))
          have n9_ := qr ((by rw [hg];exact za (blk_lt (g := Qd) (o := .cells #[.string (⟨#[]⟩ : ByteArray),.int .i64 0] 23 (0,0)) (by (with_reducible repeat (first | refine qa ?_ _ | refine qb ?_ | refine qc ?_ _));exact Qf.out)) : Qc ≠ Qd))
          clear Qb
          clear Qf
          clear HB
          have Qb := n0_
          have Qf := n1_
          have HB := n2_
          have Qe := n3_
          have Zm := n4_
          have Qp := n5_
          have Qh := n6_
          have Q1 := n7_
          have Qr := n8_
          have Qx := n9_
          clear n0_ n1_ n2_ n3_ n4_ n5_ n6_ n7_ n8_ n9_
          clear hb hbox hg
          refine hK.out _ _ ⟨(qw Qb.out 0).trans rfl,(qw Qb.out 1).trans rfl,(qw Qb.out 2).trans rfl,(qw Qb.out 3).trans rfl,(qw Qb.out 4).trans rfl,(qw Qb.out 5).trans rfl,(qw Qb.out 6).trans rfl⟩ (fun hHeld => ?_)
          clear hK K
          refine zl (a' := ?_) ?_ ?_
          rotate_left
          ·show Act.put _ (some 3) _ = _
           simp only [Act.put,qs,qt,qu,i64_w,i32_w]
           rfl
          exact zl (by first | (simp only [putAll,Act.put,qs,qt,qu];done) | (simp only [putAll,Act.put,qs,qt,qu];rfl)) (Yt (Qc,Qd) _ ⟨hHeld,(by (with_reducible repeat (first | refine qa ?_ _ | refine qb ?_ | refine qc ?_ _));exact Qb.out),(by (with_reducible repeat (first | refine qa ?_ _ | refine qb ?_ | refine qc ?_ _));exact Qe.out),(by (with_reducible repeat (first | refine qa ?_ _ | refine qb ?_ | refine qc ?_ _));exact Qf.out),Zm.out,Qp.out,Qh.out,Q1.out,Qr.out,Qx.out,Zn.out,Qq.out,Qj.out,Q3.out,(by repeat (first | (with_reducible first | exact HB.out | apply qe | apply qf | apply qg | refine qd ?_ Ql.out | refine qd ?_ Qq.out | refine qd ?_ Qp.out) | exact HB.out))⟩)
       ·skip
        rintro Qc w10 ⟨hS_,h0_,h1_,h2_,h3_,h4_,h5_,h6_⟩
        have n0_ : Aside0 (w10.heap[Qa]? = some (.cells #[.slice Qs Qn.length Qt,.int .i64 Qi,.string Qv,.int .i64 Qw,.slice Qy Qu.length Qz,.int .u8 Qk,.int .u8 Qm] 57 (0,0))) := ⟨h0_⟩
        have n1_ : Aside0 (w10.heap[Qc]? = some (.cells #[.slice none 0 0,.int .i64 0] 49 (0,0))) := ⟨h1_⟩
        have n2_ : Aside0 (w.heap.size ≤ Qc) := ⟨h2_⟩
        have n3_ : Aside0 (w.heap.size ≤ Qc) := ⟨h3_⟩
        have n4_ : Aside0 (Qa ≠ Qc) := ⟨h4_⟩
        have n5_ : Aside0 (Qc ≠ Qa) := ⟨h5_⟩
        have n6_ : Aside0 (Below w.heap.size w w10) := ⟨h6_⟩
        clear Qb
        clear HB
        clear h0_ h1_ h2_ h3_ h4_ h5_ h6_
        have Qb := n0_
        have Qe := n1_
        have Zm := n2_
        have Qp := n3_
        have Qh := n4_
        have Q1 := n5_
        have HB := n6_
        clear n0_ n1_ n2_ n3_ n4_ n5_ n6_
        have hHeld : w10.cell? ⟨Qa,0,none⟩ = some (.slice Qs Qn.length Qt) ∧ w10.cell? ⟨Qa,1,none⟩ = some (.int .i64 Qi) ∧ w10.cell? ⟨Qa,2,none⟩ = some (.string Qv) ∧ w10.cell? ⟨Qa,3,none⟩ = some (.int .i64 Qw) ∧ w10.cell? ⟨Qa,4,none⟩ = some (.slice Qy Qu.length Qz) ∧ w10.cell? ⟨Qa,5,none⟩ = some (.int .u8 Qk) ∧ w10.cell? ⟨Qa,6,none⟩ = some (.int .u8 Qm) := hS_
        refine zl (a' := ?_) ?_ ?_
        rotate_left
        ·simp only [putAll,Act.put,qs,qt,qu]
         rfl
        refine two_ (i := 7) (j := 13) (Ni := some 28) (Nj := some 4) #[true,true,true,true,true,true,true,true,true,true,true,true,true,false,false,false,false,false,false] #[true,true,true,true,true,true,true,false,true,true,true,true,true,true,false,false,false,false,false] rfl rfl rfl rfl (two_of HT_.out (by kernel_rfl)) (by decide) (by decide) (fun K hK => ?_) (fun K hK => ?_)
        ·skip
         refine zs Try.func27 (by kernel_rfl) rfl #[.slice Qy Qu.length Qz] (by rfl) rfl rfl (by (try simp only [zh,zi,zj]);first | done | rfl | (simp only [zf,zg];rfl)) ?_
         with_reducible refine (tattlelaw08_Few.calls (fun k_ => k_ < w.heap.size) _ _ Qu Qo _ ?Zq A3.out).mono ?_
         (case Zq => exact Kd.V_mk Vk.out (Kd.F_below (Kd.C_F (Kd.heap_int .i64) Vj.out) (by repeat (first | (with_reducible first | exact HB.out | apply qe | apply qf | apply qg | refine qd ?_ Ql.out | refine qd ?_ Qp.out) | exact HB.out))))
         rintro e w11 ⟨X6,rfl,ho0,hb⟩
         refine ⟨_,rfl,?_⟩
         have n0_ := qr (zn (qp (ok' := fun k_ => k_ ≠ Qa ∧ k_ ≠ Qc) ho0 (fun k_ hk_ => ⟨Or.elim hk_ (fun hs_ => fun e_ => Nat.not_le.2 hs_ (by rw [e_];exact Jv.out)) (fun hn_ => (Kd.freshB (g := Qa) (o := .cells #[.slice Qs Qn.length Qt,.int .i64 Qi,.string Qv,.int .i64 Qw,.slice Qy Qu.length Qz,.int .u8 Qk,.int .u8 Qm] 57 (0,0)) (by (with_reducible repeat (first | refine qa ?_ _ | refine qb ?_ | refine qc ?_ _));exact Qb.out) k_ hn_)),Or.elim hk_ (fun hs_ => fun e_ => Nat.not_le.2 hs_ (by rw [e_];exact Zm.out)) (fun hn_ => (Kd.freshB (g := Qc) (o := .cells #[.slice none 0 0,.int .i64 0] 49 (0,0)) (by (with_reducible repeat (first | refine qa ?_ _ | refine qb ?_ | refine qc ?_ _));exact Qe.out) k_ hn_))⟩)) (below_size (by repeat (first | (with_reducible first | exact HB.out | apply qe | apply qf | apply qg | refine qd ?_ Ql.out | refine qd ?_ Qp.out) | exact HB.out))))
         have n1_ := qr (qv (g := Qa) (o := .cells #[.slice Qs Qn.length Qt,.int .i64 Qi,.string Qv,.int .i64 Qw,.slice Qy Qu.length Qz,.int .u8 Qk,.int .u8 Qm] 57 (0,0)) (by (with_reducible repeat (first | refine qa ?_ _ | refine qb ?_ | refine qc ?_ _));exact Qb.out) hb)
         have n2_ := qr (qv (g := Qc) (o := .cells #[.slice none 0 0,.int .i64 0] 49 (0,0)) (by (with_reducible repeat (first | refine qa ?_ _ | refine qb ?_ | refine qc ?_ _));exact Qe.out) hb)
         have n3_ := qr (ze (by repeat (first | (with_reducible first | exact HB.out | apply qe | apply qf | apply qg | refine qd ?_ Ql.out | refine qd ?_ Qp.out) | exact HB.out)) hb)
         clear Qb
         clear Qe
         clear HB
         have Q8 := n0_
         have Qb := n1_
         have Qe := n2_
         have HB := n3_
         clear n0_ n1_ n2_ n3_
         (try clear hb)
         (try clear hb2)
         (try clear hk)
         (try clear hi)
         (try clear ho0)
         refine hK.out _ _ ⟨(qw Qb.out 0).trans rfl,(qw Qb.out 1).trans rfl,(qw Qb.out 2).trans rfl,(qw Qb.out 3).trans rfl,(qw Qb.out 4).trans rfl,(qw Qb.out 5).trans rfl,(qw Qb.out 6).trans rfl⟩ (fun hHeld => ?_)
         clear hK K
         refine zl (a' := ?_) ?_ ?_
         rotate_left
         ·show Act.put _ (some 28) _ = _
          simp only [Act.put,qs,qt,qu,i64_w,i32_w]
          rfl
         exact zl (by first | (simp only [putAll,Act.put,qs,qt,qu];done) | (simp only [putAll,Act.put,qs,qt,qu];rfl)) (Jw (X6,Qc) _ ⟨hHeld,(by (with_reducible repeat (first | apply qh | apply qi | apply qj));exact Q8.out),(by (with_reducible repeat (first | refine qa ?_ _ | refine qb ?_ | refine qc ?_ _));exact Qb.out),(by (with_reducible repeat (first | refine qa ?_ _ | refine qb ?_ | refine qc ?_ _));exact Qe.out),Zm.out,Qp.out,Qh.out,Q1.out,(by repeat (first | (with_reducible first | exact HB.out | apply qe | apply qf | apply qg | refine qd ?_ Ql.out | refine qd ?_ Qp.out) | exact HB.out))⟩)
        ·skip
         refine box_step ?hg (N := 4) ?hd (cs := #[.string (⟨#[]⟩ : ByteArray),.int .i64 0]) (t := 23) ?hr ?_;(case hd => rfl);(case hg => rfl);(case hr => first | (go_simp;done) | (go_simp;rfl))
         intro Qd hg w11 hbox hb
         have n0_ := qr (qv (g := Qa) (o := .cells #[.slice Qs Qn.length Qt,.int .i64 Qi,.string Qv,.int .i64 Qw,.slice Qy Qu.length Qz,.int .u8 Qk,.int .u8 Qm] 57 (0,0)) (by (with_reducible repeat (first | refine qa ?_ _ | refine qb ?_ | refine qc ?_ _));exact Qb.out) hb)
         have n1_ := qr (qv (g := Qc) (o := .cells #[.slice none 0 0,.int .i64 0] 49 (0,0)) (by (with_reducible repeat (first | refine qa ?_ _ | refine qb ?_ | refine qc ?_ _));exact Qe.out) hb)
         have n2_ := qr (ze (by repeat (first | (with_reducible first | exact HB.out | apply qe | apply qf | apply qg | refine qd ?_ Ql.out | refine qd ?_ Qp.out) | exact HB.out)) hb)
         have n3_ := qr (hbox)
         have n4_ := qr ((by rw [hg];exact (below_size (by repeat (first | (with_reducible first | exact HB.out | apply qe | apply qf | apply qg | refine qd ?_ Ql.out | refine qd ?_ Qp.out) | exact HB.out))) : w.heap.size ≤ Qd))
         have n5_ := qr ((by rw [hg];exact (below_size (by repeat (first | (with_reducible first | exact HB.out | apply qe | apply qf | apply qg | refine qd ?_ Ql.out | refine qd ?_ Qp.out) | exact HB.out))) : w.heap.size ≤ Qd))
         have n6_ := qr ((by rw [hg];exact qz (blk_lt (g := Qa) (o := .cells #[.slice Qs Qn.length Qt,.int .i64 Qi,.string Qv,.int .i64 Qw,.slice Qy Qu.length Qz,.int .u8 Qk,.int .u8 Qm] 57 (0,0)) (by (with_reducible repeat (first | refine qa ?_ _ | refine qb ?_ | refine qc ?_ _));exact Qb.out)) : Qa ≠ Qd))
         have n7_ := qr ((by rw [hg];exact za (blk_lt (g := Qa) (o := .cells #[.slice Qs Qn.length Qt,.int .i64 Qi,.string Qv,.int .i64 Qw,.slice Qy Qu.length Qz,.int .u8 Qk,.int .u8 Qm] 57 (0,0)) (by (with_reducible repeat (first | refine qa ?_ _ | refine qb ?_ | refine qc ?_ _));exact Qb.out)) : Qd ≠ Qa))
         have n8_ := qr ((by rw [hg];exact qz (blk_lt (g := Qc) (o := .cells #[.slice none 0 0,.int .i64 0] 49 (0,0)) (by (with_reducible repeat (first | refine qa ?_ _ | refine qb ?_ | refine qc ?_ _));exact Qe.out)) : Qc ≠ Qd))
         have n9_ := qr ((by rw [hg];exact za (blk_lt (g := Qc) (o := .cells #[.slice none 0 0,.int .i64 0] 49 (0,0)) (by (with_reducible repeat (first | refine qa ?_ _ | refine qb ?_ | refine qc ?_ _));exact Qe.out)) : Qd ≠ Qc))
         clear Qb
         clear Qe
         clear HB
         have Qb := n0_
         have Qe := n1_
         have HB := n2_
         have Qf := n3_
         have Zn := n4_
         have Qq := n5_
         have Qj := n6_
         have Q3 := n7_
         have Qx := n8_
         have Qr := n9_
         clear n0_ n1_ n2_ n3_ n4_ n5_ n6_ n7_ n8_ n9_
         clear hb hbox hg
         refine hK.out _ _ ⟨(qw Qb.out 0).trans rfl,(qw Qb.out 1).trans rfl,(qw Qb.out 2).trans rfl,(qw Qb.out 3).trans rfl,(qw Qb.out 4).trans rfl,(qw Qb.out 5).trans rfl,(qw Qb.out 6).trans rfl⟩ (fun hHeld => ?_)
         clear hK K
         refine zl (a' := ?_) ?_ ?_
         rotate_left
         ·show Act.put _ (some 4) _ = _
          simp only [Act.put,qs,qt,qu,i64_w,i32_w]
          rfl
         exact zl (by first | (simp only [putAll,Act.put,qs,qt,qu];done) | (simp only [putAll,Act.put,qs,qt,qu];rfl)) (Yt (Qc,Qd) _ ⟨hHeld,(by (with_reducible repeat (first | refine qa ?_ _ | refine qb ?_ | refine qc ?_ _));exact Qb.out),(by (with_reducible repeat (first | refine qa ?_ _ | refine qb ?_ | refine qc ?_ _));exact Qe.out),(by (with_reducible repeat (first | refine qa ?_ _ | refine qb ?_ | refine qc ?_ _));exact Qf.out),Zm.out,Qp.out,Qh.out,Q1.out,Qr.out,Qx.out,Zn.out,Qq.out,Qj.out,Q3.out,(by repeat (first | (with_reducible first | exact HB.out | apply qe | apply qf | apply qg | refine qd ?_ Ql.out | refine qd ?_ Qp.out | refine qd ?_ Qq.out) | exact HB.out))⟩)
      ·skip
       rintro X6 w10 ⟨hS_,h0_,h1_,h2_⟩
       have n0_ : Aside0 (Kd.V (Kd.int .i64) 3 w10 w.heap.size (fun k_ => k_ ≠ Qa) X6 Qo) := ⟨h0_⟩
       have n1_ : Aside0 (w10.heap[Qa]? = some (.cells #[.slice Qs Qn.length Qt,.int .i64 Qi,.string Qv,.int .i64 Qw,.slice Qy Qu.length Qz,.int .u8 Qk,.int .u8 Qm] 57 (0,0))) := ⟨h1_⟩
       have n2_ : Aside0 (Below w.heap.size w w10) := ⟨h2_⟩
       clear Qb
       clear HB
       clear h0_ h1_ h2_
       have Q8 := n0_
       have Qb := n1_
       have HB := n2_
       clear n0_ n1_ n2_
       have hHeld : w10.cell? ⟨Qa,0,none⟩ = some (.slice Qs Qn.length Qt) ∧ w10.cell? ⟨Qa,1,none⟩ = some (.int .i64 Qi) ∧ w10.cell? ⟨Qa,2,none⟩ = some (.string Qv) ∧ w10.cell? ⟨Qa,3,none⟩ = some (.int .i64 Qw) ∧ w10.cell? ⟨Qa,4,none⟩ = some (.slice Qy Qu.length Qz) ∧ w10.cell? ⟨Qa,5,none⟩ = some (.int .u8 Qk) ∧ w10.cell? ⟨Qa,6,none⟩ = some (.int .u8 Qm) := hS_
       refine zl (a' := ?_) ?_ ?_
       rotate_left
       ·simp only [putAll,Act.put,qs,qt,qu]
        rfl
       refine two_ (i := 12) (j := 13) (Ni := some 3) (Nj := some 4) #[true,true,true,true,true,true,true,true,true,true,true,true,true,false,false,false,false,false,false] #[true,true,true,true,true,true,true,true,true,true,true,true,false,true,false,false,false,false,false] rfl rfl rfl rfl (two_of HT_.out (by kernel_rfl)) (by decide) (by decide) (fun K hK => ?_) (fun K hK => ?_)
       ·skip
        refine box_step ?hg (N := 3) ?hd (cs := #[.slice none 0 0,.int .i64 0]) (t := 49) ?hr ?_;(case hd => rfl);(case hg => rfl);(case hr => first | (go_simp;done) | (go_simp;rfl))
        intro Qc hg w11 hbox hb
        have n0_ := qr (qq (Kd.V_elderB (by (with_reducible repeat (first | apply qh | apply qi | apply qj));exact Q8.out) Qc (zb hg.symm)) hb)
        have n1_ := qr (qv (g := Qa) (o := .cells #[.slice Qs Qn.length Qt,.int .i64 Qi,.string Qv,.int .i64 Qw,.slice Qy Qu.length Qz,.int .u8 Qk,.int .u8 Qm] 57 (0,0)) (by (with_reducible repeat (first | refine qa ?_ _ | refine qb ?_ | refine qc ?_ _));exact Qb.out) hb)
        have n2_ := qr (ze (by repeat (first | (with_reducible first | exact HB.out | apply qe | apply qf | apply qg | refine qd ?_ Ql.out) | exact HB.out)) hb)
        have n3_ := qr (hbox)
        have n4_ := qr ((by rw [hg];exact (below_size (by repeat (first | (with_reducible first | exact HB.out | apply qe | apply qf | apply qg | refine qd ?_ Ql.out) | exact HB.out))) : w.heap.size ≤ Qc))
        have n5_ := qr ((by rw [hg];exact (below_size (by repeat (first | (with_reducible first | exact HB.out | apply qe | apply qf | apply qg | refine qd ?_ Ql.out) | exact HB.out))) : w.heap.size ≤ Qc))
        have n6_ := qr ((by rw [hg];exact qz (blk_lt (g := Qa) (o := .cells #[.slice Qs Qn.length Qt,.int .i64 Qi,.string Qv,.int .i64 Qw,.slice Qy Qu.length Qz,.int .u8 Qk,.int .u8 Qm] 57 (0,0)) (by (with_reducible repeat (first | refine qa ?_ _ | refine qb ?_ | refine qc ?_ _));exact Qb.out)) : Qa ≠ Qc))
        have n7_ := qr ((by rw [hg];exact za (blk_lt (g := Qa) (o := .cells #[.slice Qs Qn.length Qt,.int .i64 Qi,.string Qv,.int .i64 Qw,.slice Qy Qu.length Qz,.int .u8 Qk,.int .u8 Qm] 57 (0,0)) (by (with_reducible repeat (first | refine qa ?_ _ | refine qb ?_ | refine qc ?_ _));exact Qb.out)) : Qc ≠ Qa))
        clear Q8
        clear Qb
        clear HB
        have Q8 := n0_
        have Qb := n1_
        have HB := n2_
        have Qe := n3_
        have Zm := n4_
        have Qp := n5_
        have Qh := n6_
        have Q1 := n7_
        clear n0_ n1_ n2_ n3_ n4_ n5_ n6_ n7_
        clear hb hbox hg
        refine hK.out _ _ ⟨(qw Qb.out 0).trans rfl,(qw Qb.out 1).trans rfl,(qw Qb.out 2).trans rfl,(qw Qb.out 3).trans rfl,(qw Qb.out 4).trans rfl,(qw Qb.out 5).trans rfl,(qw Qb.out 6).trans rfl⟩ (fun hHeld => ?_)
        clear hK K
        refine zl (a' := ?_) ?_ ?_
        rotate_left
        ·show Act.put _ (some 3) _ = _
         simp only [Act.put,qs,qt,qu,i64_w,i32_w]
         rfl
        exact zl (by first | (simp only [putAll,Act.put,qs,qt,qu];done) | (simp only [putAll,Act.put,qs,qt,qu];rfl)) (Jw (X6,Qc) _ ⟨hHeld,(by (with_reducible repeat (first | apply qh | apply qi | apply qj));exact Q8.out),(by (with_reducible repeat (first | refine qa ?_ _ | refine qb ?_ | refine qc ?_ _));exact Qb.out),(by (with_reducible repeat (first | refine qa ?_ _ | refine qb ?_ | refine qc ?_ _));exact Qe.out),Zm.out,Qp.out,Qh.out,Q1.out,(by repeat (first | (with_reducible first | exact HB.out | apply qe | apply qf | apply qg | refine qd ?_ Ql.out | refine qd ?_ Qp.out) | exact HB.out))⟩)
       ·skip
        refine box_step ?hg (N := 4) ?hd (cs := #[.string (⟨#[]⟩ : ByteArray),.int .i64 0]) (t := 23) ?hr ?_;(case hd => rfl);(case hg => rfl);(case hr => first | (go_simp;done) | (go_simp;rfl))
        intro Qd hg w11 hbox hb
        have n0_ := qr (qq (Kd.V_elderB (by (with_reducible repeat (first | apply qh | apply qi | apply qj));exact Q8.out) Qd (zb hg.symm)) hb)
        have n1_ := qr (qv (g := Qa) (o := .cells #[.slice Qs Qn.length Qt,.int .i64 Qi,.string Qv,.int .i64 Qw,.slice Qy Qu.length Qz,.int .u8 Qk,.int .u8 Qm] 57 (0,0)) (by (with_reducible repeat (first | refine qa ?_ _ | refine qb ?_ | refine qc ?_ _));exact Qb.out) hb)
        have n2_ := qr (ze (by repeat (first | (with_reducible first | exact HB.out | apply qe | apply qf | apply qg | refine qd ?_ Ql.out) | exact HB.out)) hb)
        have n3_ := qr (hbox)
        have n4_ := qr ((by rw [hg];exact (below_size (by repeat (first | (with_reducible first | exact HB.out | apply qe | apply qf | apply qg | refine qd ?_ Ql.out) | exact HB.out))) : w.heap.size ≤ Qd))
        have n5_ := qr ((by rw [hg];exact (below_size (by repeat (first | (with_reducible first | exact HB.out | apply qe | apply qf | apply qg | refine qd ?_ Ql.out) | exact HB.out))) : w.heap.size ≤ Qd))
        have n6_ := qr ((by rw [hg];exact qz (blk_lt (g := Qa) (o := .cells #[.slice Qs Qn.length Qt,.int .i64 Qi,.string Qv,.int .i64 Qw,.slice Qy Qu.length Qz,.int .u8 Qk,.int .u8 Qm] 57 (0,0)) (by (with_reducible repeat (first | refine qa ?_ _ | refine qb ?_ | refine qc ?_ _));exact Qb.out)) : Qa ≠ Qd))
        have n7_ := qr ((by rw [hg];exact za (blk_lt (g := Qa) (o := .cells #[.slice Qs Qn.length Qt,.int .i64 Qi,.string Qv,.int .i64 Qw,.slice Qy Qu.length Qz,.int .u8 Qk,.int .u8 Qm] 57 (0,0)) (by (with_reducible repeat (first | refine qa ?_ _ | refine qb ?_ | refine qc ?_ _));exact Qb.out)) : Qd ≠ Qa))
        clear Q8
        clear Qb
        clear HB
        have Q8 := n0_
        have Qb := n1_
        have HB := n2_
        have Qf := n3_
        have Zn := n4_
        have Qq := n5_
        have Qj := n6_
        have Q3 := n7_
        clear n0_ n1_ n2_ n3_ n4_ n5_ n6_ n7_
        clear hb hbox hg
        refine hK.out _ _ ⟨(qw Qb.out 0).trans rfl,(qw Qb.out 1).trans rfl,(qw Qb.out 2).trans rfl,(qw Qb.out 3).trans rfl,(qw Qb.out 4).trans rfl,(qw Qb.out 5).trans rfl,(qw Qb.out 6).trans rfl⟩ (fun hHeld => ?_)
        clear hK K
        refine zl (a' := ?_) ?_ ?_
        rotate_left
        ·show Act.put _ (some 4) _ = _
         simp only [Act.put,qs,qt,qu,i64_w,i32_w]
         rfl
        exact zl (by first | (simp only [putAll,Act.put,qs,qt,qu];done) | (simp only [putAll,Act.put,qs,qt,qu];rfl)) (Jx (X6,Qd) _ ⟨hHeld,(by (with_reducible repeat (first | apply qh | apply qi | apply qj));exact Q8.out),(by (with_reducible repeat (first | refine qa ?_ _ | refine qb ?_ | refine qc ?_ _));exact Qb.out),(by (with_reducible repeat (first | refine qa ?_ _ | refine qb ?_ | refine qc ?_ _));exact Qf.out),Zn.out,Qq.out,Qj.out,Q3.out,(by repeat (first | (with_reducible first | exact HB.out | apply qe | apply qf | apply qg | refine qd ?_ Ql.out | refine qd ?_ Qq.out) | exact HB.out))⟩)
     ·skip
      rintro ⟨Qc,Qd⟩ w11 ⟨hS_,h0_,h1_,h2_,h3_,h4_,h5_,h6_,h7_,h8_,h9_,Jy,Jz,J0,J1⟩
      have n0_ : Aside0 (w11.heap[Qa]? = some (.cells #[.slice Qs Qn.length Qt,.int .i64 Qi,.string Qv,.int .i64 Qw,.slice Qy Qu.length Qz,.int .u8 Qk,.int .u8 Qm] 57 (0,0))) := ⟨h0_⟩
      have n1_ : Aside0 (w11.heap[Qc]? = some (.cells #[.slice none 0 0,.int .i64 0] 49 (0,0))) := ⟨h1_⟩
      have n2_ : Aside0 (w11.heap[Qd]? = some (.cells #[.string (⟨#[]⟩ : ByteArray),.int .i64 0] 23 (0,0))) := ⟨h2_⟩
      have n3_ : Aside0 (w.heap.size ≤ Qc) := ⟨h3_⟩
      have n4_ : Aside0 (w.heap.size ≤ Qc) := ⟨h4_⟩
      have n5_ : Aside0 (Qa ≠ Qc) := ⟨h5_⟩
      have n6_ : Aside0 (Qc ≠ Qa) := ⟨h6_⟩
      have n7_ : Aside0 (Qd ≠ Qc) := ⟨h7_⟩
      have n8_ : Aside0 (Qc ≠ Qd) := ⟨h8_⟩
      have n9_ : Aside0 (w.heap.size ≤ Qd) := ⟨h9_⟩
      have Z4 : Aside0 (w.heap.size ≤ Qd) := ⟨Jy⟩
      have Xr : Aside0 (Qa ≠ Qd) := ⟨Jz⟩
      have Xs : Aside0 (Qd ≠ Qa) := ⟨J0⟩
      have Xt : Aside0 (Below w.heap.size w w11) := ⟨J1⟩
      clear Qb
      clear HB
      clear h0_ h1_ h2_ h3_ h4_ h5_ h6_ h7_ h8_ h9_ Jy Jz J0 J1
      have Qb := n0_
      have Qe := n1_
      have Qf := n2_
      have Zm := n3_
      have Qp := n4_
      have Qh := n5_
      have Q1 := n6_
      have Qr := n7_
      have Qx := n8_
      have Zn := n9_
      have Qq := Z4
      have Qj := Xr
      have Q3 := Xs
      have HB := Xt
      clear n0_ n1_ n2_ n3_ n4_ n5_ n6_ n7_ n8_ n9_ Z4 Xr Xs Xt
      have hHeld : w11.cell? ⟨Qa,0,none⟩ = some (.slice Qs Qn.length Qt) ∧ w11.cell? ⟨Qa,1,none⟩ = some (.int .i64 Qi) ∧ w11.cell? ⟨Qa,2,none⟩ = some (.string Qv) ∧ w11.cell? ⟨Qa,3,none⟩ = some (.int .i64 Qw) ∧ w11.cell? ⟨Qa,4,none⟩ = some (.slice Qy Qu.length Qz) ∧ w11.cell? ⟨Qa,5,none⟩ = some (.int .u8 Qk) ∧ w11.cell? ⟨Qa,6,none⟩ = some (.int .u8 Qm) := hS_
      refine zl (a' := ?_) ?_ ?_
      rotate_left
      ·simp only [putAll,Act.put,qs,qt,qu]
       rfl
      refine one_ (i := 7) (N := some 28) #[true,true,true,true,true,true,true,true,true,true,true,true,true,true,false,false,false,false,false] rfl rfl (one_of HT_.out (by kernel_rfl)) (by decide) (fun K hK => ?_)
      refine zs Try.func27 (by kernel_rfl) rfl #[.slice Qy Qu.length Qz] (by rfl) rfl rfl (by (try simp only [zh,zi,zj]);first | done | rfl | (simp only [zf,zg];rfl)) ?_
      with_reducible refine (tattlelaw08_Few.calls (fun k_ => k_ < w.heap.size) _ _ Qu Qo _ ?Zq A3.out).mono ?_
      (case Zq => exact Kd.V_mk Vk.out (Kd.F_below (Kd.C_F (Kd.heap_int .i64) Vj.out) (by repeat (first | (with_reducible first | exact HB.out | apply qe | apply qf | apply qg | refine qd ?_ Ql.out | refine qd ?_ Qp.out | refine qd ?_ Qq.out) | exact HB.out))))
      rintro e w12 ⟨X6,rfl,ho0,hb⟩
      refine ⟨_,rfl,?_⟩
      have n0_ := qr (zn (qp (ok' := fun k_ => k_ ≠ Qa ∧ k_ ≠ Qc ∧ k_ ≠ Qd) ho0 (fun k_ hk_ => ⟨Or.elim hk_ (fun hs_ => fun e_ => Nat.not_le.2 hs_ (by rw [e_];exact Jv.out)) (fun hn_ => (Kd.freshB (g := Qa) (o := .cells #[.slice Qs Qn.length Qt,.int .i64 Qi,.string Qv,.int .i64 Qw,.slice Qy Qu.length Qz,.int .u8 Qk,.int .u8 Qm] 57 (0,0)) (by (with_reducible repeat (first | refine qa ?_ _ | refine qb ?_ | refine qc ?_ _));exact Qb.out) k_ hn_)),Or.elim hk_ (fun hs_ => fun e_ => Nat.not_le.2 hs_ (by rw [e_];exact Zm.out)) (fun hn_ => (Kd.freshB (g := Qc) (o := .cells #[.slice none 0 0,.int .i64 0] 49 (0,0)) (by (with_reducible repeat (first | refine qa ?_ _ | refine qb ?_ | refine qc ?_ _));exact Qe.out) k_ hn_)),Or.elim hk_ (fun hs_ => fun e_ => Nat.not_le.2 hs_ (by rw [e_];exact Zn.out)) (fun hn_ => (Kd.freshB (g := Qd) (o := .cells #[.string (⟨#[]⟩ : ByteArray),.int .i64 0] 23 (0,0)) (by (with_reducible repeat (first | refine qa ?_ _ | refine qb ?_ | refine qc ?_ _));exact Qf.out) k_ hn_))⟩)) (below_size (by repeat (first | (with_reducible first | exact HB.out | apply qe | apply qf | apply qg | refine qd ?_ Ql.out | refine qd ?_ Qp.out | refine qd ?_ Qq.out) | exact HB.out))))
      have n1_ := qr (qv (g := Qa) (o := .cells #[.slice Qs Qn.length Qt,.int .i64 Qi,.string Qv,.int .i64 Qw,.slice Qy Qu.length Qz,.int .u8 Qk,.int .u8 Qm] 57 (0,0)) (by (with_reducible repeat (first | refine qa ?_ _ | refine qb ?_ | refine qc ?_ _));exact Qb.out) hb)
      have n2_ := qr (qv (g := Qc) (o := .cells #[.slice none 0 0,.int .i64 0] 49 (0,0)) (by (with_reducible repeat (first | refine qa ?_ _ | refine qb ?_ | refine qc ?_ _));exact Qe.out) hb)
      have n3_ := qr (qv (g := Qd) (o := .cells #[.string (⟨#[]⟩ : ByteArray),.int .i64 0] 23 (0,0)) (by (with_reducible repeat (first | refine qa ?_ _ | refine qb ?_ | refine qc ?_ _));exact Qf.out) hb)
      have n4_ := qr (ze (by repeat (first | (with_reducible first | exact HB.out | apply qe | apply qf | apply qg | refine qd ?_ Ql.out | refine qd ?_ Qp.out | refine qd ?_ Qq.out) | exact HB.out)) hb)
      clear Qb
      clear Qe
      clear Qf
      clear HB
      have Q8 := n0_
      have Qb := n1_
      have Qe := n2_
      have Qf := n3_
      have HB := n4_
      clear n0_ n1_ n2_ n3_ n4_
      (try clear hb)
      (try clear hb2)
      (try clear hk)
      (try clear hi)
      (try clear ho0)
      refine hK.out _ _ ⟨(qw Qb.out 0).trans rfl,(qw Qb.out 1).trans rfl,(qw Qb.out 2).trans rfl,(qw Qb.out 3).trans rfl,(qw Qb.out 4).trans rfl,(qw Qb.out 5).trans rfl,(qw Qb.out 6).trans rfl⟩ (fun hHeld => ?_)
      clear hK K
      refine zl (a' := ?_) ?_ ?_
      rotate_left
      ·show Act.put _ (some 28) _ = _
       simp only [Act.put,qs,qt,qu,i64_w,i32_w]
       rfl
      exact zl (by first | (simp only [putAll,Act.put,qs,qt,qu];done) | (simp only [putAll,Act.put,qs,qt,qu];rfl)) (Yj (X6,Qc,Qd) _ ⟨hHeld,(by (with_reducible repeat (first | apply qh | apply qi | apply qj));exact Q8.out),(by (with_reducible repeat (first | refine qa ?_ _ | refine qb ?_ | refine qc ?_ _));exact Qb.out),(by (with_reducible repeat (first | refine qa ?_ _ | refine qb ?_ | refine qc ?_ _));exact Qe.out),(by (with_reducible repeat (first | refine qa ?_ _ | refine qb ?_ | refine qc ?_ _));exact Qf.out),Zm.out,Qp.out,Qh.out,Q1.out,Qr.out,Qx.out,Zn.out,Qq.out,Qj.out,Q3.out,(by repeat (first | (with_reducible first | exact HB.out | apply qe | apply qf | apply qg | refine qd ?_ Ql.out | refine qd ?_ Qp.out | refine qd ?_ Qq.out) | exact HB.out))⟩)
    ·skip
     rintro ⟨X6,Qd⟩ w11 ⟨hS_,h0_,h1_,h2_,h3_,h4_,h5_,h6_,h7_⟩
     have n0_ : Aside0 (Kd.V (Kd.int .i64) 3 w11 w.heap.size (fun k_ => k_ ≠ Qa ∧ k_ ≠ Qd) X6 Qo) := ⟨h0_⟩
     have n1_ : Aside0 (w11.heap[Qa]? = some (.cells #[.slice Qs Qn.length Qt,.int .i64 Qi,.string Qv,.int .i64 Qw,.slice Qy Qu.length Qz,.int .u8 Qk,.int .u8 Qm] 57 (0,0))) := ⟨h1_⟩
     have n2_ : Aside0 (w11.heap[Qd]? = some (.cells #[.string (⟨#[]⟩ : ByteArray),.int .i64 0] 23 (0,0))) := ⟨h2_⟩
     have n3_ : Aside0 (w.heap.size ≤ Qd) := ⟨h3_⟩
     have n4_ : Aside0 (w.heap.size ≤ Qd) := ⟨h4_⟩
     have n5_ : Aside0 (Qa ≠ Qd) := ⟨h5_⟩
     have n6_ : Aside0 (Qd ≠ Qa) := ⟨h6_⟩
     have n7_ : Aside0 (Below w.heap.size w w11) := ⟨h7_⟩
     clear Qb
     clear HB
     clear h0_ h1_ h2_ h3_ h4_ h5_ h6_ h7_
     have Q8 := n0_
     have Qb := n1_
     have Qf := n2_
     have Zn := n3_
     have Qq := n4_
     have Qj := n5_
     have Q3 := n6_
     have HB := n7_
     clear n0_ n1_ n2_ n3_ n4_ n5_ n6_ n7_
     have hHeld : w11.cell? ⟨Qa,0,none⟩ = some (.slice Qs Qn.length Qt) ∧ w11.cell? ⟨Qa,1,none⟩ = some (.int .i64 Qi) ∧ w11.cell? ⟨Qa,2,none⟩ = some (.string Qv) ∧ w11.cell? ⟨Qa,3,none⟩ = some (.int .i64 Qw) ∧ w11.cell? ⟨Qa,4,none⟩ = some (.slice Qy Qu.length Qz) ∧ w11.cell? ⟨Qa,5,none⟩ = some (.int .u8 Qk) ∧ w11.cell? ⟨Qa,6,none⟩ = some (.int .u8 Qm) := hS_
     refine zl (a' := ?_) ?_ ?_
     rotate_left
     ·simp only [putAll,Act.put,qs,qt,qu]
      rfl
     refine one_ (i := 12) (N := some 3) #[true,true,true,true,true,true,true,true,true,true,true,true,true,true,false,false,false,false,false] rfl rfl (one_of HT_.out (by kernel_rfl)) (by decide) (fun K hK => ?_)
     refine box_step ?hg (N := 3) ?hd (cs := #[.slice none 0 0,.int .i64 0]) (t := 49) ?hr ?_;(case hd => rfl);(case hg => rfl);(case hr => first | (go_simp;done) | (go_simp;rfl))
     intro Qc hg w12 hbox hb
     have n0_ := qr (qq (Kd.V_elderB (by (with_reducible repeat (first | apply qh | apply qi | apply qj));exact Q8.out) Qc (zb hg.symm)) hb)
     have n1_ := qr (qv (g := Qa) (o := .cells #[.slice Qs Qn.length Qt,.int .i64 Qi,.string Qv,.int .i64 Qw,.slice Qy Qu.length Qz,.int .u8 Qk,.int .u8 Qm] 57 (0,0)) (by (with_reducible repeat (first | refine qa ?_ _ | refine qb ?_ | refine qc ?_ _));exact Qb.out) hb)
     have n2_ := qr (qv (g := Qd) (o := .cells #[.string (⟨#[]⟩ : ByteArray),.int .i64 0] 23 (0,0)) (by (with_reducible repeat (first | refine qa ?_ _ | refine qb ?_ | refine qc ?_ _));exact Qf.out) hb)
     have n3_ := qr (ze (by repeat (first | (with_reducible first | exact HB.out | apply qe | apply qf | apply qg | refine qd ?_ Ql.out | refine qd ?_ Qq.out) | exact HB.out)) hb)
     have n4_ := qr (hbox)
     have n5_ := qr ((by rw [hg];exact (below_size (by repeat (first | (with_reducible first | exact HB.out | apply qe | apply qf | apply qg | refine qd ?_ Ql.out | refine qd ?_ Qq.out) | exact HB.out))) : w.heap.size ≤ Qc))
     have n6_ := qr ((by rw [hg];exact (below_size (by repeat (first | (with_reducible first | exact HB.out | apply qe | apply qf | apply qg | refine qd ?_ Ql.out | refine qd ?_ Qq.out) | exact HB.out))) : w.heap.size ≤ Qc))
     have n7_ := qr ((by rw [hg];exact qz (blk_lt (g := Qa) (o := .cells #[.slice Qs Qn.length Qt,.int .i64 Qi,.string Qv,.int .i64 Qw,.slice Qy Qu.length Qz,.int .u8 Qk,.int .u8 Qm] 57 (0,0)) (by (with_reducible repeat (first | refine qa ?_ _ | refine qb ?_ | refine qc ?_ _));exact Qb.out)) : Qa ≠ Qc))
     have n8_ := qr ((by rw [hg];exact za (blk_lt (g := Qa) (o := .cells #[.slice Qs Qn.length Qt,.int .i64 Qi,.string Qv,.int .i64 Qw,.slice Qy Qu.length Qz,.int .u8 Qk,.int .u8 Qm] 57 (0,0)) (by (with_reducible repeat (first | refine qa ?_ _ | refine qb ?_ | refine qc ?_ _));exact Qb.out)) : Qc ≠ Qa))
     have n9_ := qr ((by rw [hg];exact qz (blk_lt (g := Qd) (o := .cells #[.string (⟨#[]⟩ : ByteArray),.int .i64 0] 23 (0,0)) (by (with_reducible repeat (first | refine qa ?_ _ | refine qb ?_ | refine qc ?_ _));exact Qf.out)) : Qd ≠ Qc))
     have Z4 := qr ((by rw [hg];exact za (blk_lt (g := Qd) (o := .cells #[.string (⟨#[]⟩ : ByteArray),.int .i64 0] 23 (0,0)) (by (with_reducible repeat (first | refine qa ?_ _ | refine qb ?_ | refine qc ?_ _));exact Qf.out)) : Qc ≠ Qd))
     clear Q8
     clear Qb
     clear Qf
     clear HB
     have Q8 := n0_
     have Qb := n1_
     have Qf := n2_
     have HB := n3_
     have Qe := n4_
     have Zm := n5_
     have Qp := n6_
     have Qh := n7_
     have Q1 := n8_
     have Qr := n9_
     have Qx := Z4
     clear n0_ n1_ n2_ n3_ n4_ n5_ n6_ n7_ n8_ n9_ Z4
     clear hb hbox hg
     refine hK.out _ _ ⟨(qw Qb.out 0).trans rfl,(qw Qb.out 1).trans rfl,(qw Qb.out 2).trans rfl,(qw Qb.out 3).trans rfl,(qw Qb.out 4).trans rfl,(qw Qb.out 5).trans rfl,(qw Qb.out 6).trans rfl⟩ (fun hHeld => ?_)
     clear hK K
     refine zl (a' := ?_) ?_ ?_
     rotate_left
     ·show Act.put _ (some 3) _ = _
      simp only [Act.put,qs,qt,qu,i64_w,i32_w]
      rfl
     exact zl (by first | (simp only [putAll,Act.put,qs,qt,qu];done) | (simp only [putAll,Act.put,qs,qt,qu];rfl)) (Yj (X6,Qc,Qd) _ ⟨hHeld,(by (with_reducible repeat (first | apply qh | apply qi | apply qj));exact qp Q8.out (fun _ hk => ⟨hk.1.1,⟨hk.2,hk.1.2⟩⟩)),(by (with_reducible repeat (first | refine qa ?_ _ | refine qb ?_ | refine qc ?_ _));exact Qb.out),(by (with_reducible repeat (first | refine qa ?_ _ | refine qb ?_ | refine qc ?_ _));exact Qe.out),(by (with_reducible repeat (first | refine qa ?_ _ | refine qb ?_ | refine qc ?_ _));exact Qf.out),Zm.out,Qp.out,Qh.out,Q1.out,Qr.out,Qx.out,Zn.out,Qq.out,Qj.out,Q3.out,(by repeat (first | (with_reducible first | exact HB.out | apply qe | apply qf | apply qg | refine qd ?_ Ql.out | refine qd ?_ Qq.out | refine qd ?_ Qp.out) | exact HB.out))⟩)
   ·skip
    rintro ⟨X6,Qc⟩ w11 ⟨hS_,h0_,h1_,h2_,h3_,h4_,h5_,h6_,h7_⟩
    have n0_ : Aside0 (Kd.V (Kd.int .i64) 3 w11 w.heap.size (fun k_ => k_ ≠ Qa ∧ k_ ≠ Qc) X6 Qo) := ⟨h0_⟩
    have n1_ : Aside0 (w11.heap[Qa]? = some (.cells #[.slice Qs Qn.length Qt,.int .i64 Qi,.string Qv,.int .i64 Qw,.slice Qy Qu.length Qz,.int .u8 Qk,.int .u8 Qm] 57 (0,0))) := ⟨h1_⟩
    have n2_ : Aside0 (w11.heap[Qc]? = some (.cells #[.slice none 0 0,.int .i64 0] 49 (0,0))) := ⟨h2_⟩
    have n3_ : Aside0 (w.heap.size ≤ Qc) := ⟨h3_⟩
    have n4_ : Aside0 (w.heap.size ≤ Qc) := ⟨h4_⟩
    have n5_ : Aside0 (Qa ≠ Qc) := ⟨h5_⟩
    have n6_ : Aside0 (Qc ≠ Qa) := ⟨h6_⟩
    have n7_ : Aside0 (Below w.heap.size w w11) := ⟨h7_⟩
    clear Qb
    clear HB
    clear h0_ h1_ h2_ h3_ h4_ h5_ h6_ h7_
    have Q8 := n0_
    have Qb := n1_
    have Qe := n2_
    have Zm := n3_
    have Qp := n4_
    have Qh := n5_
    have Q1 := n6_
    have HB := n7_
    clear n0_ n1_ n2_ n3_ n4_ n5_ n6_ n7_
    have hHeld : w11.cell? ⟨Qa,0,none⟩ = some (.slice Qs Qn.length Qt) ∧ w11.cell? ⟨Qa,1,none⟩ = some (.int .i64 Qi) ∧ w11.cell? ⟨Qa,2,none⟩ = some (.string Qv) ∧ w11.cell? ⟨Qa,3,none⟩ = some (.int .i64 Qw) ∧ w11.cell? ⟨Qa,4,none⟩ = some (.slice Qy Qu.length Qz) ∧ w11.cell? ⟨Qa,5,none⟩ = some (.int .u8 Qk) ∧ w11.cell? ⟨Qa,6,none⟩ = some (.int .u8 Qm) := hS_
    refine zl (a' := ?_) ?_ ?_
    rotate_left
    ·simp only [putAll,Act.put,qs,qt,qu]
     rfl
    refine one_ (i := 13) (N := some 4) #[true,true,true,true,true,true,true,true,true,true,true,true,true,true,false,false,false,false,false] rfl rfl (one_of HT_.out (by kernel_rfl)) (by decide) (fun K hK => ?_)
    refine box_step ?hg (N := 4) ?hd (cs := #[.string (⟨#[]⟩ : ByteArray),.int .i64 0]) (t := 23) ?hr ?_;(case hd => rfl);(case hg => rfl);(case hr => first | (go_simp;done) | (go_simp;rfl))
    intro Qd hg w12 hbox hb
    have n0_ := qr (qq (Kd.V_elderB (by (with_reducible repeat (first | apply qh | apply qi | apply qj));exact Q8.out) Qd (zb hg.symm)) hb)
    have n1_ := qr (qv (g := Qa) (o := .cells #[.slice Qs Qn.length Qt,.int .i64 Qi,.string Qv,.int .i64 Qw,.slice Qy Qu.length Qz,.int .u8 Qk,.int .u8 Qm] 57 (0,0)) (by (with_reducible repeat (first | refine qa ?_ _ | refine qb ?_ | refine qc ?_ _));exact Qb.out) hb)
    have n2_ := qr (qv (g := Qc) (o := .cells #[.slice none 0 0,.int .i64 0] 49 (0,0)) (by (with_reducible repeat (first | refine qa ?_ _ | refine qb ?_ | refine qc ?_ _));exact Qe.out) hb)
    have n3_ := qr (ze (by repeat (first | (with_reducible first | exact HB.out | apply qe | apply qf | apply qg | refine qd ?_ Ql.out | refine qd ?_ Qp.out) | exact HB.out)) hb)
    have n4_ := qr (hbox)
    have n5_ := qr ((by rw [hg];exact (below_size (by repeat (first | (with_reducible first | exact HB.out | apply qe | apply qf | apply qg | refine qd ?_ Ql.out | refine qd ?_ Qp.out) | exact HB.out))) : w.heap.size ≤ Qd))
    have n6_ := qr ((by rw [hg];exact (below_size (by repeat (first | (with_reducible first | exact HB.out | apply qe | apply qf | apply qg | refine qd ?_ Ql.out | refine qd ?_ Qp.out) | exact HB.out))) : w.heap.size ≤ Qd))
    have n7_ := qr ((by rw [hg];exact qz (blk_lt (g := Qa) (o := .cells #[.slice Qs Qn.length Qt,.int .i64 Qi,.string Qv,.int .i64 Qw,.slice Qy Qu.length Qz,.int .u8 Qk,.int .u8 Qm] 57 (0,0)) (by (with_reducible repeat (first | refine qa ?_ _ | refine qb ?_ | refine qc ?_ _));exact Qb.out)) : Qa ≠ Qd))
    have n8_ := qr ((by rw [hg];exact za (blk_lt (g := Qa) (o := .cells #[.slice Qs Qn.length Qt,.int .i64 Qi,.string Qv,.int .i64 Qw,.slice Qy Qu.length Qz,.int .u8 Qk,.int .u8 Qm] 57 (0,0)) (by (with_reducible repeat (first | refine qa ?_ _ | refine qb ?_ | refine qc ?_ _));exact Qb.out)) : Qd ≠ Qa))
    have n9_ := qr ((by rw [hg];exact qz (blk_lt (g := Qc) (o := .cells #[.slice none 0 0,.int .i64 0] 49 (0,0)) (by (with_reducible repeat (first | refine qa ?_ _ | refine qb ?_ | refine qc ?_ _));exact Qe.out)) : Qc ≠ Qd))
    have Z4 := qr ((by rw [hg];exact za (blk_lt (g := Qc) (o := .cells #[.slice none 0 0,.int .i64 0] 49 (0,0)) (by (with_reducible repeat (first | refine qa ?_ _ | refine qb ?_ | refine qc ?_ _));exact Qe.out)) : Qd ≠ Qc))
    clear Q8
    clear Qb
    clear Qe
    clear HB
    have Q8 := n0_
    have Qb := n1_
    have Qe := n2_
    have HB := n3_
    have Qf := n4_
    have Zn := n5_
    have Qq := n6_
    have Qj := n7_
    have Q3 := n8_
    have Qx := n9_
    have Qr := Z4
    clear n0_ n1_ n2_ n3_ n4_ n5_ n6_ n7_ n8_ n9_ Z4
    clear hb hbox hg
    refine hK.out _ _ ⟨(qw Qb.out 0).trans rfl,(qw Qb.out 1).trans rfl,(qw Qb.out 2).trans rfl,(qw Qb.out 3).trans rfl,(qw Qb.out 4).trans rfl,(qw Qb.out 5).trans rfl,(qw Qb.out 6).trans rfl⟩ (fun hHeld => ?_)
    clear hK K
    refine zl (a' := ?_) ?_ ?_
    rotate_left
    ·show Act.put _ (some 4) _ = _
     simp only [Act.put,qs,qt,qu,i64_w,i32_w]
     rfl
    exact zl (by first | (simp only [putAll,Act.put,qs,qt,qu];done) | (simp only [putAll,Act.put,qs,qt,qu];rfl)) (Yj (X6,Qc,Qd) _ ⟨hHeld,(by (with_reducible repeat (first | apply qh | apply qi | apply qj));exact qp Q8.out (fun _ hk => ⟨hk.1.1,⟨hk.1.2,hk.2⟩⟩)),(by (with_reducible repeat (first | refine qa ?_ _ | refine qb ?_ | refine qc ?_ _));exact Qb.out),(by (with_reducible repeat (first | refine qa ?_ _ | refine qb ?_ | refine qc ?_ _));exact Qe.out),(by (with_reducible repeat (first | refine qa ?_ _ | refine qb ?_ | refine qc ?_ _));exact Qf.out),Zm.out,Qp.out,Qh.out,Q1.out,Qr.out,Qx.out,Zn.out,Qq.out,Qj.out,Q3.out,(by repeat (first | (with_reducible first | exact HB.out | apply qe | apply qf | apply qg | refine qd ?_ Ql.out | refine qd ?_ Qp.out | refine qd ?_ Qq.out) | exact HB.out))⟩)
  rintro ⟨X6,Qc,Qd⟩ w12 ⟨hS_,h0_,h1_,h2_,h3_,h4_,h5_,h6_,h7_,h8_,h9_,Jy,Jz,J0,J1,Ds⟩
  have n0_ : Aside0 (Kd.V (Kd.int .i64) 3 w12 w.heap.size (fun k_ => k_ ≠ Qa ∧ k_ ≠ Qc ∧ k_ ≠ Qd) X6 Qo) := ⟨h0_⟩
  have n1_ : Aside0 (w12.heap[Qa]? = some (.cells #[.slice Qs Qn.length Qt,.int .i64 Qi,.string Qv,.int .i64 Qw,.slice Qy Qu.length Qz,.int .u8 Qk,.int .u8 Qm] 57 (0,0))) := ⟨h1_⟩
  have n2_ : Aside0 (w12.heap[Qc]? = some (.cells #[.slice none 0 0,.int .i64 0] 49 (0,0))) := ⟨h2_⟩
  have n3_ : Aside0 (w12.heap[Qd]? = some (.cells #[.string (⟨#[]⟩ : ByteArray),.int .i64 0] 23 (0,0))) := ⟨h3_⟩
  have n4_ : Aside0 (w.heap.size ≤ Qc) := ⟨h4_⟩
  have n5_ : Aside0 (w.heap.size ≤ Qc) := ⟨h5_⟩
  have n6_ : Aside0 (Qa ≠ Qc) := ⟨h6_⟩
  have n7_ : Aside0 (Qc ≠ Qa) := ⟨h7_⟩
  have n8_ : Aside0 (Qd ≠ Qc) := ⟨h8_⟩
  have n9_ : Aside0 (Qc ≠ Qd) := ⟨h9_⟩
  have Z4 : Aside0 (w.heap.size ≤ Qd) := ⟨Jy⟩
  have Xr : Aside0 (w.heap.size ≤ Qd) := ⟨Jz⟩
  have Xs : Aside0 (Qa ≠ Qd) := ⟨J0⟩
  have Xt : Aside0 (Qd ≠ Qa) := ⟨J1⟩
  have X8 : Aside0 (Below w.heap.size w w12) := ⟨Ds⟩
  clear Qb
  clear HB
  clear h0_ h1_ h2_ h3_ h4_ h5_ h6_ h7_ h8_ h9_ Jy Jz J0 J1 Ds
  have Q8 := n0_
  have Qb := n1_
  have Qe := n2_
  have Qf := n3_
  have Zm := n4_
  have Qp := n5_
  have Qh := n6_
  have Q1 := n7_
  have Qr := n8_
  have Qx := n9_
  have Zn := Z4
  have Qq := Xr
  have Qj := Xs
  have Q3 := Xt
  have HB := X8
  clear n0_ n1_ n2_ n3_ n4_ n5_ n6_ n7_ n8_ n9_ Z4 Xr Xs Xt X8
  have hHeld : w12.cell? ⟨Qa,0,none⟩ = some (.slice Qs Qn.length Qt) ∧ w12.cell? ⟨Qa,1,none⟩ = some (.int .i64 Qi) ∧ w12.cell? ⟨Qa,2,none⟩ = some (.string Qv) ∧ w12.cell? ⟨Qa,3,none⟩ = some (.int .i64 Qw) ∧ w12.cell? ⟨Qa,4,none⟩ = some (.slice Qy Qu.length Qz) ∧ w12.cell? ⟨Qa,5,none⟩ = some (.int .u8 Qk) ∧ w12.cell? ⟨Qa,6,none⟩ = some (.int .u8 Qm) := hS_
  refine zl (a' := ?_) ?_ ?_
  rotate_left
  ·simp only [putAll,Act.put,qs,qt,qu]
   rfl
  refine one_ (i := 14) (N := none) #[true,true,true,true,true,true,true,true,true,true,true,true,true,true,true,false,false,false,false] rfl rfl (one_of HT_.out (by kernel_rfl)) (by decide) (fun K hK => ?_)
  have Ro : w12.cell? ⟨Qc,0,none⟩ = some (.slice none 0 0) := (qw Qe.out 0).trans rfl
  have P8 := qy Qe.out 0
  have U3 := Qh.out
  have U4 := Qr.out
  have U5 := Q1.out
  have U6 := Qx.out
  have Rp : w12.cell? ⟨Qc,1,none⟩ = some (.int .i64 0) := (qw Qe.out 1).trans rfl
  have P9 := qy Qe.out 1
  have U7 := Qh.out
  have U8 := Qr.out
  have U9 := Q1.out
  have Ma := Qx.out
  refine skip_ (w1 := ?_) (by rfl) rfl ?_ ?_
  rotate_left
  ·go_simp
   rfl
  refine hK.out _ _ ⟨((cell_far (p := ⟨Qc,_,none⟩) Qh.out _).trans (((cell_far (p := ⟨Qc,_,none⟩) Qh.out _).trans (hHeld.1)))),((cell_far (p := ⟨Qc,_,none⟩) Qh.out _).trans (((cell_far (p := ⟨Qc,_,none⟩) Qh.out _).trans (hHeld.2.1)))),((cell_far (p := ⟨Qc,_,none⟩) Qh.out _).trans (((cell_far (p := ⟨Qc,_,none⟩) Qh.out _).trans (hHeld.2.2.1)))),((cell_far (p := ⟨Qc,_,none⟩) Qh.out _).trans (((cell_far (p := ⟨Qc,_,none⟩) Qh.out _).trans (hHeld.2.2.2.1)))),((cell_far (p := ⟨Qc,_,none⟩) Qh.out _).trans (((cell_far (p := ⟨Qc,_,none⟩) Qh.out _).trans (hHeld.2.2.2.2.1)))),((cell_far (p := ⟨Qc,_,none⟩) Qh.out _).trans (((cell_far (p := ⟨Qc,_,none⟩) Qh.out _).trans (hHeld.2.2.2.2.2.1)))),((cell_far (p := ⟨Qc,_,none⟩) Qh.out _).trans (((cell_far (p := ⟨Qc,_,none⟩) Qh.out _).trans (hHeld.2.2.2.2.2.2))))⟩ (fun hHeld => ?_)
  clear hK K
  refine one_ (i := 15) (N := none) #[true,true,true,true,true,true,true,true,true,true,true,true,true,true,true,true,false,false,false] rfl rfl (one_of HT_.out (by kernel_rfl)) (by decide) (fun K hK => ?_)
  have Rq : w12.cell? ⟨Qd,0,none⟩ = some (.string (⟨#[]⟩ : ByteArray)) := (qw Qf.out 0).trans rfl
  have Wa := qy Qf.out 0
  have Mb := Qj.out
  have Mc := Qx.out
  have Md := Q3.out
  have Me := Qr.out
  have Rr : w12.cell? ⟨Qd,1,none⟩ = some (.int .i64 0) := (qw Qf.out 1).trans rfl
  have Wb := qy Qf.out 1
  have Mf := Qj.out
  have Mg := Qx.out
  have Mh := Q3.out
  have Mi := Qr.out
  refine skip_ (w1 := ?_) (by rfl) rfl ?_ ?_
  rotate_left
  ·go_simp
   rfl
  refine hK.out _ _ ⟨((cell_far (p := ⟨Qd,_,none⟩) Qj.out _).trans (((cell_far (p := ⟨Qd,_,none⟩) Qj.out _).trans (hHeld.1)))),((cell_far (p := ⟨Qd,_,none⟩) Qj.out _).trans (((cell_far (p := ⟨Qd,_,none⟩) Qj.out _).trans (hHeld.2.1)))),((cell_far (p := ⟨Qd,_,none⟩) Qj.out _).trans (((cell_far (p := ⟨Qd,_,none⟩) Qj.out _).trans (hHeld.2.2.1)))),((cell_far (p := ⟨Qd,_,none⟩) Qj.out _).trans (((cell_far (p := ⟨Qd,_,none⟩) Qj.out _).trans (hHeld.2.2.2.1)))),((cell_far (p := ⟨Qd,_,none⟩) Qj.out _).trans (((cell_far (p := ⟨Qd,_,none⟩) Qj.out _).trans (hHeld.2.2.2.2.1)))),((cell_far (p := ⟨Qd,_,none⟩) Qj.out _).trans (((cell_far (p := ⟨Qd,_,none⟩) Qj.out _).trans (hHeld.2.2.2.2.2.1)))),((cell_far (p := ⟨Qd,_,none⟩) Qj.out _).trans (((cell_far (p := ⟨Qd,_,none⟩) Qj.out _).trans (hHeld.2.2.2.2.2.2))))⟩ (fun hHeld => ?_)
  clear hK K
  refine zk (i := 16) (N := some 5) (v := ?_) (a' := ?_) #[true,true,true,true,true,true,true,true,true,true,true,true,true,true,true,true,true,false,false] rfl rfl (any_of HT_.out (by kernel_rfl)) (fun _ _ _ h => h) (Or.inl ⟨by rfl,?_⟩) ?_ ?_
  rotate_left
  ·intro w'
   go_simp
   with_reducible rfl
  rotate_left
  ·simp only [Act.put,qs,qt,qu,i64_w,i32_w]
   rfl
  refine zk (i := 17) (N := some 6) (v := ?_) (a' := ?_) #[true,true,true,true,true,true,true,true,true,true,true,true,true,true,true,true,true,true,false] rfl rfl (any_of HT_.out (by kernel_rfl)) (fun _ _ _ h => h) (Or.inl ⟨by rfl,?_⟩) ?_ ?_
  rotate_left
  ·intro w'
   go_simp
   with_reducible rfl
  rotate_left
  ·simp only [Act.put,qs,qt,qu,i64_w,i32_w]
   rfl
  refine zk (i := 18) (N := some 7) (v := ?_) (a' := ?_) #[true,true,true,true,true,true,true,true,true,true,true,true,true,true,true,true,true,true,true] rfl rfl (any_of HT_.out (by kernel_rfl)) (fun _ _ _ h => h) (Or.inl ⟨by rfl,?_⟩) ?_ ?_
  rotate_left
  ·intro w'
   go_simp
   with_reducible rfl
  rotate_left
  ·simp only [Act.put,qs,qt,qu,i64_w,i32_w]
   rfl
  refine done_ (done_of HT_.out (by kernel_rfl)) ?_
  have n0_ : Aside0 (Kd.V (Kd.int .i64) 3 ((((w12.setCell ⟨Qc,0,none⟩ (.slice Qs Qn.length Qt)).setCell ⟨Qc,1,none⟩ (.int .i64 Qi)).setCell ⟨Qd,0,none⟩ (.string Zg)).setCell ⟨Qd,1,none⟩ (.int .i64 Zi)) w.heap.size (fun k_ => k_ ≠ Qa ∧ k_ ≠ Qc ∧ k_ ≠ Qd) X6 Qo) := ⟨by (with_reducible repeat (first | apply qh | apply qi | apply qj));exact qp (qn (p := ⟨Qd,1,none⟩) (qn (p := ⟨Qd,0,none⟩) (qn (p := ⟨Qc,1,none⟩) (qn (p := ⟨Qc,0,none⟩) (qp (qp Q8.out (fun k_ hk => (⟨hk,hk.2.1⟩ : _ ∧ k_ ≠ Qc))) (fun k_ hk => (⟨hk,hk.1.2.2⟩ : _ ∧ k_ ≠ Qd))) (fun _ hk => hk.1.2) (.slice Qs Qn.length Qt)) (fun _ hk => hk.1.2) (.int .i64 Qi)) (fun _ hk => hk.2) (.string Zg)) (fun _ hk => hk.2) (.int .i64 Zi)) (fun _ hk => ⟨hk.1.1.1,⟨hk.1.1.2.1,hk.1.1.2.2⟩⟩)⟩
  have n1_ : Aside0 (((((w12.setCell ⟨Qc,0,none⟩ (.slice Qs Qn.length Qt)).setCell ⟨Qc,1,none⟩ (.int .i64 Qi)).setCell ⟨Qd,0,none⟩ (.string Zg)).setCell ⟨Qd,1,none⟩ (.int .i64 Zi)).heap[Qa]? = some (.cells #[.slice Qs Qn.length Qt,.int .i64 Qi,.string Qv,.int .i64 Qw,.slice Qy Qu.length Qz,.int .u8 Qk,.int .u8 Qm] 57 (0,0))) := ⟨by (with_reducible repeat (first | refine qa ?_ _ | refine qb ?_ | refine qc ?_ _));refine qx ?_ Qj.out _;(with_reducible repeat (first | refine qa ?_ _ | refine qb ?_ | refine qc ?_ _));refine qx ?_ Qj.out _;(with_reducible repeat (first | refine qa ?_ _ | refine qb ?_ | refine qc ?_ _));refine qx ?_ Qh.out _;(with_reducible repeat (first | refine qa ?_ _ | refine qb ?_ | refine qc ?_ _));refine qx ?_ Qh.out _;(with_reducible repeat (first | refine qa ?_ _ | refine qb ?_ | refine qc ?_ _));exact Qb.out⟩
  have n2_ : Aside0 (((((w12.setCell ⟨Qc,0,none⟩ (.slice Qs Qn.length Qt)).setCell ⟨Qc,1,none⟩ (.int .i64 Qi)).setCell ⟨Qd,0,none⟩ (.string Zg)).setCell ⟨Qd,1,none⟩ (.int .i64 Zi)).heap[Qc]? = some (.cells #[.slice Qs Qn.length Qt,.int .i64 Qi] 49 (0,0))) := ⟨by (with_reducible repeat (first | refine qa ?_ _ | refine qb ?_ | refine qc ?_ _));refine qx ?_ Qx.out _;(with_reducible repeat (first | refine qa ?_ _ | refine qb ?_ | refine qc ?_ _));refine qx ?_ Qx.out _;(with_reducible repeat (first | refine qa ?_ _ | refine qb ?_ | refine qc ?_ _));refine blk_put (cs := #[.slice Qs Qn.length Qt,.int .i64 0]) ?_ 1 _ rfl;(with_reducible repeat (first | refine qa ?_ _ | refine qb ?_ | refine qc ?_ _));refine blk_put (cs := #[.slice none 0 0,.int .i64 0]) ?_ 0 _ rfl;(with_reducible repeat (first | refine qa ?_ _ | refine qb ?_ | refine qc ?_ _));exact Qe.out⟩
  have n3_ : Aside0 (((((w12.setCell ⟨Qc,0,none⟩ (.slice Qs Qn.length Qt)).setCell ⟨Qc,1,none⟩ (.int .i64 Qi)).setCell ⟨Qd,0,none⟩ (.string Zg)).setCell ⟨Qd,1,none⟩ (.int .i64 Zi)).heap[Qd]? = some (.cells #[.string Zg,.int .i64 Zi] 23 (0,0))) := ⟨by (with_reducible repeat (first | refine qa ?_ _ | refine qb ?_ | refine qc ?_ _));refine blk_put (cs := #[.string Zg,.int .i64 0]) ?_ 1 _ rfl;(with_reducible repeat (first | refine qa ?_ _ | refine qb ?_ | refine qc ?_ _));refine blk_put (cs := #[.string (⟨#[]⟩ : ByteArray),.int .i64 0]) ?_ 0 _ rfl;(with_reducible repeat (first | refine qa ?_ _ | refine qb ?_ | refine qc ?_ _));refine qx ?_ Qr.out _;(with_reducible repeat (first | refine qa ?_ _ | refine qb ?_ | refine qc ?_ _));refine qx ?_ Qr.out _;(with_reducible repeat (first | refine qa ?_ _ | refine qb ?_ | refine qc ?_ _));exact Qf.out⟩
  have n4_ : Aside0 (Below w.heap.size w ((((w12.setCell ⟨Qc,0,none⟩ (.slice Qs Qn.length Qt)).setCell ⟨Qc,1,none⟩ (.int .i64 Qi)).setCell ⟨Qd,0,none⟩ (.string Zg)).setCell ⟨Qd,1,none⟩ (.int .i64 Zi))) := ⟨by repeat (first | (with_reducible first | exact HB.out | apply qe | apply qf | apply qg | refine qd ?_ Ql.out | refine qd ?_ Qp.out | refine qd ?_ Qq.out) | exact HB.out)⟩
  (try clear Q8)
  (try clear Qb)
  (try clear Qe)
  (try clear Qf)
  (try clear HB)
  generalize ((((w12.setCell ⟨Qc,0,none⟩ (.slice Qs Qn.length Qt)).setCell ⟨Qc,1,none⟩ (.int .i64 Qi)).setCell ⟨Qd,0,none⟩ (.string Zg)).setCell ⟨Qd,1,none⟩ (.int .i64 Zi)) = w17 at n0_ n1_ n2_ n3_ n4_ ⊢
  have Q8 := n0_
  have Qb := n1_
  have Qe := n2_
  have Qf := n3_
  have HB := n4_
  clear n0_ n1_ n2_ n3_ n4_
  have Wc := Q1.out
  have Wd := Qh.out
  have We := Qx.out
  have Wf := Qr.out
  have Y2 : w17.cell? ⟨Qc,0,none⟩ = some (.slice Qs Qn.length Qt) := (qw Qe.out 0).trans rfl
  have Y3 : w17.cell? ⟨Qc,1,none⟩ = some (.int .i64 Qi) := (qw Qe.out 1).trans rfl
  have Y4 := qy Qe.out 0
  have Y5 := qy Qe.out 1
  go_upto_region 3 with (first | ((with_reducible refine zc (f := 27) rfl ?_);refine zr (some 35) rfl rfl Try.func27 (by kernel_rfl) rfl #[.slice Qs Qn.length Qt] rfl (by (try simp only [zh,zi,zj]);first | done | rfl | (simp only [zf,zg];rfl)) ?_;(with_reducible refine (tattlelaw08_Few.calls (fun k_ => k_ < w.heap.size) _ _ Qn Zb _ ?Zq A4.out).mono ?_);(case Zq => exact Kd.V_mk Dq.out (Kd.F_below (Kd.C_F (Kd.heap_int .i64) Dp.out) (by repeat (first | (with_reducible first | exact HB.out | apply qe | apply qf | apply qg | refine qd ?_ Ql.out | refine qd ?_ Qp.out | refine qd ?_ Qq.out) | exact HB.out))));rintro e w21 ⟨Rs,rfl,ho0,hb⟩;refine ⟨_,rfl,?_⟩;have n0_ := qr (qq (by (with_reducible repeat (first | apply qh | apply qi | apply qj));exact Q8.out) hb);have n1_ := qr (zn (qp (ok' := fun k_ => k_ ≠ Qa ∧ k_ ≠ Qc ∧ k_ ≠ Qd) ho0 (fun k_ hk_ => ⟨Or.elim hk_ (fun hs_ => fun e_ => Nat.not_le.2 hs_ (by rw [e_];exact Jv.out)) (fun hn_ => (Kd.freshB (g := Qa) (o := .cells #[.slice Qs Qn.length Qt,.int .i64 Qi,.string Qv,.int .i64 Qw,.slice Qy Qu.length Qz,.int .u8 Qk,.int .u8 Qm] 57 (0,0)) (by (with_reducible repeat (first | refine qa ?_ _ | refine qb ?_ | refine qc ?_ _));exact Qb.out) k_ hn_)),Or.elim hk_ (fun hs_ => fun e_ => Nat.not_le.2 hs_ (by rw [e_];exact Zm.out)) (fun hn_ => (Kd.freshB (g := Qc) (o := .cells #[.slice Qs Qn.length Qt,.int .i64 Qi] 49 (0,0)) (by (with_reducible repeat (first | refine qa ?_ _ | refine qb ?_ | refine qc ?_ _));exact Qe.out) k_ hn_)),Or.elim hk_ (fun hs_ => fun e_ => Nat.not_le.2 hs_ (by rw [e_];exact Zn.out)) (fun hn_ => (Kd.freshB (g := Qd) (o := .cells #[.string Zg,.int .i64 Zi] 23 (0,0)) (by (with_reducible repeat (first | refine qa ?_ _ | refine qb ?_ | refine qc ?_ _));exact Qf.out) k_ hn_))⟩)) (below_size (by repeat (first | (with_reducible first | exact HB.out | apply qe | apply qf | apply qg | refine qd ?_ Ql.out | refine qd ?_ Qp.out | refine qd ?_ Qq.out) | exact HB.out))));have n2_ := qr (qv (g := Qa) (o := .cells #[.slice Qs Qn.length Qt,.int .i64 Qi,.string Qv,.int .i64 Qw,.slice Qy Qu.length Qz,.int .u8 Qk,.int .u8 Qm] 57 (0,0)) (by (with_reducible repeat (first | refine qa ?_ _ | refine qb ?_ | refine qc ?_ _));exact Qb.out) hb);have n3_ := qr (qv (g := Qc) (o := .cells #[.slice Qs Qn.length Qt,.int .i64 Qi] 49 (0,0)) (by (with_reducible repeat (first | refine qa ?_ _ | refine qb ?_ | refine qc ?_ _));exact Qe.out) hb);have n4_ := qr (qv (g := Qd) (o := .cells #[.string Zg,.int .i64 Zi] 23 (0,0)) (by (with_reducible repeat (first | refine qa ?_ _ | refine qb ?_ | refine qc ?_ _));exact Qf.out) hb);have n5_ := qr (ze (by repeat (first | (with_reducible first | exact HB.out | apply qe | apply qf | apply qg | refine qd ?_ Ql.out | refine qd ?_ Qp.out | refine qd ?_ Qq.out) | exact HB.out)) hb);clear Q8;clear Qb;clear Qe;clear Qf;clear HB;have Q8 := n0_;have Zl := n1_;have Qb := n2_;have Qe := n3_;have Qf := n4_;have HB := n5_;clear n0_ n1_ n2_ n3_ n4_ n5_;(try clear hb);(try clear hb2);(try clear hk);(try clear hi);(try clear ho0);obtain ⟨Xa,Xb,Lh⟩ := Kd.V_slice Zl.out;subst Lh;have Y6 : w21.cell? ⟨Qc,0,none⟩ = some (.slice Qs Qn.length Qt) := (qw Qe.out 0).trans rfl;have Y7 : w21.cell? ⟨Qc,1,none⟩ = some (.int .i64 Qi) := (qw Qe.out 1).trans rfl;have Y8 := qy Qe.out 0;have Y9 := qy Qe.out 1))
  (try simp only [Act.put,qs,qt,qu])
  go_cut [59] (fun v59 wc => ∃ (kq : Nat) (Vm : Bool),v59 = .bool Vm ∧ Aside0 (tattlelaw08_TurnGone.j0 kq Qo Qk Qm Vm Zb Qi Zg Zi = some r) ∧ Aside0 (kq ≤ k) ∧ Aside0 (Kd.V (Kd.int .i64) 3 wc w.heap.size (fun k_ => k_ ≠ Qa ∧ k_ ≠ Qc ∧ k_ ≠ Qd) X6 Qo) ∧ Aside0 (Kd.V (Kd.int .i64) 3 wc w.heap.size (fun k_ => k_ ≠ Qa ∧ k_ ≠ Qc ∧ k_ ≠ Qd) (.slice Xa Zb.length Xb) Zb) ∧ Aside0 (wc.heap[Qa]? = some (.cells #[(.slice Qs Qn.length Qt),.int .i64 Qi,.string Qv,.int .i64 Qw,(.slice Qy Qu.length Qz),.int .u8 Qk,.int .u8 Qm] 57 (0,0))) ∧ Aside0 (wc.heap[Qc]? = some (.cells #[(.slice Xa Zb.length Xb),.int .i64 Qi] 49 (0,0))) ∧ Aside0 (wc.heap[Qd]? = some (.cells #[.string Zg,.int .i64 Zi] 23 (0,0))) ∧ Aside0 (Below w.heap.size w wc))
  case first =>
   have H := HC5.out
   clear HC5
   by_cases c24 : (Qo.length : Int) > 10
   ·rw [if_pos c24] at H
    have c24b0 : decide (10 < (Qo.length : Int)) = true := decide_eq_true c24
    have c24b1 : decide (10 < Qo.length) = true := decide_eq_true (by omega)
    clear c24
    (first | rw [c24b0] | (simp only [i64_w,i32_w];rw [c24b0]) | skip)
    have H' := qr H
    clear H
    obtain ⟨Rt,Ru,Li⟩ := Kd.V_slice Q8.out
    subst Li
    go_wp2
    go_meet
    case rel => exact ⟨_,(true),(by first | rfl | (simp;done) | (simp [*];done)),H',⟨by first | omega | exact zm _⟩,⟨by (with_reducible repeat (first | apply qh | apply qi | apply qj));exact qp (qn (p := ⟨Qc,0,none⟩) (qp Q8.out (fun k_ hk => (⟨hk,hk.2.1⟩ : _ ∧ k_ ≠ Qc))) (fun _ hk => hk.2) (.slice Xa Zb.length Xb)) (fun _ hk => ⟨hk.1.1,⟨hk.1.2.1,hk.1.2.2⟩⟩)⟩,⟨by (with_reducible repeat (first | apply qh | apply qi | apply qj));exact qp (qn (p := ⟨Qc,0,none⟩) (qp Zl.out (fun k_ hk => (⟨hk,hk.2.1⟩ : _ ∧ k_ ≠ Qc))) (fun _ hk => hk.2) (.slice Xa Zb.length Xb)) (fun _ hk => ⟨hk.1.1,⟨hk.1.2.1,hk.1.2.2⟩⟩)⟩,⟨by (with_reducible repeat (first | refine qa ?_ _ | refine qb ?_ | refine qc ?_ _));refine qx ?_ Qh.out _;(with_reducible repeat (first | refine qa ?_ _ | refine qb ?_ | refine qc ?_ _));exact Qb.out⟩,⟨by (with_reducible repeat (first | refine qa ?_ _ | refine qb ?_ | refine qc ?_ _));refine blk_put (cs := #[.slice Qs Qn.length Qt,.int .i64 Qi]) ?_ 0 _ rfl;(with_reducible repeat (first | refine qa ?_ _ | refine qb ?_ | refine qc ?_ _));exact Qe.out⟩,⟨by (with_reducible repeat (first | refine qa ?_ _ | refine qb ?_ | refine qc ?_ _));refine qx ?_ Qr.out _;(with_reducible repeat (first | refine qa ?_ _ | refine qb ?_ | refine qc ?_ _));exact Qf.out⟩,⟨by repeat (first | (with_reducible first | exact HB.out | apply qe | apply qf | apply qg | refine qd ?_ Ql.out | refine qd ?_ Qp.out | refine qd ?_ Qq.out) | exact HB.out)⟩⟩
   ·rw [if_neg c24] at H
    have c24b0 : decide (10 < (Qo.length : Int)) = false := decide_eq_false c24
    have c24b1 : decide (10 < Qo.length) = false := decide_eq_false (by omega)
    clear c24
    (first | rw [c24b0] | (simp only [i64_w,i32_w];rw [c24b0]) | skip)
    by_cases c26 : (Qo.length : Int) < 2
    ·rw [if_pos c26] at H
     have c26b0 : decide ((Qo.length : Int) < 2) = true := decide_eq_true c26
     have c26b1 : decide (Qo.length < 2) = true := decide_eq_true (by omega)
     clear c26
     have H' := qr H
     clear H
     obtain ⟨Rv,Rw,Lj⟩ := Kd.V_slice Q8.out
     subst Lj
     go_wp2
     go_meet
     case rel => exact ⟨_,(true),(by first | rfl | (simp;done) | (simp [*];done)),H',⟨by first | omega | exact zm _⟩,⟨by (with_reducible repeat (first | apply qh | apply qi | apply qj));exact qp (qn (p := ⟨Qc,0,none⟩) (qp Q8.out (fun k_ hk => (⟨hk,hk.2.1⟩ : _ ∧ k_ ≠ Qc))) (fun _ hk => hk.2) (.slice Xa Zb.length Xb)) (fun _ hk => ⟨hk.1.1,⟨hk.1.2.1,hk.1.2.2⟩⟩)⟩,⟨by (with_reducible repeat (first | apply qh | apply qi | apply qj));exact qp (qn (p := ⟨Qc,0,none⟩) (qp Zl.out (fun k_ hk => (⟨hk,hk.2.1⟩ : _ ∧ k_ ≠ Qc))) (fun _ hk => hk.2) (.slice Xa Zb.length Xb)) (fun _ hk => ⟨hk.1.1,⟨hk.1.2.1,hk.1.2.2⟩⟩)⟩,⟨by (with_reducible repeat (first | refine qa ?_ _ | refine qb ?_ | refine qc ?_ _));refine qx ?_ Qh.out _;(with_reducible repeat (first | refine qa ?_ _ | refine qb ?_ | refine qc ?_ _));exact Qb.out⟩,⟨by (with_reducible repeat (first | refine qa ?_ _ | refine qb ?_ | refine qc ?_ _));refine blk_put (cs := #[.slice Qs Qn.length Qt,.int .i64 Qi]) ?_ 0 _ rfl;(with_reducible repeat (first | refine qa ?_ _ | refine qb ?_ | refine qc ?_ _));exact Qe.out⟩,⟨by (with_reducible repeat (first | refine qa ?_ _ | refine qb ?_ | refine qc ?_ _));refine qx ?_ Qr.out _;(with_reducible repeat (first | refine qa ?_ _ | refine qb ?_ | refine qc ?_ _));exact Qf.out⟩,⟨by repeat (first | (with_reducible first | exact HB.out | apply qe | apply qf | apply qg | refine qd ?_ Ql.out | refine qd ?_ Qp.out | refine qd ?_ Qq.out) | exact HB.out)⟩⟩
    ·rw [if_neg c26] at H
     have c26b0 : decide ((Qo.length : Int) < 2) = false := decide_eq_false c26
     have c26b1 : decide (Qo.length < 2) = false := decide_eq_false (by omega)
     clear c26
     replace H := Option.bind_eq_some_iff.mp H
     obtain ⟨Yg,Dt,H⟩ := H
     replace H : (if Yg = 0 then ((turn_Check.f Zb Qi).bind fun X7 => (if X7 = 0 then ((tattleref02_May.f Zg Zi).bind fun Yi => (tattlelaw08_TurnGone.j0 k Qo Qk Qm (!Yi) Zb Qi Zg Zi)) else (tattlelaw08_TurnGone.j0 k Qo Qk Qm true Zb Qi Zg Zi))) else (tattlelaw08_TurnGone.j0 k Qo Qk Qm true Zb Qi Zg Zi)) = some r := H
     have A28 := qr Dt
     clear Dt
     by_cases c29 : Yg = 0
     ·rw [if_pos c29] at H
      have c29b0 : (Yg == 0) = true := beq_iff_eq.mpr c29
      have c29b1 : (Yg != 0) = false := bne_eq_false_iff_eq.mpr c29
      clear c29
      replace H := Option.bind_eq_some_iff.mp H
      obtain ⟨X7,Du,H⟩ := H
      replace H : (if X7 = 0 then ((tattleref02_May.f Zg Zi).bind fun Yi => (tattlelaw08_TurnGone.j0 k Qo Qk Qm (!Yi) Zb Qi Zg Zi)) else (tattlelaw08_TurnGone.j0 k Qo Qk Qm true Zb Qi Zg Zi)) = some r := H
      have A30 := qr Du
      clear Du
      by_cases c31 : X7 = 0
      ·rw [if_pos c31] at H
       have c31b0 : (X7 == 0) = true := beq_iff_eq.mpr c31
       have c31b1 : (X7 != 0) = false := bne_eq_false_iff_eq.mpr c31
       clear c31
       replace H := Option.bind_eq_some_iff.mp H
       obtain ⟨Yi,Dv,H⟩ := H
       replace H : (tattlelaw08_TurnGone.j0 k Qo Qk Qm (!Yi) Zb Qi Zg Zi) = some r := H
       have A32 := qr Dv
       clear Dv
       have H' := qr H
       clear H
       obtain ⟨Rx,Lk,Ll⟩ := Kd.V_slice Q8.out
       subst Ll
       go_wp2_with (first | (go_at_call 28;(with_reducible refine (turn_Nodes.calls k _ _ Qo Yg _ ?Zq ?X4 A28.out).mono ?_);(case Zq => refine (Kd.V_reads' (e := 3) (base := w.heap.size) (ok := fun k_ => (k_ ≠ Qa ∧ (k_ ≠ Qc ∧ k_ ≠ Qd))) (n := Qo.length) (c := Lk) ?_).2.2;exact (by (with_reducible repeat (first | apply qh | apply qi | apply qj));exact (qp (qn (p := ⟨Qc,0,none⟩) (qp Q8.out (fun k_ hk => (⟨hk,hk.2.1⟩ : _ ∧ k_ ≠ Qc))) (fun _ hk => hk.2) (.slice Xa Zb.length Xb)) (fun _ h_ => h_.1))));(case X4 => exact (Kd.V_reads' Q8.out).2.1);rintro e w34 ⟨rfl,hb⟩;have n0_ := qr (qq (by (with_reducible repeat (first | apply qh | apply qi | apply qj));exact (qp (qn (p := ⟨Qc,0,none⟩) (qp Q8.out (fun k_ hk => (⟨hk,hk.2.1⟩ : _ ∧ k_ ≠ Qc))) (fun _ hk => hk.2) (.slice Xa Zb.length Xb)) (fun _ h_ => h_.1))) hb);have n1_ := qr (qq (by (with_reducible repeat (first | apply qh | apply qi | apply qj));exact (qp (qn (p := ⟨Qc,0,none⟩) (qp Zl.out (fun k_ hk => (⟨hk,hk.2.1⟩ : _ ∧ k_ ≠ Qc))) (fun _ hk => hk.2) (.slice Xa Zb.length Xb)) (fun _ h_ => h_.1))) hb);have n2_ := qr (qv (g := Qa) (o := .cells #[.slice Qs Qn.length Qt,.int .i64 Qi,.string Qv,.int .i64 Qw,.slice Qy Qu.length Qz,.int .u8 Qk,.int .u8 Qm] 57 (0,0)) (by (with_reducible repeat (first | refine qa ?_ _ | refine qb ?_ | refine qc ?_ _));refine qx ?_ Qh.out _;(with_reducible repeat (first | refine qa ?_ _ | refine qb ?_ | refine qc ?_ _));exact Qb.out) hb);have n3_ := qr (qv (g := Qc) (o := .cells #[.slice Xa Zb.length Xb,.int .i64 Qi] 49 (0,0)) (by (with_reducible repeat (first | refine qa ?_ _ | refine qb ?_ | refine qc ?_ _));refine blk_put (cs := #[.slice Qs Qn.length Qt,.int .i64 Qi]) ?_ 0 _ rfl;(with_reducible repeat (first | refine qa ?_ _ | refine qb ?_ | refine qc ?_ _));exact Qe.out) hb);have n4_ := qr (qv (g := Qd) (o := .cells #[.string Zg,.int .i64 Zi] 23 (0,0)) (by (with_reducible repeat (first | refine qa ?_ _ | refine qb ?_ | refine qc ?_ _));refine qx ?_ Qr.out _;(with_reducible repeat (first | refine qa ?_ _ | refine qb ?_ | refine qc ?_ _));exact Qf.out) hb);have n5_ := qr (ze (by repeat (first | (with_reducible first | exact HB.out | apply qe | apply qf | apply qg | refine qd ?_ Ql.out | refine qd ?_ Qp.out | refine qd ?_ Qq.out) | exact HB.out)) hb);clear Q8;clear Zl;clear Qb;clear Qe;clear Qf;clear HB;have Q8 := n0_;have Zl := n1_;have Qb := n2_;have Qe := n3_;have Qf := n4_;have HB := n5_;clear n0_ n1_ n2_ n3_ n4_ n5_;(try clear hb);(try clear hb2);(try clear hk);(try clear hi);have Wg := Q1.out;have Wh := Qh.out;have Wi := Qx.out;have Wj := Qr.out;have Ja : w34.cell? ⟨Qc,0,none⟩ = some (.slice Xa Zb.length Xb) := (qw Qe.out 0).trans rfl;have Jb : w34.cell? ⟨Qc,1,none⟩ = some (.int .i64 Qi) := (qw Qe.out 1).trans rfl;have Jc := qy Qe.out 0;have Jd := qy Qe.out 1) | (go_at_call 29;(with_reducible refine (turn_Check.calls _ _ Zb Qi X7 _ ?Zq ?X4 A30.out).mono ?_);(case Zq => repeat (first | exact (Kd.V_reads' Zl.out).2.2 | (with_reducible refine zo ?_ _) | (with_reducible refine zp ?_ _) | (with_reducible refine zq ?_)));(case X4 => exact (Kd.V_reads' Zl.out).2.1);rintro e w38 ⟨rfl,hb⟩;have n0_ := qr (qq (by (with_reducible repeat (first | apply qh | apply qi | apply qj));exact Q8.out) hb);have n1_ := qr (qq (by (with_reducible repeat (first | apply qh | apply qi | apply qj));exact Zl.out) hb);have n2_ := qr (qv (g := Qa) (o := .cells #[.slice Qs Qn.length Qt,.int .i64 Qi,.string Qv,.int .i64 Qw,.slice Qy Qu.length Qz,.int .u8 Qk,.int .u8 Qm] 57 (0,0)) (by (with_reducible repeat (first | refine qa ?_ _ | refine qb ?_ | refine qc ?_ _));exact Qb.out) hb);have n3_ := qr (qv (g := Qc) (o := .cells #[.slice Xa Zb.length Xb,.int .i64 Qi] 49 (0,0)) (by (with_reducible repeat (first | refine qa ?_ _ | refine qb ?_ | refine qc ?_ _));exact Qe.out) hb);have n4_ := qr (qv (g := Qd) (o := .cells #[.string Zg,.int .i64 Zi] 23 (0,0)) (by (with_reducible repeat (first | refine qa ?_ _ | refine qb ?_ | refine qc ?_ _));exact Qf.out) hb);have n5_ := qr (ze (by repeat (first | (with_reducible first | exact HB.out | apply qe | apply qf | apply qg | refine qd ?_ Ql.out | refine qd ?_ Qp.out | refine qd ?_ Qq.out) | exact HB.out)) hb);clear Q8;clear Zl;clear Qb;clear Qe;clear Qf;clear HB;have Q8 := n0_;have Zl := n1_;have Qb := n2_;have Qe := n3_;have Qf := n4_;have HB := n5_;clear n0_ n1_ n2_ n3_ n4_ n5_;(try clear hb);(try clear hb2);(try clear hk);(try clear hi);have Wk := Q3.out;have Wl := Qj.out;have Je : w38.cell? ⟨Qd,0,none⟩ = some (.string Zg) := (qw Qf.out 0).trans rfl;have Jf : w38.cell? ⟨Qd,1,none⟩ = some (.int .i64 Zi) := (qw Qf.out 1).trans rfl;have Jg := qy Qf.out 0;have Jh := qy Qf.out 1) | (go_at_call 19;(with_reducible refine (tattleref02_May.calls Zg Zi Yi _ A32.out).mono ?_);rintro e w41 ⟨rfl,hb⟩;have n0_ := qr (qq (by (with_reducible repeat (first | apply qh | apply qi | apply qj));exact Q8.out) hb);have n1_ := qr (qq (by (with_reducible repeat (first | apply qh | apply qi | apply qj));exact Zl.out) hb);have n2_ := qr (qv (g := Qa) (o := .cells #[.slice Qs Qn.length Qt,.int .i64 Qi,.string Qv,.int .i64 Qw,.slice Qy Qu.length Qz,.int .u8 Qk,.int .u8 Qm] 57 (0,0)) (by (with_reducible repeat (first | refine qa ?_ _ | refine qb ?_ | refine qc ?_ _));exact Qb.out) hb);have n3_ := qr (qv (g := Qc) (o := .cells #[.slice Xa Zb.length Xb,.int .i64 Qi] 49 (0,0)) (by (with_reducible repeat (first | refine qa ?_ _ | refine qb ?_ | refine qc ?_ _));exact Qe.out) hb);have n4_ := qr (qv (g := Qd) (o := .cells #[.string Zg,.int .i64 Zi] 23 (0,0)) (by (with_reducible repeat (first | refine qa ?_ _ | refine qb ?_ | refine qc ?_ _));exact Qf.out) hb);have n5_ := qr (ze (by repeat (first | (with_reducible first | exact HB.out | apply qe | apply qf | apply qg | refine qd ?_ Ql.out | refine qd ?_ Qp.out | refine qd ?_ Qq.out) | exact HB.out)) hb);clear Q8;clear Zl;clear Qb;clear Qe;clear Qf;clear HB;have Q8 := n0_;have Zl := n1_;have Qb := n2_;have Qe := n3_;have Qf := n4_;have HB := n5_;clear n0_ n1_ n2_ n3_ n4_ n5_;(try clear hb);(try clear hb2);(try clear hk);(try clear hi)))
       go_meet
       case rel => exact ⟨_,(!Yi),(by first | rfl | (simp;done) | (simp [*];done)),H',⟨by first | omega | exact zm _⟩,⟨by (with_reducible repeat (first | apply qh | apply qi | apply qj));exact Q8.out⟩,⟨by (with_reducible repeat (first | apply qh | apply qi | apply qj));exact Zl.out⟩,⟨by (with_reducible repeat (first | refine qa ?_ _ | refine qb ?_ | refine qc ?_ _));exact Qb.out⟩,⟨by (with_reducible repeat (first | refine qa ?_ _ | refine qb ?_ | refine qc ?_ _));exact Qe.out⟩,⟨by (with_reducible repeat (first | refine qa ?_ _ | refine qb ?_ | refine qc ?_ _));exact Qf.out⟩,⟨by repeat (first | (with_reducible first | exact HB.out | apply qe | apply qf | apply qg | refine qd ?_ Ql.out | refine qd ?_ Qp.out | refine qd ?_ Qq.out) | exact HB.out)⟩⟩
      ·rw [if_neg c31] at H
       have c31b0 : (X7 == 0) = false := beq_eq_false_iff_ne.mpr c31
       have c31b1 : (X7 != 0) = true := bne_iff_ne.mpr c31
       have H' := qr H
       clear H
       obtain ⟨Ry,Lm,Ln⟩ := Kd.V_slice Q8.out
       subst Ln
       go_wp2_with (first | (go_at_call 28;(with_reducible refine (turn_Nodes.calls k _ _ Qo Yg _ ?Zq ?X4 A28.out).mono ?_);(case Zq => refine (Kd.V_reads' (e := 3) (base := w.heap.size) (ok := fun k_ => (k_ ≠ Qa ∧ (k_ ≠ Qc ∧ k_ ≠ Qd))) (n := Qo.length) (c := Lm) ?_).2.2;exact (by (with_reducible repeat (first | apply qh | apply qi | apply qj));exact (qp (qn (p := ⟨Qc,0,none⟩) (qp Q8.out (fun k_ hk => (⟨hk,hk.2.1⟩ : _ ∧ k_ ≠ Qc))) (fun _ hk => hk.2) (.slice Xa Zb.length Xb)) (fun _ h_ => h_.1))));(case X4 => exact (Kd.V_reads' Q8.out).2.1);rintro e w43 ⟨rfl,hb⟩;have n0_ := qr (qq (by (with_reducible repeat (first | apply qh | apply qi | apply qj));exact (qp (qn (p := ⟨Qc,0,none⟩) (qp Q8.out (fun k_ hk => (⟨hk,hk.2.1⟩ : _ ∧ k_ ≠ Qc))) (fun _ hk => hk.2) (.slice Xa Zb.length Xb)) (fun _ h_ => h_.1))) hb);have n1_ := qr (qq (by (with_reducible repeat (first | apply qh | apply qi | apply qj));exact (qp (qn (p := ⟨Qc,0,none⟩) (qp Zl.out (fun k_ hk => (⟨hk,hk.2.1⟩ : _ ∧ k_ ≠ Qc))) (fun _ hk => hk.2) (.slice Xa Zb.length Xb)) (fun _ h_ => h_.1))) hb);have n2_ := qr (qv (g := Qa) (o := .cells #[.slice Qs Qn.length Qt,.int .i64 Qi,.string Qv,.int .i64 Qw,.slice Qy Qu.length Qz,.int .u8 Qk,.int .u8 Qm] 57 (0,0)) (by (with_reducible repeat (first | refine qa ?_ _ | refine qb ?_ | refine qc ?_ _));refine qx ?_ Qh.out _;(with_reducible repeat (first | refine qa ?_ _ | refine qb ?_ | refine qc ?_ _));exact Qb.out) hb);have n3_ := qr (qv (g := Qc) (o := .cells #[.slice Xa Zb.length Xb,.int .i64 Qi] 49 (0,0)) (by (with_reducible repeat (first | refine qa ?_ _ | refine qb ?_ | refine qc ?_ _));refine blk_put (cs := #[.slice Qs Qn.length Qt,.int .i64 Qi]) ?_ 0 _ rfl;(with_reducible repeat (first | refine qa ?_ _ | refine qb ?_ | refine qc ?_ _));exact Qe.out) hb);have n4_ := qr (qv (g := Qd) (o := .cells #[.string Zg,.int .i64 Zi] 23 (0,0)) (by (with_reducible repeat (first | refine qa ?_ _ | refine qb ?_ | refine qc ?_ _));refine qx ?_ Qr.out _;(with_reducible repeat (first | refine qa ?_ _ | refine qb ?_ | refine qc ?_ _));exact Qf.out) hb);have n5_ := qr (ze (by repeat (first | (with_reducible first | exact HB.out | apply qe | apply qf | apply qg | refine qd ?_ Ql.out | refine qd ?_ Qp.out | refine qd ?_ Qq.out) | exact HB.out)) hb);clear Q8;clear Zl;clear Qb;clear Qe;clear Qf;clear HB;have Q8 := n0_;have Zl := n1_;have Qb := n2_;have Qe := n3_;have Qf := n4_;have HB := n5_;clear n0_ n1_ n2_ n3_ n4_ n5_;(try clear hb);(try clear hb2);(try clear hk);(try clear hi);have Wm := Q1.out;have Wn := Qh.out;have Wo := Qx.out;have Wp := Qr.out;have Ji : w43.cell? ⟨Qc,0,none⟩ = some (.slice Xa Zb.length Xb) := (qw Qe.out 0).trans rfl;have Jj : w43.cell? ⟨Qc,1,none⟩ = some (.int .i64 Qi) := (qw Qe.out 1).trans rfl;have Jk := qy Qe.out 0;have Jl := qy Qe.out 1) | (go_at_call 29;(with_reducible refine (turn_Check.calls _ _ Zb Qi X7 _ ?Zq ?X4 A30.out).mono ?_);(case Zq => repeat (first | exact (Kd.V_reads' Zl.out).2.2 | (with_reducible refine zo ?_ _) | (with_reducible refine zp ?_ _) | (with_reducible refine zq ?_)));(case X4 => exact (Kd.V_reads' Zl.out).2.1);rintro e w47 ⟨rfl,hb⟩;have n0_ := qr (qq (by (with_reducible repeat (first | apply qh | apply qi | apply qj));exact Q8.out) hb);have n1_ := qr (qq (by (with_reducible repeat (first | apply qh | apply qi | apply qj));exact Zl.out) hb);have n2_ := qr (qv (g := Qa) (o := .cells #[.slice Qs Qn.length Qt,.int .i64 Qi,.string Qv,.int .i64 Qw,.slice Qy Qu.length Qz,.int .u8 Qk,.int .u8 Qm] 57 (0,0)) (by (with_reducible repeat (first | refine qa ?_ _ | refine qb ?_ | refine qc ?_ _));exact Qb.out) hb);have n3_ := qr (qv (g := Qc) (o := .cells #[.slice Xa Zb.length Xb,.int .i64 Qi] 49 (0,0)) (by (with_reducible repeat (first | refine qa ?_ _ | refine qb ?_ | refine qc ?_ _));exact Qe.out) hb);have n4_ := qr (qv (g := Qd) (o := .cells #[.string Zg,.int .i64 Zi] 23 (0,0)) (by (with_reducible repeat (first | refine qa ?_ _ | refine qb ?_ | refine qc ?_ _));exact Qf.out) hb);have n5_ := qr (ze (by repeat (first | (with_reducible first | exact HB.out | apply qe | apply qf | apply qg | refine qd ?_ Ql.out | refine qd ?_ Qp.out | refine qd ?_ Qq.out) | exact HB.out)) hb);clear Q8;clear Zl;clear Qb;clear Qe;clear Qf;clear HB;have Q8 := n0_;have Zl := n1_;have Qb := n2_;have Qe := n3_;have Qf := n4_;have HB := n5_;clear n0_ n1_ n2_ n3_ n4_ n5_;(try clear hb);(try clear hb2);(try clear hk);(try clear hi)))
       go_meet
       case rel => exact ⟨_,(true),(by first | rfl | (simp;done) | (simp [*];done)),H',⟨by first | omega | exact zm _⟩,⟨by (with_reducible repeat (first | apply qh | apply qi | apply qj));exact Q8.out⟩,⟨by (with_reducible repeat (first | apply qh | apply qi | apply qj));exact Zl.out⟩,⟨by (with_reducible repeat (first | refine qa ?_ _ | refine qb ?_ | refine qc ?_ _));exact Qb.out⟩,⟨by (with_reducible repeat (first | refine qa ?_ _ | refine qb ?_ | refine qc ?_ _));exact Qe.out⟩,⟨by (with_reducible repeat (first | refine qa ?_ _ | refine qb ?_ | refine qc ?_ _));exact Qf.out⟩,⟨by repeat (first | (with_reducible first | exact HB.out | apply qe | apply qf | apply qg | refine qd ?_ Ql.out | refine qd ?_ Qp.out | refine qd ?_ Qq.out) | exact HB.out)⟩⟩
     ·rw [if_neg c29] at H
      have c29b0 : (Yg == 0) = false := beq_eq_false_iff_ne.mpr c29
      have c29b1 : (Yg != 0) = true := bne_iff_ne.mpr c29
      have H' := qr H
      clear H
      obtain ⟨Rz,Lo,Lp⟩ := Kd.V_slice Q8.out
      subst Lp
      go_wp2_with (first | (go_at_call 28;(with_reducible refine (turn_Nodes.calls k _ _ Qo Yg _ ?Zq ?X4 A28.out).mono ?_);(case Zq => refine (Kd.V_reads' (e := 3) (base := w.heap.size) (ok := fun k_ => (k_ ≠ Qa ∧ (k_ ≠ Qc ∧ k_ ≠ Qd))) (n := Qo.length) (c := Lo) ?_).2.2;exact (by (with_reducible repeat (first | apply qh | apply qi | apply qj));exact (qp (qn (p := ⟨Qc,0,none⟩) (qp Q8.out (fun k_ hk => (⟨hk,hk.2.1⟩ : _ ∧ k_ ≠ Qc))) (fun _ hk => hk.2) (.slice Xa Zb.length Xb)) (fun _ h_ => h_.1))));(case X4 => exact (Kd.V_reads' Q8.out).2.1);rintro e w49 ⟨rfl,hb⟩;have n0_ := qr (qq (by (with_reducible repeat (first | apply qh | apply qi | apply qj));exact (qp (qn (p := ⟨Qc,0,none⟩) (qp Q8.out (fun k_ hk => (⟨hk,hk.2.1⟩ : _ ∧ k_ ≠ Qc))) (fun _ hk => hk.2) (.slice Xa Zb.length Xb)) (fun _ h_ => h_.1))) hb);have n1_ := qr (qq (by (with_reducible repeat (first | apply qh | apply qi | apply qj));exact (qp (qn (p := ⟨Qc,0,none⟩) (qp Zl.out (fun k_ hk => (⟨hk,hk.2.1⟩ : _ ∧ k_ ≠ Qc))) (fun _ hk => hk.2) (.slice Xa Zb.length Xb)) (fun _ h_ => h_.1))) hb);have n2_ := qr (qv (g := Qa) (o := .cells #[.slice Qs Qn.length Qt,.int .i64 Qi,.string Qv,.int .i64 Qw,.slice Qy Qu.length Qz,.int .u8 Qk,.int .u8 Qm] 57 (0,0)) (by (with_reducible repeat (first | refine qa ?_ _ | refine qb ?_ | refine qc ?_ _));refine qx ?_ Qh.out _;(with_reducible repeat (first | refine qa ?_ _ | refine qb ?_ | refine qc ?_ _));exact Qb.out) hb);have n3_ := qr (qv (g := Qc) (o := .cells #[.slice Xa Zb.length Xb,.int .i64 Qi] 49 (0,0)) (by (with_reducible repeat (first | refine qa ?_ _ | refine qb ?_ | refine qc ?_ _));refine blk_put (cs := #[.slice Qs Qn.length Qt,.int .i64 Qi]) ?_ 0 _ rfl;(with_reducible repeat (first | refine qa ?_ _ | refine qb ?_ | refine qc ?_ _));exact Qe.out) hb);have n4_ := qr (qv (g := Qd) (o := .cells #[.string Zg,.int .i64 Zi] 23 (0,0)) (by (with_reducible repeat (first | refine qa ?_ _ | refine qb ?_ | refine qc ?_ _));refine qx ?_ Qr.out _;(with_reducible repeat (first | refine qa ?_ _ | refine qb ?_ | refine qc ?_ _));exact Qf.out) hb);have n5_ := qr (ze (by repeat (first | (with_reducible first | exact HB.out | apply qe | apply qf | apply qg | refine qd ?_ Ql.out | refine qd ?_ Qp.out | refine qd ?_ Qq.out) | exact HB.out)) hb);clear Q8;clear Zl;clear Qb;clear Qe;clear Qf;clear HB;have Q8 := n0_;have Zl := n1_;have Qb := n2_;have Qe := n3_;have Qf := n4_;have HB := n5_;clear n0_ n1_ n2_ n3_ n4_ n5_;(try clear hb);(try clear hb2);(try clear hk);(try clear hi)))
      go_meet
      case rel => exact ⟨_,(true),(by first | rfl | (simp;done) | (simp [*];done)),H',⟨by first | omega | exact zm _⟩,⟨by (with_reducible repeat (first | apply qh | apply qi | apply qj));exact Q8.out⟩,⟨by (with_reducible repeat (first | apply qh | apply qi | apply qj));exact Zl.out⟩,⟨by (with_reducible repeat (first | refine qa ?_ _ | refine qb ?_ | refine qc ?_ _));exact Qb.out⟩,⟨by (with_reducible repeat (first | refine qa ?_ _ | refine qb ?_ | refine qc ?_ _));exact Qe.out⟩,⟨by (with_reducible repeat (first | refine qa ?_ _ | refine qb ?_ | refine qc ?_ _));exact Qf.out⟩,⟨by repeat (first | (with_reducible first | exact HB.out | apply qe | apply qf | apply qg | refine qd ?_ Ql.out | refine qd ?_ Qp.out | refine qd ?_ Qq.out) | exact HB.out)⟩⟩
  case rest =>
   clear HC5
   try clear c1
   try clear c2
   try clear p2
   try clear c3
   try clear c4
   try clear c18
   try clear c19
   try clear c24
   try clear c24b0
   try clear c24b1
   try clear c26
   try clear c26b0
   try clear c26b1
   try clear c27
   try clear c29
   try clear c29b0
   try clear c29b1
   try clear c31
   try clear c31b0
   try clear c31b1
   try clear c35
   try clear c36
   try clear c39
   try clear c44
   try clear c45
   try clear Y2
   try clear Y3
   try clear Y6
   try clear Y7
   try clear Ja
   try clear Jb
   try clear Je
   try clear Jf
   try clear Ji
   try clear Jj
   try clear Y4
   try clear Y5
   try clear Y8
   try clear Y9
   try clear Jc
   try clear Jd
   try clear Jg
   try clear Jh
   try clear Jk
   try clear Jl
   obtain ⟨kq,Vm,rfl,HA,HJ4,Zc,Qg,Qb,Qe,Qf,HB⟩ := hcut
   cases kq with
   | zero => exact absurd HA.out (by simp [tattlelaw08_TurnGone.j0])
   | succ kj4 =>
    have H := HA.out
    clear HA
    simp only [tattlelaw08_TurnGone.j0] at H
    by_cases c50 : Vm = true
    ·subst c50
     have H1 : ((tattlelaw08_awakeT.f).bind fun Vp => (some Vp)) = some r := by rw [if_pos rfl] at H;exact H
     clear H
     have H := H1
     clear H1
     replace H := Option.bind_eq_some_iff.mp H
     obtain ⟨Vp,Dw,H⟩ := H
     replace H : (some Vp) = some r := H
     have A51 := qr Dw
     clear Dw
     obtain rfl := Option.some.inj H
     go_wp2_with (first | ((with_reducible refine zc (f := 30) rfl ?_);refine zr (some 60) rfl rfl Try.func30 (by kernel_rfl) rfl #[] rfl (by (try simp only [zh,zi,zj]);first | done | rfl | (simp only [zf,zg];rfl)) ?_;(with_reducible refine (tattlelaw08_awakeT.calls  Vp _ A51.out).mono ?_);rintro e w52 ⟨rfl,hb⟩;refine ⟨_,rfl,?_⟩;have n0_ := qr (qq (by (with_reducible repeat (first | apply qh | apply qi | apply qj));exact Qg.out) hb);have n1_ := qr (qv (g := Qa) (o := .cells #[.slice Qs Qn.length Qt,.int .i64 Qi,.string Qv,.int .i64 Qw,.slice Qy Qu.length Qz,.int .u8 Qk,.int .u8 Qm] 57 (0,0)) (by (with_reducible repeat (first | refine qa ?_ _ | refine qb ?_ | refine qc ?_ _));exact Qb.out) hb);have n2_ := qr (qv (g := Qc) (o := .cells #[.slice Xa Zb.length Xb,.int .i64 Qi] 49 (0,0)) (by (with_reducible repeat (first | refine qa ?_ _ | refine qb ?_ | refine qc ?_ _));exact Qe.out) hb);have n3_ := qr (qv (g := Qd) (o := .cells #[.string Zg,.int .i64 Zi] 23 (0,0)) (by (with_reducible repeat (first | refine qa ?_ _ | refine qb ?_ | refine qc ?_ _));exact Qf.out) hb);have n4_ := qr (ze (by repeat (first | (with_reducible first | exact HB.out | apply qe | apply qf | apply qg | refine qd ?_ Ql.out | refine qd ?_ Qp.out | refine qd ?_ Qq.out) | exact HB.out)) hb);clear Qg;clear Qb;clear Qe;clear Qf;clear HB;have Qg := n0_;have Qb := n1_;have Qe := n2_;have Qf := n3_;have HB := n4_;clear n0_ n1_ n2_ n3_ n4_;(try clear hb);(try clear hb2);(try clear hk);(try clear hi)))
     go_ret
     exact ⟨by first | rfl | (simp [errW_none,errW_some] <;> rfl) | (simp [*,errW_none,errW_some] <;> rfl),by repeat (first | (with_reducible first | exact HB.out | apply qe | apply qf | apply qg | refine qd ?_ Ql.out | refine qd ?_ Qp.out | refine qd ?_ Qq.out) | exact HB.out)⟩
    ·replace c50 := Bool.eq_false_iff.mpr c50
     subst c50
     have H1 : (if (Qo.length : Int) = 0 then (none) else (tattlelaw08_TurnGone.l0 kj4 Qo Qm (Int.tmod (wrap64 (Qk)) (Qo.length : Int)) ([] : List Int) 0 Zb Qi Zg Zi)) = some r := by rw [if_neg (show ¬ (false = true) by decide)] at H;exact H
     clear H
     have H := H1
     clear H1
     by_cases c53 : (Qo.length : Int) = 0
     ·rw [if_pos c53] at H
      exact absurd H (by simp)
     ·rw [if_neg c53] at H
      have c53b0 : ((Qo.length : Int) == 0) = false := beq_eq_false_iff_ne.mpr c53
      have c53b1 : ((Qo.length : Int) != 0) = true := bne_iff_ne.mpr c53
      have c53b2 : ¬ (Qo = []) := fun h_ => c53 (by rw [h_];rfl)
      have H' := qr H
      clear H
      obtain ⟨Vu,Vd,Lq⟩ := Kd.V_slice Zc.out
      subst Lq
      go_wp2
      go_loopg [9,10] kj4 (fun kq v9 v10 w' => ∃ (X9 : List Int) (Z0 : Int),v10 = .int .i64 Z0 ∧ Aside0 (tattlelaw08_TurnGone.l0 kq Qo Qm (Int.tmod (wrap64 (Qk)) (Qo.length : Int)) X9 Z0 Zb Qi Zg Zi = some r) ∧ Aside0 (kq ≤ kj4) ∧ Aside0 (Kd.V (Kd.int .i64) 3 w' w.heap.size (fun k_ => some k_ ≠ (v9 : Value).ownBlock ∧ k_ ≠ Qa ∧ k_ ≠ Qc ∧ k_ ≠ Qd) (.slice Vu Qo.length Vd) Qo) ∧ Aside0 (Kd.R (Kd.int .i64) 3 w' w.heap.size (fun _ => True) v9 X9) ∧ Aside0 (Kd.V (Kd.int .i64) 3 w' w.heap.size (fun k_ => some k_ ≠ (v9 : Value).ownBlock ∧ k_ ≠ Qa ∧ k_ ≠ Qc ∧ k_ ≠ Qd) (.slice Xa Zb.length Xb) Zb) ∧ Aside0 (w'.heap[Qa]? = some (.cells #[(.slice Qs Qn.length Qt),.int .i64 Qi,.string Qv,.int .i64 Qw,(.slice Qy Qu.length Qz),.int .u8 Qk,.int .u8 Qm] 57 (0,0))) ∧ Aside0 (w'.heap[Qc]? = some (.cells #[(.slice Xa Zb.length Xb),.int .i64 Qi] 49 (0,0))) ∧ Aside0 (w'.heap[Qd]? = some (.cells #[.string Zg,.int .i64 Zi] 23 (0,0))) ∧ Aside0 (Below w.heap.size w w'))
      case atStart => exact ⟨(([] : List Int)),(0),(by first | rfl | (simp;done) | (simp [*];done)),H',⟨zm _⟩,⟨by (with_reducible repeat (first | apply qh | apply qi | apply qj));exact qp Zc.out (fun _ hk => ⟨(by simp [Value.ownBlock]),⟨hk.1,⟨hk.2.1,hk.2.2⟩⟩⟩)⟩,⟨by first | exact Kd.R_nil _ _ _ _ _ | exact Kd.N_nil _ _ _ _ _ | exact Kd.V_nil _ _ _ _ _ | exact Kd.Q_nil _ _ _ _ _ | exact Kd.S_nil _ _ _ _ _⟩,⟨by (with_reducible repeat (first | apply qh | apply qi | apply qj));exact qp Qg.out (fun _ hk => ⟨(by simp [Value.ownBlock]),⟨hk.1,⟨hk.2.1,hk.2.2⟩⟩⟩)⟩,⟨by (with_reducible repeat (first | refine qa ?_ _ | refine qb ?_ | refine qc ?_ _));exact Qb.out⟩,⟨by (with_reducible repeat (first | refine qa ?_ _ | refine qb ?_ | refine qc ?_ _));exact Qe.out⟩,⟨by (with_reducible repeat (first | refine qa ?_ _ | refine qb ?_ | refine qc ?_ _));exact Qf.out⟩,⟨by repeat (first | (with_reducible first | exact HB.out | apply qe | apply qf | apply qg | refine qd ?_ Ql.out | refine qd ?_ Qp.out | refine qd ?_ Qq.out) | exact HB.out)⟩⟩
      case round =>
       clear H'
       try clear c1
       try clear c2
       try clear p2
       try clear c3
       try clear c4
       try clear c5
       try clear p6
       try clear c18
       try clear c19
       try clear c24
       try clear c24b0
       try clear c24b1
       try clear c26
       try clear c26b0
       try clear c26b1
       try clear c27
       try clear c29
       try clear c29b0
       try clear c29b1
       try clear c30
       try clear c31
       try clear c31b0
       try clear c31b1
       try clear c35
       try clear c36
       try clear c39
       try clear c44
       try clear c45
       try clear c50
       try clear c53
       try clear c53b0
       try clear c53b1
       try clear c53b2
       try clear Y2
       try clear Y3
       try clear Y6
       try clear Y7
       try clear Ja
       try clear Jb
       try clear Je
       try clear Jf
       try clear Ji
       try clear Jj
       try clear Y4
       try clear Y5
       try clear Y8
       try clear Y9
       try clear Jc
       try clear Jd
       try clear Jg
       try clear Jh
       try clear Jk
       try clear Jl
       try clear p2
       obtain ⟨X9,Z0,rfl,HA,HK2,Zc,Z8,Qg,Qb,Qe,Qf,HB⟩ := hrel
       cases gk with
       | zero => exact absurd HA.out (by simp [tattlelaw08_TurnGone.l0])
       | succ k2 =>
        have H := HA.out
        clear HA
        simp only [tattlelaw08_TurnGone.l0] at H
        by_cases c55 : Z0 < (Qo.length : Int)
        ·rw [if_pos c55] at H
         have c55b0 : decide (Z0 < (Qo.length : Int)) = true := decide_eq_true c55
         clear c55
         by_cases c56 : Z0 = (Int.tmod (wrap64 (Qk)) (Qo.length : Int))
         ·rw [if_pos c56] at H
          have c56b0 : (Z0 == (Int.tmod (wrap64 (Qk)) (Qo.length : Int))) = true := beq_iff_eq.mpr c56
          have c56b1 : (Z0 != (Int.tmod (wrap64 (Qk)) (Qo.length : Int))) = false := bne_eq_false_iff_eq.mpr c56
          clear c56
          have H' := qr H
          clear H
          go_wp2
          go_roundg k2
          case measure => have := HJ4.out;have := HK2.out;omega
          case rel => exact ⟨(X9),(wrap64 (Z0 + 1)),(by first | rfl | (simp;done) | (simp [*];done)),H',⟨by have := HJ4.out;have := HK2.out;omega⟩,⟨by (with_reducible repeat (first | apply qh | apply qi | apply qj));exact Zc.out⟩,⟨by (with_reducible repeat (first | apply qk | apply ql | apply qm));exact Z8.out⟩,⟨by (with_reducible repeat (first | apply qh | apply qi | apply qj));exact Qg.out⟩,⟨by (with_reducible repeat (first | refine qa ?_ _ | refine qb ?_ | refine qc ?_ _));exact Qb.out⟩,⟨by (with_reducible repeat (first | refine qa ?_ _ | refine qb ?_ | refine qc ?_ _));exact Qe.out⟩,⟨by (with_reducible repeat (first | refine qa ?_ _ | refine qb ?_ | refine qc ?_ _));exact Qf.out⟩,⟨by repeat (first | (with_reducible first | exact HB.out | apply qe | apply qf | apply qg | refine qd ?_ Ql.out | refine qd ?_ Qp.out | refine qd ?_ Qq.out) | exact HB.out)⟩⟩
         ·rw [if_neg c56] at H
          have c56b0 : (Z0 == (Int.tmod (wrap64 (Qk)) (Qo.length : Int))) = false := beq_eq_false_iff_ne.mpr c56
          have c56b1 : (Z0 != (Int.tmod (wrap64 (Qk)) (Qo.length : Int))) = true := bne_iff_ne.mpr c56
          by_cases c57 : 0 ≤ Z0
          ·rw [if_pos c57] at H
           have c57b0 : decide (0 ≤ Z0) = true := decide_eq_true c57
           clear c57
           by_cases c58 : X9.length < 17592186044416
           ·rw [if_pos c58] at H
            have Dx := qr c58
            clear c58
            obtain ⟨Dy,J2⟩ : ∃ y_ : List Int,y_ = (X9 ++ [rd Qo Z0]) := ⟨_,rfl⟩
            replace H : (tattlelaw08_TurnGone.l0 k2 Qo Qm (Int.tmod (wrap64 (Qk)) (Qo.length : Int)) Dy (wrap64 (Z0 + 1)) Zb Qi Zg Zi) = some r := by first | (rw [J2];with_reducible exact H) | (have H2_ := (Option.bind_some _ _).symm.trans H;rw [J2];with_reducible exact H2_) | (have H2_ := (Option.bind_some _ _).symm.trans H;with_reducible exact H2_) | with_reducible exact H | (rw [J2];exact H) | exact H
            have Dz := qr J2
            clear J2
            have H' := qr H
            clear H
            have Vv : 0 ≤ (Z0 : Int) := of_decide_eq_true (by first | (with_reducible assumption) | assumption)
            have Vw : Z0 < (Qo.length : Int) := of_decide_eq_true (by first | (with_reducible assumption) | assumption)
            obtain ⟨Wq,Lr,Vn⟩ := Kd.at_int (Kd.V_reads' Zc.out).2.2 Z0 Vv Vw
            cases Lr
            replace Vv := eq_true Vv
            replace Vw := eq_true Vw
            go_wp2_with (first | ((with_reducible refine gate_builtin (b := .append) (xs := #[.tmp 75,.tmp 80]) rfl ?_);(try (refine gate_guard (by rfl) ?_;dsimp only));at_builtin;refine Kd.R_append (Kd.int .i64) (w0 := w) w.heap.size rfl (.tmp 75) (.tmp 80) 24 3 (.int .i64 0) 8 rfl Try.underlying24 info3 rfl (by decide) (by omega) u9 X9 (rd Qo Z0) [.int .i64 (rd Qo Z0)] (fun _ => True) (fun _ => False) rfl rfl ?aP (fun _ hk => hk.elim) ?aF ?aO ?aB ?aS ?aL ?_;(case aP => exact rfl);(case aB => exact (by repeat (first | (with_reducible first | exact HB.out | apply qe | apply qf | apply qg | refine qd ?_ Ql.out | refine qd ?_ Qp.out | refine qd ?_ Qq.out) | exact HB.out)));(case aF => exact (fun _ _ => trivial));(case aO => exact (by (with_reducible repeat (first | apply qk | apply ql | apply qm));exact Z8.out));(case aS => exact (below_size (by repeat (first | (with_reducible first | exact HB.out | apply qe | apply qf | apply qg | refine qd ?_ Ql.out | refine qd ?_ Qp.out | refine qd ?_ Qq.out) | exact HB.out))));(case aL => have := Dx.out;omega);intro R0 w59 ho hb hg hat;rw [← Dz.out] at ho;have n0_ := qr (Kd.V_afterv (ok := (fun k_ => k_ ≠ Qa ∧ k_ ≠ Qc ∧ k_ ≠ Qd)) (by (with_reducible repeat (first | apply qh | apply qi | apply qj));exact qp Zc.out (fun _ hk => ⟨⟨hk.2.1,⟨hk.2.2.1,hk.2.2.2⟩⟩,hk.1⟩)) hg hat);have n1_ := qr (Kd.V_afterv (ok := (fun k_ => k_ ≠ Qa ∧ k_ ≠ Qc ∧ k_ ≠ Qd)) (by (with_reducible repeat (first | apply qh | apply qi | apply qj));exact qp Qg.out (fun _ hk => ⟨⟨hk.2.1,⟨hk.2.2.1,hk.2.2.2⟩⟩,hk.1⟩)) hg hat);have n2_ := qr (blk_grown (g := Qa) (o := .cells #[.slice Qs Qn.length Qt,.int .i64 Qi,.string Qv,.int .i64 Qw,.slice Qy Qu.length Qz,.int .u8 Qk,.int .u8 Qm] 57 (0,0)) (by (with_reducible repeat (first | refine qa ?_ _ | refine qb ?_ | refine qc ?_ _));exact Qb.out) hg (Kd.R_ne Z8.out Qb.out (by decide)));have n3_ := qr (blk_grown (g := Qc) (o := .cells #[.slice Xa Zb.length Xb,.int .i64 Qi] 49 (0,0)) (by (with_reducible repeat (first | refine qa ?_ _ | refine qb ?_ | refine qc ?_ _));exact Qe.out) hg (Kd.R_ne Z8.out Qe.out (by decide)));have n4_ := qr (blk_grown (g := Qd) (o := .cells #[.string Zg,.int .i64 Zi] 23 (0,0)) (by (with_reducible repeat (first | refine qa ?_ _ | refine qb ?_ | refine qc ?_ _));exact Qf.out) hg (Kd.R_ne Z8.out Qf.out (by decide)));have n5_ := qr (hb);have n6_ := qr (ho);clear Zc;clear Qg;clear Qb;clear Qe;clear Qf;clear HB;clear Z8;have Zc := n0_;have Qg := n1_;have Qb := n2_;have Qe := n3_;have Qf := n4_;have HB := n5_;have D0 := n6_;clear n0_ n1_ n2_ n3_ n4_ n5_ n6_;clear ho hb hg hat))
            go_roundg k2
            case measure => have := HJ4.out;have := HK2.out;omega
            case rel => exact ⟨(Dy),(wrap64 (Z0 + 1)),(by first | rfl | (simp;done) | (simp [*];done)),H',⟨by have := HJ4.out;have := HK2.out;omega⟩,⟨by (with_reducible repeat (first | apply qh | apply qi | apply qj));exact qp Zc.out (fun _ hk => ⟨hk.2,⟨hk.1.1,⟨hk.1.2.1,hk.1.2.2⟩⟩⟩)⟩,⟨by (with_reducible repeat (first | apply qk | apply ql | apply qm));exact D0.out⟩,⟨by (with_reducible repeat (first | apply qh | apply qi | apply qj));exact qp Qg.out (fun _ hk => ⟨hk.2,⟨hk.1.1,⟨hk.1.2.1,hk.1.2.2⟩⟩⟩)⟩,⟨by (with_reducible repeat (first | refine qa ?_ _ | refine qb ?_ | refine qc ?_ _));exact Qb.out⟩,⟨by (with_reducible repeat (first | refine qa ?_ _ | refine qb ?_ | refine qc ?_ _));exact Qe.out⟩,⟨by (with_reducible repeat (first | refine qa ?_ _ | refine qb ?_ | refine qc ?_ _));exact Qf.out⟩,⟨by repeat (first | (with_reducible first | exact HB.out | apply qe | apply qf | apply qg | refine qd ?_ Ql.out | refine qd ?_ Qp.out | refine qd ?_ Qq.out) | exact HB.out)⟩⟩
           ·rw [if_neg c58] at H
            exact absurd H (by simp)
          ·rw [if_neg c57] at H
           exact absurd H (by simp)
        ·rw [if_neg c55] at H
         have c55b0 : decide (Z0 < (Qo.length : Int)) = false := decide_eq_false c55
         clear c55
         have H' := qr H
         clear H
         go_wp2
         go_loopg [11] k2 (fun kq v11 w' => ∃ (Yq : Int) (Zd : List Int) (Ze : Int) (Zh : ByteArray) (Zf : Int) (Z9 : Value),v11 = .int .i64 Yq ∧ Aside0 (tattlelaw08_TurnGone.l1 kq Qo Qm (Int.tmod (wrap64 (Qk)) (Qo.length : Int)) X9 Yq Zd Ze Zh Zf = some r) ∧ Aside0 (kq ≤ k2) ∧ Aside0 (Kd.V (Kd.int .i64) 3 w' w.heap.size (fun k_ => some k_ ≠ (u9 : Value).ownBlock ∧ k_ ≠ Qa ∧ k_ ≠ Qc ∧ k_ ≠ Qd) (.slice Vu Qo.length Vd) Qo) ∧ Aside0 (Kd.R (Kd.int .i64) 3 w' w.heap.size (fun _ => True) u9 X9) ∧ Aside0 (Kd.V (Kd.int .i64) 3 w' w.heap.size (fun k_ => some k_ ≠ (u9 : Value).ownBlock ∧ k_ ≠ Qa ∧ k_ ≠ Qc ∧ k_ ≠ Qd) Z9 Zd) ∧ Aside0 (w'.heap[Qa]? = some (.cells #[(.slice Qs Qn.length Qt),.int .i64 Qi,.string Qv,.int .i64 Qw,(.slice Qy Qu.length Qz),.int .u8 Qk,.int .u8 Qm] 57 (0,0))) ∧ Aside0 (w'.heap[Qc]? = some (.cells #[Z9,.int .i64 Ze] 49 (0,0))) ∧ Aside0 (w'.heap[Qd]? = some (.cells #[.string Zh,.int .i64 Zf] 23 (0,0))) ∧ Aside0 (Below w.heap.size w w'))
         case atStart => exact ⟨(0),(Zb),(Qi),(Zg),(Zi),(.slice Xa Zb.length Xb),(by first | rfl | (simp;done) | (simp [*];done)),H',⟨zm _⟩,⟨by (with_reducible repeat (first | apply qh | apply qi | apply qj));exact Zc.out⟩,⟨by (with_reducible repeat (first | apply qk | apply ql | apply qm));exact Z8.out⟩,⟨by (with_reducible repeat (first | apply qh | apply qi | apply qj));exact Qg.out⟩,⟨by (with_reducible repeat (first | refine qa ?_ _ | refine qb ?_ | refine qc ?_ _));exact Qb.out⟩,⟨by (with_reducible repeat (first | refine qa ?_ _ | refine qb ?_ | refine qc ?_ _));exact Qe.out⟩,⟨by (with_reducible repeat (first | refine qa ?_ _ | refine qb ?_ | refine qc ?_ _));exact Qf.out⟩,⟨by repeat (first | (with_reducible first | exact HB.out | apply qe | apply qf | apply qg | refine qd ?_ Ql.out | refine qd ?_ Qp.out | refine qd ?_ Qq.out) | exact HB.out)⟩⟩
         case round =>
          clear H'
          try clear c1
          try clear c2
          try clear p2
          try clear c3
          try clear c4
          try clear c5
          try clear p5
          try clear q5
          try clear hx5
          try clear p6
          try clear c18
          try clear c19
          try clear c24
          try clear c24b0
          try clear c24b1
          try clear c26
          try clear c26b0
          try clear c26b1
          try clear c27
          try clear c29
          try clear c29b0
          try clear c29b1
          try clear c30
          try clear c31
          try clear c31b0
          try clear c31b1
          try clear c35
          try clear c36
          try clear c39
          try clear c44
          try clear c45
          try clear c50
          try clear p51
          try clear q51
          try clear Ls
          try clear c53
          try clear c53b0
          try clear c53b1
          try clear c53b2
          try clear c55
          try clear c55b0
          try clear c56
          try clear c56b0
          try clear c56b1
          try clear c57
          try clear c57b0
          try clear c58
          try clear Y2
          try clear Y3
          try clear Y6
          try clear Y7
          try clear Ja
          try clear Jb
          try clear Je
          try clear Jf
          try clear Ji
          try clear Jj
          try clear Y4
          try clear Y5
          try clear Y8
          try clear Y9
          try clear Jc
          try clear Jd
          try clear Jg
          try clear Jh
          try clear Jk
          try clear Jl
          try clear Vn
          try clear p2
          try clear Vv
          try clear p6
          try clear Vw
          obtain ⟨Yq,Zd,Ze,Zh,Zf,Z9,rfl,HA,HK3,Zc,Z8,Qg,Qb,Qe,Qf,HB⟩ := hrel
          cases gk with
          | zero => exact absurd HA.out (by simp [tattlelaw08_TurnGone.l1])
          | succ k3 =>
           have H := HA.out
           clear HA
           simp only [tattlelaw08_TurnGone.l1] at H
           by_cases c60 : Yq < (wrap64 (Int.tmod Qm 9))
           ·rw [if_pos c60] at H
            have c60b0 : decide (Yq < (wrap64 (Int.tmod Qm 9))) = true := decide_eq_true c60
            clear c60
            replace H := Option.bind_eq_some_iff.mp H
            obtain ⟨⟨J3,Z6,Xu,Xc,Xv,Ve⟩,D1,H⟩ := H
            replace H : (if Ve = 0 then (if 0 ≤ (Int.tmod (wrap64 (Qk)) (Qo.length : Int)) then (if (Int.tmod (wrap64 (Qk)) (Qo.length : Int)) < (Qo.length : Int) then (if J3 = (rd Qo (Int.tmod (wrap64 (Qk)) (Qo.length : Int))) then (some false) else (tattlelaw08_TurnGone.l1 k3 Qo Qm (Int.tmod (wrap64 (Qk)) (Qo.length : Int)) X9 (wrap64 (Yq + 1)) Z6 Xu Xc Xv)) else (none)) else (none)) else (some false)) = some r := H
            have A61 := qr D1
            clear D1
            by_cases c62 : Ve = 0
            ·rw [if_pos c62] at H
             have c62b0 : (Ve == 0) = true := beq_iff_eq.mpr c62
             have c62b1 : (Ve != 0) = false := bne_eq_false_iff_eq.mpr c62
             clear c62
             obtain ⟨Ym,Vx⟩ : ∃ j_ : Int,(Int.tmod (wrap64 (Qk)) (Qo.length : Int)) = j_ := ⟨_,rfl⟩
             replace H : (if 0 ≤ (Ym) then (if (Ym) < (Qo.length : Int) then (if J3 = (rd Qo (Ym)) then (some false) else (tattlelaw08_TurnGone.l1 k3 Qo Qm (Ym) X9 (wrap64 (Yq + 1)) Z6 Xu Xc Xv)) else (none)) else (none)) = some r := by first | (rw [Vx] at H;exact H) | (simp only [Vx] at H ⊢;exact H)
             (try rw [Vx] at A61)
             by_cases c64 : 0 ≤ (Ym)
             ·rw [if_pos c64] at H
              have c64b0 : decide (0 ≤ (Ym)) = true := decide_eq_true c64
              clear c64
              by_cases c65 : (Ym) < (Qo.length : Int)
              ·rw [if_pos c65] at H
               have c65b0 : decide ((Ym) < (Qo.length : Int)) = true := decide_eq_true c65
               clear c65
               by_cases c66 : J3 = (rd Qo (Ym))
               ·rw [if_pos c66] at H
                have c66b0 : (J3 == (rd Qo (Ym))) = true := beq_iff_eq.mpr c66
                have c66b1 : (J3 != (rd Qo (Ym))) = false := bne_eq_false_iff_eq.mpr c66
                clear c66
                exact absurd ((Option.some.inj H).trans hrt.out) (by decide)
               ·rw [if_neg c66] at H
                have c66b0 : (J3 == (rd Qo (Ym))) = false := beq_eq_false_iff_ne.mpr c66
                have c66b1 : (J3 != (rd Qo (Ym))) = true := bne_iff_ne.mpr c66
                have H' := qr H
                clear H
                have Wr := Q1.out
                have Ws := Qh.out
                have Wt := Qx.out
                have Wu := Qr.out
                have Vy : wr.cell? ⟨Qc,0,none⟩ = some (Z9) := (qw Qe.out 0).trans rfl
                have Vz : wr.cell? ⟨Qc,1,none⟩ = some (.int .i64 Ze) := (qw Qe.out 1).trans rfl
                have V0 := qy Qe.out 0
                have V1 := qy Qe.out 1
                have Wv := Q3.out
                have Ww := Qj.out
                have V2 : wr.cell? ⟨Qd,0,none⟩ = some (.string Zh) := (qw Qf.out 0).trans rfl
                have V3 : wr.cell? ⟨Qd,1,none⟩ = some (.int .i64 Zf) := (qw Qf.out 1).trans rfl
                have V4 := qy Qf.out 0
                have V5 := qy Qf.out 1
                obtain ⟨Yu,Yv,Lt⟩ := Kd.V_slice Qg.out
                subst Lt
                obtain ⟨Vf,Vg,Lu⟩ := Kd.R_slice Z8.out
                subst Lu
                try go_wp2_with (first | ((with_reducible refine zc (f := 31) rfl ?_);refine zr (some 93) rfl rfl Try.func31 (by kernel_rfl) rfl #[.agg #[.slice Yu Zd.length Yv,.int .i64 Ze],.agg #[.string Zh,.int .i64 Zf],.slice Vf X9.length Vg] rfl (by (try simp only [zh,zi,zj]);first | done | rfl | (simp only [zf,zg];rfl)) ?_;(with_reducible refine (turn_Next.calls k3 (fun k_ => (some k_ ≠ (.slice Vf X9.length Vg : Value).ownBlock ∧ (k_ ≠ Qa ∧ (k_ ≠ Qc ∧ k_ ≠ Qd)))) _ _ Zd Ze Zh Zf _ _ X9 J3 Z6 Xu Xc Xv Ve _ ?Zq ?X4 ?J4 A61.out).mono ?_);(case Zq => exact Qg.out);(case X4 => repeat (first | exact (Kd.R_reads' Z8.out).2.2 | (with_reducible refine zo ?_ _) | (with_reducible refine zp ?_ _) | (with_reducible refine zq ?_)));(case J4 => exact (Kd.R_reads' Z8.out).2.1);rintro e w74 ⟨R1,rfl,ho0,hb⟩;refine ⟨_,rfl,?_⟩;have n0_ := qr (qq (by (with_reducible repeat (first | apply qh | apply qi | apply qj));exact Zc.out) hb);have n1_ := qr (Kd.R_below (by (with_reducible repeat (first | apply qk | apply ql | apply qm));exact Z8.out) hb);have n2_ := qr (qq (by (with_reducible repeat (first | apply qh | apply qi | apply qj));exact Qg.out) hb);have n3_ := qr (zn (qp (ok' := fun k_ => some k_ ≠ (.slice Vf X9.length Vg : Value).ownBlock ∧ k_ ≠ Qa ∧ k_ ≠ Qc ∧ k_ ≠ Qd) ho0 (fun k_ hk_ => ⟨Or.elim hk_ (fun hs_ => hs_.1) (fun hn_ => (Kd.fresh' (Kd.R_lt (by (with_reducible repeat (first | apply qk | apply ql | apply qm));exact Z8.out)) k_ hn_)),Or.elim hk_ (fun hs_ => hs_.2.1) (fun hn_ => (Kd.freshB (g := Qa) (o := .cells #[.slice Qs Qn.length Qt,.int .i64 Qi,.string Qv,.int .i64 Qw,.slice Qy Qu.length Qz,.int .u8 Qk,.int .u8 Qm] 57 (0,0)) (by (with_reducible repeat (first | refine qa ?_ _ | refine qb ?_ | refine qc ?_ _));exact Qb.out) k_ hn_)),Or.elim hk_ (fun hs_ => hs_.2.2.1) (fun hn_ => (Kd.freshB (g := Qc) (o := .cells #[.slice Yu Zd.length Yv,.int .i64 Ze] 49 (0,0)) (by (with_reducible repeat (first | refine qa ?_ _ | refine qb ?_ | refine qc ?_ _));exact Qe.out) k_ hn_)),Or.elim hk_ (fun hs_ => hs_.2.2.2) (fun hn_ => (Kd.freshB (g := Qd) (o := .cells #[.string Zh,.int .i64 Zf] 23 (0,0)) (by (with_reducible repeat (first | refine qa ?_ _ | refine qb ?_ | refine qc ?_ _));exact Qf.out) k_ hn_))⟩)) (below_size (by repeat (first | (with_reducible first | exact HB.out | apply qe | apply qf | apply qg | refine qd ?_ Ql.out | refine qd ?_ Qp.out | refine qd ?_ Qq.out) | exact HB.out))));have n4_ := qr (qv (g := Qa) (o := .cells #[.slice Qs Qn.length Qt,.int .i64 Qi,.string Qv,.int .i64 Qw,.slice Qy Qu.length Qz,.int .u8 Qk,.int .u8 Qm] 57 (0,0)) (by (with_reducible repeat (first | refine qa ?_ _ | refine qb ?_ | refine qc ?_ _));exact Qb.out) hb);have n5_ := qr (qv (g := Qc) (o := .cells #[.slice Yu Zd.length Yv,.int .i64 Ze] 49 (0,0)) (by (with_reducible repeat (first | refine qa ?_ _ | refine qb ?_ | refine qc ?_ _));exact Qe.out) hb);have n6_ := qr (qv (g := Qd) (o := .cells #[.string Zh,.int .i64 Zf] 23 (0,0)) (by (with_reducible repeat (first | refine qa ?_ _ | refine qb ?_ | refine qc ?_ _));exact Qf.out) hb);have n7_ := qr (ze (by repeat (first | (with_reducible first | exact HB.out | apply qe | apply qf | apply qg | refine qd ?_ Ql.out | refine qd ?_ Qp.out | refine qd ?_ Qq.out) | exact HB.out)) hb);clear Zc;clear Z8;clear Qg;clear Qb;clear Qe;clear Qf;clear HB;have Zc := n0_;have Z8 := n1_;have Qg := n2_;have X5 := n3_;have Qb := n4_;have Qe := n5_;have Qf := n6_;have HB := n7_;clear n0_ n1_ n2_ n3_ n4_ n5_ n6_ n7_;(try clear hb);(try clear hb2);(try clear hk);(try clear hi);(try clear ho0)) | ((with_reducible refine zd (N := 13) rfl ?_);(try (refine gate_guard (by rfl) ?_;dsimp only));refine box_event ?hg (N := 13) ?hd (cs := #[.slice none 0 0,.int .i64 0]) (t := 49) ?hr ?_;(case hd => rfl);(case hg => rfl);(case hr => first | (go_simp;done) | (go_simp;rfl));intro Q9 hg w75 hbox hb;have n0_ := qr (qq (Kd.V_elderB (by (with_reducible repeat (first | apply qh | apply qi | apply qj));exact Zc.out) Q9 (zb hg.symm)) hb);have n1_ := qr (Kd.R_below (by (with_reducible repeat (first | apply qk | apply ql | apply qm));exact Z8.out) hb);have n2_ := qr (qq (Kd.V_elderB (by (with_reducible repeat (first | apply qh | apply qi | apply qj));exact Qg.out) Q9 (zb hg.symm)) hb);have n3_ := qr (qq (Kd.V_elderB (by (with_reducible repeat (first | apply qh | apply qi | apply qj));exact X5.out) Q9 (zb hg.symm)) hb);have n4_ := qr (qv (g := Qa) (o := .cells #[.slice Qs Qn.length Qt,.int .i64 Qi,.string Qv,.int .i64 Qw,.slice Qy Qu.length Qz,.int .u8 Qk,.int .u8 Qm] 57 (0,0)) (by (with_reducible repeat (first | refine qa ?_ _ | refine qb ?_ | refine qc ?_ _));exact Qb.out) hb);have n5_ := qr (qv (g := Qc) (o := .cells #[.slice Yu Zd.length Yv,.int .i64 Ze] 49 (0,0)) (by (with_reducible repeat (first | refine qa ?_ _ | refine qb ?_ | refine qc ?_ _));exact Qe.out) hb);have n6_ := qr (qv (g := Qd) (o := .cells #[.string Zh,.int .i64 Zf] 23 (0,0)) (by (with_reducible repeat (first | refine qa ?_ _ | refine qb ?_ | refine qc ?_ _));exact Qf.out) hb);have n7_ := qr (ze (by repeat (first | (with_reducible first | exact HB.out | apply qe | apply qf | apply qg | refine qd ?_ Ql.out | refine qd ?_ Qp.out | refine qd ?_ Qq.out) | exact HB.out)) hb);have n8_ := qr (hbox);have n9_ := qr ((by rw [hg];exact (below_size (by repeat (first | (with_reducible first | exact HB.out | apply qe | apply qf | apply qg | refine qd ?_ Ql.out | refine qd ?_ Qp.out | refine qd ?_ Qq.out) | exact HB.out))) : w.heap.size ≤ Q9));have Z4 := qr ((by rw [hg];exact (below_size (by repeat (first | (with_reducible first | exact HB.out | apply qe | apply qf | apply qg | refine qd ?_ Ql.out | refine qd ?_ Qp.out | refine qd ?_ Qq.out) | exact HB.out))) : w.heap.size ≤ Q9));have Xr := qr ((by rw [hg];exact qz (blk_lt (g := Qa) (o := .cells #[.slice Qs Qn.length Qt,.int .i64 Qi,.string Qv,.int .i64 Qw,.slice Qy Qu.length Qz,.int .u8 Qk,.int .u8 Qm] 57 (0,0)) (by (with_reducible repeat (first | refine qa ?_ _ | refine qb ?_ | refine qc ?_ _));exact Qb.out)) : Qa ≠ Q9));have Xs := qr ((by rw [hg];exact za (blk_lt (g := Qa) (o := .cells #[.slice Qs Qn.length Qt,.int .i64 Qi,.string Qv,.int .i64 Qw,.slice Qy Qu.length Qz,.int .u8 Qk,.int .u8 Qm] 57 (0,0)) (by (with_reducible repeat (first | refine qa ?_ _ | refine qb ?_ | refine qc ?_ _));exact Qb.out)) : Q9 ≠ Qa));have Xt := qr ((by rw [hg];exact qz (blk_lt (g := Qc) (o := .cells #[.slice Yu Zd.length Yv,.int .i64 Ze] 49 (0,0)) (by (with_reducible repeat (first | refine qa ?_ _ | refine qb ?_ | refine qc ?_ _));exact Qe.out)) : Qc ≠ Q9));have X8 := qr ((by rw [hg];exact za (blk_lt (g := Qc) (o := .cells #[.slice Yu Zd.length Yv,.int .i64 Ze] 49 (0,0)) (by (with_reducible repeat (first | refine qa ?_ _ | refine qb ?_ | refine qc ?_ _));exact Qe.out)) : Q9 ≠ Qc));have Yk := qr ((by rw [hg];exact qz (blk_lt (g := Qd) (o := .cells #[.string Zh,.int .i64 Zf] 23 (0,0)) (by (with_reducible repeat (first | refine qa ?_ _ | refine qb ?_ | refine qc ?_ _));exact Qf.out)) : Qd ≠ Q9));have Jq := qr ((by rw [hg];exact za (blk_lt (g := Qd) (o := .cells #[.string Zh,.int .i64 Zf] 23 (0,0)) (by (with_reducible repeat (first | refine qa ?_ _ | refine qb ?_ | refine qc ?_ _));exact Qf.out)) : Q9 ≠ Qd));clear Zc;clear Z8;clear Qg;clear X5;clear Qb;clear Qe;clear Qf;clear HB;have Zc := n0_;have Z8 := n1_;have Qg := n2_;have X5 := n3_;have Qb := n4_;have Qe := n5_;have Qf := n6_;have HB := n7_;have Z5 := n8_;have Wx := n9_;have J5 := Z4;have Yw := Xr;have Vq := Xs;have Ya := Xt;have Xd := X8;have Yb := Yk;have Xe := Jq;clear n0_ n1_ n2_ n3_ n4_ n5_ n6_ n7_ n8_ n9_ Z4 Xr Xs Xt X8 Yk Jq;clear hb hbox hg) | ((with_reducible refine zd (N := 14) rfl ?_);(try (refine gate_guard (by rfl) ?_;dsimp only));refine box_event ?hg (N := 14) ?hd (cs := #[.string (⟨#[]⟩ : ByteArray),.int .i64 0]) (t := 23) ?hr ?_;(case hd => rfl);(case hg => rfl);(case hr => first | (go_simp;done) | (go_simp;rfl));intro Za hg w76 hbox hb;have n0_ := qr (qq (Kd.V_elderB (by (with_reducible repeat (first | apply qh | apply qi | apply qj));exact Zc.out) Za (zb hg.symm)) hb);have n1_ := qr (Kd.R_below (by (with_reducible repeat (first | apply qk | apply ql | apply qm));exact Z8.out) hb);have n2_ := qr (qq (Kd.V_elderB (by (with_reducible repeat (first | apply qh | apply qi | apply qj));exact Qg.out) Za (zb hg.symm)) hb);have n3_ := qr (qq (Kd.V_elderB (by (with_reducible repeat (first | apply qh | apply qi | apply qj));exact X5.out) Za (zb hg.symm)) hb);have n4_ := qr (qv (g := Qa) (o := .cells #[.slice Qs Qn.length Qt,.int .i64 Qi,.string Qv,.int .i64 Qw,.slice Qy Qu.length Qz,.int .u8 Qk,.int .u8 Qm] 57 (0,0)) (by (with_reducible repeat (first | refine qa ?_ _ | refine qb ?_ | refine qc ?_ _));exact Qb.out) hb);have n5_ := qr (qv (g := Qc) (o := .cells #[.slice Yu Zd.length Yv,.int .i64 Ze] 49 (0,0)) (by (with_reducible repeat (first | refine qa ?_ _ | refine qb ?_ | refine qc ?_ _));exact Qe.out) hb);have n6_ := qr (qv (g := Qd) (o := .cells #[.string Zh,.int .i64 Zf] 23 (0,0)) (by (with_reducible repeat (first | refine qa ?_ _ | refine qb ?_ | refine qc ?_ _));exact Qf.out) hb);have n7_ := qr (qv (g := Q9) (o := .cells #[.slice none 0 0,.int .i64 0] 49 (0,0)) (by (with_reducible repeat (first | refine qa ?_ _ | refine qb ?_ | refine qc ?_ _));exact Z5.out) hb);have n8_ := qr (ze (by repeat (first | (with_reducible first | exact HB.out | apply qe | apply qf | apply qg | refine qd ?_ Ql.out | refine qd ?_ Qp.out | refine qd ?_ Qq.out | refine qd ?_ J5.out) | exact HB.out)) hb);have n9_ := qr (hbox);have Z4 := qr ((by rw [hg];exact (below_size (by repeat (first | (with_reducible first | exact HB.out | apply qe | apply qf | apply qg | refine qd ?_ Ql.out | refine qd ?_ Qp.out | refine qd ?_ Qq.out | refine qd ?_ J5.out) | exact HB.out))) : w.heap.size ≤ Za));have Xr := qr ((by rw [hg];exact (below_size (by repeat (first | (with_reducible first | exact HB.out | apply qe | apply qf | apply qg | refine qd ?_ Ql.out | refine qd ?_ Qp.out | refine qd ?_ Qq.out | refine qd ?_ J5.out) | exact HB.out))) : w.heap.size ≤ Za));have Xs := qr ((by rw [hg];exact qz (blk_lt (g := Qa) (o := .cells #[.slice Qs Qn.length Qt,.int .i64 Qi,.string Qv,.int .i64 Qw,.slice Qy Qu.length Qz,.int .u8 Qk,.int .u8 Qm] 57 (0,0)) (by (with_reducible repeat (first | refine qa ?_ _ | refine qb ?_ | refine qc ?_ _));exact Qb.out)) : Qa ≠ Za));have Xt := qr ((by rw [hg];exact za (blk_lt (g := Qa) (o := .cells #[.slice Qs Qn.length Qt,.int .i64 Qi,.string Qv,.int .i64 Qw,.slice Qy Qu.length Qz,.int .u8 Qk,.int .u8 Qm] 57 (0,0)) (by (with_reducible repeat (first | refine qa ?_ _ | refine qb ?_ | refine qc ?_ _));exact Qb.out)) : Za ≠ Qa));have X8 := qr ((by rw [hg];exact qz (blk_lt (g := Qc) (o := .cells #[.slice Yu Zd.length Yv,.int .i64 Ze] 49 (0,0)) (by (with_reducible repeat (first | refine qa ?_ _ | refine qb ?_ | refine qc ?_ _));exact Qe.out)) : Qc ≠ Za));have Yk := qr ((by rw [hg];exact za (blk_lt (g := Qc) (o := .cells #[.slice Yu Zd.length Yv,.int .i64 Ze] 49 (0,0)) (by (with_reducible repeat (first | refine qa ?_ _ | refine qb ?_ | refine qc ?_ _));exact Qe.out)) : Za ≠ Qc));have Jq := qr ((by rw [hg];exact qz (blk_lt (g := Qd) (o := .cells #[.string Zh,.int .i64 Zf] 23 (0,0)) (by (with_reducible repeat (first | refine qa ?_ _ | refine qb ?_ | refine qc ?_ _));exact Qf.out)) : Qd ≠ Za));have J6 := qr ((by rw [hg];exact za (blk_lt (g := Qd) (o := .cells #[.string Zh,.int .i64 Zf] 23 (0,0)) (by (with_reducible repeat (first | refine qa ?_ _ | refine qb ?_ | refine qc ?_ _));exact Qf.out)) : Za ≠ Qd));have J7 := qr ((by rw [hg];exact qz (blk_lt (g := Q9) (o := .cells #[.slice none 0 0,.int .i64 0] 49 (0,0)) (by (with_reducible repeat (first | refine qa ?_ _ | refine qb ?_ | refine qc ?_ _));exact Z5.out)) : Q9 ≠ Za));have D2 := qr ((by rw [hg];exact za (blk_lt (g := Q9) (o := .cells #[.slice none 0 0,.int .i64 0] 49 (0,0)) (by (with_reducible repeat (first | refine qa ?_ _ | refine qb ?_ | refine qc ?_ _));exact Z5.out)) : Za ≠ Q9));clear Zc;clear Z8;clear Qg;clear X5;clear Qb;clear Qe;clear Qf;clear Z5;clear HB;have Zc := n0_;have Z8 := n1_;have Qg := n2_;have X5 := n3_;have Qb := n4_;have Qe := n5_;have Qf := n6_;have Z5 := n7_;have HB := n8_;have Xy := n9_;have Wy := Z4;have Dm := Xr;have Yx := Xs;have Vr := Xt;have Yc := X8;have Xf := Yk;have Yd := Jq;have Xg := J6;have Yy := J7;have Yz := D2;clear n0_ n1_ n2_ n3_ n4_ n5_ n6_ n7_ n8_ n9_ Z4 Xr Xs Xt X8 Yk Jq J6 J7 D2;clear hb hbox hg;obtain ⟨Xw,Xx,Lv⟩ := Kd.V_slice X5.out;subst Lv;have Wz := Vq.out;have W0 := Yw.out;have W1 := Xd.out;have W2 := Ya.out;have W3 := Xe.out;have W4 := Yb.out;have W5 := Yy.out;have W6 := Yz.out;have V6 : w76.cell? ⟨Q9,0,none⟩ = some (.slice none 0 0) := (qw Z5.out 0).trans rfl;have V7 : w76.cell? ⟨Q9,1,none⟩ = some (.int .i64 0) := (qw Z5.out 1).trans rfl;have V8 := qy Z5.out 0;have V9 := qy Z5.out 1;have W7 := Vr.out;have W8 := Yx.out;have W9 := Xf.out;have Ra := Yc.out;have Rb := Xg.out;have Rc := Yd.out;have Da : w76.cell? ⟨Za,0,none⟩ = some (.string (⟨#[]⟩ : ByteArray)) := (qw Xy.out 0).trans rfl;have Db : w76.cell? ⟨Za,1,none⟩ = some (.int .i64 0) := (qw Xy.out 1).trans rfl;have Dc := qy Xy.out 0;have Dd := qy Xy.out 1;have De : 0 ≤ ((Ym) : Int) := of_decide_eq_true (by first | (with_reducible assumption) | assumption);have Df : (Ym) < (Qo.length : Int) := of_decide_eq_true (by first | (with_reducible assumption) | assumption);obtain ⟨J8,Lw,Xz⟩ := Kd.at_int (Kd.V_reads' Zc.out).2.2 (Ym) De Df;cases Lw;have Jm : J8.block ≠ Q9 := Kd.own_blk (Kd.V_away Zc.out (Kd.V_pos De Df) (by decide) (fun _ hk => by first | exact hk.2 | exact hk.1.2 | exact hk.1.1.2 | exact hk.1.1.1.2));have Jn : J8.block ≠ Q9 := Kd.own_blk (Kd.V_away Zc.out (Kd.V_pos De Df) (by decide) (fun _ hk => by first | exact hk.2 | exact hk.1.2 | exact hk.1.1.2 | exact hk.1.1.1.2));have Jo : J8.block ≠ Za := Kd.own_blk (Kd.V_away Zc.out (Kd.V_pos De Df) (by decide) (fun _ hk => by first | exact hk.2 | exact hk.1.2 | exact hk.1.1.2 | exact hk.1.1.1.2));have Jp : J8.block ≠ Za := Kd.own_blk (Kd.V_away Zc.out (Kd.V_pos De Df) (by decide) (fun _ hk => by first | exact hk.2 | exact hk.1.2 | exact hk.1.1.2 | exact hk.1.1.1.2));replace Xz := (cell_far (p := ⟨Q9,0,none⟩) (by first | (rw [add_block];exact Jm) | (show (Addr.add _ _).block ≠ _;rw [add_block];exact Jm) | exact Jm) (.slice Xw Z6.length Xx)).trans Xz;replace Xz := (cell_far (p := ⟨Q9,1,none⟩) (by first | (rw [add_block];exact Jn) | (show (Addr.add _ _).block ≠ _;rw [add_block];exact Jn) | exact Jn) (.int .i64 Xu)).trans Xz;replace Xz := (cell_far (p := ⟨Za,0,none⟩) (by first | (rw [add_block];exact Jo) | (show (Addr.add _ _).block ≠ _;rw [add_block];exact Jo) | exact Jo) (.string Xc)).trans Xz;replace Xz := (cell_far (p := ⟨Za,1,none⟩) (by first | (rw [add_block];exact Jp) | (show (Addr.add _ _).block ≠ _;rw [add_block];exact Jp) | exact Jp) (.int .i64 Xv)).trans Xz;clear Jm;clear Jn;clear Jo;clear Jp;replace De := eq_true De;replace Df := eq_true Df))
                have n0_ : Aside0 (Kd.V (Kd.int .i64) 3 ((((w76.setCell ⟨Q9,0,none⟩ (.slice Xw Z6.length Xx)).setCell ⟨Q9,1,none⟩ (.int .i64 Xu)).setCell ⟨Za,0,none⟩ (.string Xc)).setCell ⟨Za,1,none⟩ (.int .i64 Xv)) w.heap.size (fun k_ => some k_ ≠ (.slice Vf X9.length Vg : Value).ownBlock ∧ k_ ≠ Qa ∧ k_ ≠ Qc ∧ k_ ≠ Qd ∧ k_ ≠ Q9 ∧ k_ ≠ Za) (.slice (some J8) Qo.length Vd) Qo) := ⟨by (with_reducible repeat (first | apply qh | apply qi | apply qj));exact qp (qn (p := ⟨Za,1,none⟩) (qn (p := ⟨Za,0,none⟩) (qn (p := ⟨Q9,1,none⟩) (qn (p := ⟨Q9,0,none⟩) (qp (qp Zc.out (fun k_ hk => (⟨hk,hk.1.2⟩ : _ ∧ k_ ≠ Q9))) (fun k_ hk => (⟨hk,hk.1.2⟩ : _ ∧ k_ ≠ Za))) (fun _ hk => hk.1.2) (.slice Xw Z6.length Xx)) (fun _ hk => hk.1.2) (.int .i64 Xu)) (fun _ hk => hk.2) (.string Xc)) (fun _ hk => hk.2) (.int .i64 Xv)) (fun _ hk => ⟨hk.1.1.1.1.1,⟨hk.1.1.1.1.2.1,⟨hk.1.1.1.1.2.2.1,⟨hk.1.1.1.1.2.2.2,⟨hk.1.1.1.2,hk.1.1.2⟩⟩⟩⟩⟩)⟩
                have n1_ : Aside0 (Kd.R (Kd.int .i64) 3 ((((w76.setCell ⟨Q9,0,none⟩ (.slice Xw Z6.length Xx)).setCell ⟨Q9,1,none⟩ (.int .i64 Xu)).setCell ⟨Za,0,none⟩ (.string Xc)).setCell ⟨Za,1,none⟩ (.int .i64 Xv)) w.heap.size (fun _ => True) (.slice Vf X9.length Vg) X9) := ⟨by (with_reducible repeat (first | apply qk | apply ql | apply qm));exact Kd.R_mono (qo (p := ⟨Za,1,none⟩) (qo (p := ⟨Za,0,none⟩) (qo (p := ⟨Q9,1,none⟩) (qo (p := ⟨Q9,0,none⟩) (Kd.R_types (Kd.R_types Z8.out Z5.out (by decide)) Xy.out (by decide)) (fun _ hk => hk.1.2) (.slice Xw Z6.length Xx)) (fun _ hk => hk.1.2) (.int .i64 Xu)) (fun _ hk => hk.2) (.string Xc)) (fun _ hk => hk.2) (.int .i64 Xv)) (fun _ hk => trivial)⟩
                have n2_ : Aside0 (Kd.V (Kd.int .i64) 3 ((((w76.setCell ⟨Q9,0,none⟩ (.slice Xw Z6.length Xx)).setCell ⟨Q9,1,none⟩ (.int .i64 Xu)).setCell ⟨Za,0,none⟩ (.string Xc)).setCell ⟨Za,1,none⟩ (.int .i64 Xv)) w.heap.size (fun k_ => some k_ ≠ (.slice Vf X9.length Vg : Value).ownBlock ∧ k_ ≠ Qa ∧ k_ ≠ Qc ∧ k_ ≠ Qd ∧ k_ ≠ Q9 ∧ k_ ≠ Za) (.slice Yu Zd.length Yv) Zd) := ⟨by (with_reducible repeat (first | apply qh | apply qi | apply qj));exact qp (qn (p := ⟨Za,1,none⟩) (qn (p := ⟨Za,0,none⟩) (qn (p := ⟨Q9,1,none⟩) (qn (p := ⟨Q9,0,none⟩) (qp (qp Qg.out (fun k_ hk => (⟨hk,hk.1.2⟩ : _ ∧ k_ ≠ Q9))) (fun k_ hk => (⟨hk,hk.1.2⟩ : _ ∧ k_ ≠ Za))) (fun _ hk => hk.1.2) (.slice Xw Z6.length Xx)) (fun _ hk => hk.1.2) (.int .i64 Xu)) (fun _ hk => hk.2) (.string Xc)) (fun _ hk => hk.2) (.int .i64 Xv)) (fun _ hk => ⟨hk.1.1.1.1.1,⟨hk.1.1.1.1.2.1,⟨hk.1.1.1.1.2.2.1,⟨hk.1.1.1.1.2.2.2,⟨hk.1.1.1.2,hk.1.1.2⟩⟩⟩⟩⟩)⟩
                have n3_ : Aside0 (Kd.V (Kd.int .i64) 3 ((((w76.setCell ⟨Q9,0,none⟩ (.slice Xw Z6.length Xx)).setCell ⟨Q9,1,none⟩ (.int .i64 Xu)).setCell ⟨Za,0,none⟩ (.string Xc)).setCell ⟨Za,1,none⟩ (.int .i64 Xv)) w.heap.size (fun k_ => some k_ ≠ (.slice Vf X9.length Vg : Value).ownBlock ∧ k_ ≠ Qa ∧ k_ ≠ Qc ∧ k_ ≠ Qd ∧ k_ ≠ Q9 ∧ k_ ≠ Za) (.slice Xw Z6.length Xx) Z6) := ⟨by (with_reducible repeat (first | apply qh | apply qi | apply qj));exact qp (qn (p := ⟨Za,1,none⟩) (qn (p := ⟨Za,0,none⟩) (qn (p := ⟨Q9,1,none⟩) (qn (p := ⟨Q9,0,none⟩) (qp (qp X5.out (fun k_ hk => (⟨hk,hk.1.2⟩ : _ ∧ k_ ≠ Q9))) (fun k_ hk => (⟨hk,hk.1.2⟩ : _ ∧ k_ ≠ Za))) (fun _ hk => hk.1.2) (.slice Xw Z6.length Xx)) (fun _ hk => hk.1.2) (.int .i64 Xu)) (fun _ hk => hk.2) (.string Xc)) (fun _ hk => hk.2) (.int .i64 Xv)) (fun _ hk => ⟨hk.1.1.1.1.1,⟨hk.1.1.1.1.2.1,⟨hk.1.1.1.1.2.2.1,⟨hk.1.1.1.1.2.2.2,⟨hk.1.1.1.2,hk.1.1.2⟩⟩⟩⟩⟩)⟩
                have n4_ : Aside0 (((((w76.setCell ⟨Q9,0,none⟩ (.slice Xw Z6.length Xx)).setCell ⟨Q9,1,none⟩ (.int .i64 Xu)).setCell ⟨Za,0,none⟩ (.string Xc)).setCell ⟨Za,1,none⟩ (.int .i64 Xv)).heap[Qa]? = some (.cells #[.slice Qs Qn.length Qt,.int .i64 Qi,.string Qv,.int .i64 Qw,.slice Qy Qu.length Qz,.int .u8 Qk,.int .u8 Qm] 57 (0,0))) := ⟨by (with_reducible repeat (first | refine qa ?_ _ | refine qb ?_ | refine qc ?_ _));refine qx ?_ Yx.out _;(with_reducible repeat (first | refine qa ?_ _ | refine qb ?_ | refine qc ?_ _));refine qx ?_ Yx.out _;(with_reducible repeat (first | refine qa ?_ _ | refine qb ?_ | refine qc ?_ _));refine qx ?_ Yw.out _;(with_reducible repeat (first | refine qa ?_ _ | refine qb ?_ | refine qc ?_ _));refine qx ?_ Yw.out _;(with_reducible repeat (first | refine qa ?_ _ | refine qb ?_ | refine qc ?_ _));exact Qb.out⟩
                have n5_ : Aside0 (((((w76.setCell ⟨Q9,0,none⟩ (.slice Xw Z6.length Xx)).setCell ⟨Q9,1,none⟩ (.int .i64 Xu)).setCell ⟨Za,0,none⟩ (.string Xc)).setCell ⟨Za,1,none⟩ (.int .i64 Xv)).heap[Qc]? = some (.cells #[.slice Yu Zd.length Yv,.int .i64 Ze] 49 (0,0))) := ⟨by (with_reducible repeat (first | refine qa ?_ _ | refine qb ?_ | refine qc ?_ _));refine qx ?_ Yc.out _;(with_reducible repeat (first | refine qa ?_ _ | refine qb ?_ | refine qc ?_ _));refine qx ?_ Yc.out _;(with_reducible repeat (first | refine qa ?_ _ | refine qb ?_ | refine qc ?_ _));refine qx ?_ Ya.out _;(with_reducible repeat (first | refine qa ?_ _ | refine qb ?_ | refine qc ?_ _));refine qx ?_ Ya.out _;(with_reducible repeat (first | refine qa ?_ _ | refine qb ?_ | refine qc ?_ _));exact Qe.out⟩
                have n6_ : Aside0 (((((w76.setCell ⟨Q9,0,none⟩ (.slice Xw Z6.length Xx)).setCell ⟨Q9,1,none⟩ (.int .i64 Xu)).setCell ⟨Za,0,none⟩ (.string Xc)).setCell ⟨Za,1,none⟩ (.int .i64 Xv)).heap[Qd]? = some (.cells #[.string Zh,.int .i64 Zf] 23 (0,0))) := ⟨by (with_reducible repeat (first | refine qa ?_ _ | refine qb ?_ | refine qc ?_ _));refine qx ?_ Yd.out _;(with_reducible repeat (first | refine qa ?_ _ | refine qb ?_ | refine qc ?_ _));refine qx ?_ Yd.out _;(with_reducible repeat (first | refine qa ?_ _ | refine qb ?_ | refine qc ?_ _));refine qx ?_ Yb.out _;(with_reducible repeat (first | refine qa ?_ _ | refine qb ?_ | refine qc ?_ _));refine qx ?_ Yb.out _;(with_reducible repeat (first | refine qa ?_ _ | refine qb ?_ | refine qc ?_ _));exact Qf.out⟩
                have n7_ : Aside0 (((((w76.setCell ⟨Q9,0,none⟩ (.slice Xw Z6.length Xx)).setCell ⟨Q9,1,none⟩ (.int .i64 Xu)).setCell ⟨Za,0,none⟩ (.string Xc)).setCell ⟨Za,1,none⟩ (.int .i64 Xv)).heap[Q9]? = some (.cells #[.slice Xw Z6.length Xx,.int .i64 Xu] 49 (0,0))) := ⟨by (with_reducible repeat (first | refine qa ?_ _ | refine qb ?_ | refine qc ?_ _));refine qx ?_ Yy.out _;(with_reducible repeat (first | refine qa ?_ _ | refine qb ?_ | refine qc ?_ _));refine qx ?_ Yy.out _;(with_reducible repeat (first | refine qa ?_ _ | refine qb ?_ | refine qc ?_ _));refine blk_put (cs := #[.slice Xw Z6.length Xx,.int .i64 0]) ?_ 1 _ rfl;(with_reducible repeat (first | refine qa ?_ _ | refine qb ?_ | refine qc ?_ _));refine blk_put (cs := #[.slice none 0 0,.int .i64 0]) ?_ 0 _ rfl;(with_reducible repeat (first | refine qa ?_ _ | refine qb ?_ | refine qc ?_ _));exact Z5.out⟩
                have n8_ : Aside0 (((((w76.setCell ⟨Q9,0,none⟩ (.slice Xw Z6.length Xx)).setCell ⟨Q9,1,none⟩ (.int .i64 Xu)).setCell ⟨Za,0,none⟩ (.string Xc)).setCell ⟨Za,1,none⟩ (.int .i64 Xv)).heap[Za]? = some (.cells #[.string Xc,.int .i64 Xv] 23 (0,0))) := ⟨by (with_reducible repeat (first | refine qa ?_ _ | refine qb ?_ | refine qc ?_ _));refine blk_put (cs := #[.string Xc,.int .i64 0]) ?_ 1 _ rfl;(with_reducible repeat (first | refine qa ?_ _ | refine qb ?_ | refine qc ?_ _));refine blk_put (cs := #[.string (⟨#[]⟩ : ByteArray),.int .i64 0]) ?_ 0 _ rfl;(with_reducible repeat (first | refine qa ?_ _ | refine qb ?_ | refine qc ?_ _));refine qx ?_ Yz.out _;(with_reducible repeat (first | refine qa ?_ _ | refine qb ?_ | refine qc ?_ _));refine qx ?_ Yz.out _;(with_reducible repeat (first | refine qa ?_ _ | refine qb ?_ | refine qc ?_ _));exact Xy.out⟩
                have n9_ : Aside0 (Below w.heap.size w ((((w76.setCell ⟨Q9,0,none⟩ (.slice Xw Z6.length Xx)).setCell ⟨Q9,1,none⟩ (.int .i64 Xu)).setCell ⟨Za,0,none⟩ (.string Xc)).setCell ⟨Za,1,none⟩ (.int .i64 Xv))) := ⟨by repeat (first | (with_reducible first | exact HB.out | apply qe | apply qf | apply qg | refine qd ?_ Ql.out | refine qd ?_ Qp.out | refine qd ?_ Qq.out | refine qd ?_ J5.out | refine qd ?_ Dm.out) | exact HB.out)⟩
                (try clear Zc)
                (try clear Z8)
                (try clear Qg)
                (try clear X5)
                (try clear Qb)
                (try clear Qe)
                (try clear Qf)
                (try clear Z5)
                (try clear Xy)
                (try clear HB)
                generalize ((((w76.setCell ⟨Q9,0,none⟩ (.slice Xw Z6.length Xx)).setCell ⟨Q9,1,none⟩ (.int .i64 Xu)).setCell ⟨Za,0,none⟩ (.string Xc)).setCell ⟨Za,1,none⟩ (.int .i64 Xv)) = w87 at n0_ n1_ n2_ n3_ n4_ n5_ n6_ n7_ n8_ n9_ ⊢
                have Zc := n0_
                have Z8 := n1_
                have Qg := n2_
                have X5 := n3_
                have Qb := n4_
                have Qe := n5_
                have Qf := n6_
                have Z5 := n7_
                have Xy := n8_
                have HB := n9_
                clear n0_ n1_ n2_ n3_ n4_ n5_ n6_ n7_ n8_ n9_
                have n0_ := qr (qj Zc.out)
                have n1_ := qr (qm Z8.out)
                have n2_ := qr (qj Qg.out)
                have n3_ := qr (qj X5.out)
                have n4_ := qr (qb Qb.out)
                have n5_ := qr (qb Qe.out)
                have n6_ := qr (qb Qf.out)
                have n7_ := qr (qb Z5.out)
                have n8_ := qr (qb Xy.out)
                have n9_ := qr (qg HB.out)
                clear Zc
                clear Z8
                clear Qg
                clear X5
                clear Qb
                clear Qe
                clear Qf
                clear Z5
                clear Xy
                clear HB
                have Zc := n0_
                have Z8 := n1_
                have Qg := n2_
                have X5 := n3_
                have Qb := n4_
                have Qe := n5_
                have Qf := n6_
                have Z5 := n7_
                have Xy := n8_
                have HB := n9_
                clear n0_ n1_ n2_ n3_ n4_ n5_ n6_ n7_ n8_ n9_
                refine start_ (n := 4) (S := fun w' => w'.cell? ⟨Q9,0,none⟩ = some (.slice Xw Z6.length Xx) ∧ w'.cell? ⟨Q9,1,none⟩ = some (.int .i64 Xu) ∧ w'.cell? ⟨Za,0,none⟩ = some (.string Xc) ∧ w'.cell? ⟨Za,1,none⟩ = some (.int .i64 Xv)) (ds := []) #[false,false,false,false] (by kernel_rfl) rfl rfl ⟨(qw Z5.out 0).trans rfl,(qw Z5.out 1).trans rfl,(qw Xy.out 0).trans rfl,(qw Xy.out 1).trans rfl⟩ (fun hHeld => ?_)
                generalize w87.drew = w88 at Zc Z8 Qg X5 Qb Qe Qf Z5 Xy HB hHeld ⊢
                refine take_ (i := 0) (N := some 108) (v := ?_) (a' := ?_) #[true,false,false,false] rfl rfl (by kernel_rfl) (fun _ _ _ h => h) (Or.inl ⟨by rfl,?_⟩) hHeld ?_ ?_
                rotate_left
                ·rintro w' ⟨s0,s1,s2,s3⟩
                 go_simp
                 with_reducible rfl
                rotate_left
                ·simp only [Act.put,qs,qt,qu,i64_w,i32_w]
                 rfl
                refine take_ (i := 1) (N := some 109) (v := ?_) (a' := ?_) #[true,true,false,false] rfl rfl (by kernel_rfl) (fun _ _ _ h => h) (Or.inl ⟨by rfl,?_⟩) hHeld ?_ ?_
                rotate_left
                ·rintro w' ⟨s0,s1,s2,s3⟩
                 go_simp
                 with_reducible rfl
                rotate_left
                ·simp only [Act.put,qs,qt,qu,i64_w,i32_w]
                 rfl
                refine one_ (i := 2) (N := none) #[true,true,true,false] rfl rfl (by kernel_rfl) (by decide) (fun K hK => ?_)
                have R2 : w88.cell? ⟨Qc,0,none⟩ = some (.slice Yu Zd.length Yv) := (qw Qe.out 0).trans rfl
                have Rd := qy Qe.out 0
                have Mj := Qh.out
                have Mk := Qr.out
                have Ml := Xd.out
                have Mm := Xf.out
                have Mn := Q1.out
                have Mo := Qx.out
                have Mp := Ya.out
                have Mq := Yc.out
                have R3 : w88.cell? ⟨Qc,1,none⟩ = some (.int .i64 Ze) := (qw Qe.out 1).trans rfl
                have Re := qy Qe.out 1
                have Mr := Qh.out
                have Ms := Qr.out
                have Mt := Xd.out
                have Mu := Xf.out
                have Mv := Q1.out
                have Mw := Qx.out
                have Mx := Ya.out
                have My := Yc.out
                refine skip_ (w1 := ?_) (by rfl) rfl ?_ ?_
                rotate_left
                ·go_simp
                 rfl
                refine hK.out _ _ ⟨((cell_far (p := ⟨Qc,_,none⟩) Xd.out _).trans (((cell_far (p := ⟨Qc,_,none⟩) Xd.out _).trans (hHeld.1)))),((cell_far (p := ⟨Qc,_,none⟩) Xd.out _).trans (((cell_far (p := ⟨Qc,_,none⟩) Xd.out _).trans (hHeld.2.1)))),((cell_far (p := ⟨Qc,_,none⟩) Xf.out _).trans (((cell_far (p := ⟨Qc,_,none⟩) Xf.out _).trans (hHeld.2.2.1)))),((cell_far (p := ⟨Qc,_,none⟩) Xf.out _).trans (((cell_far (p := ⟨Qc,_,none⟩) Xf.out _).trans (hHeld.2.2.2))))⟩ (fun hHeld => ?_)
                clear hK K
                refine one_ (i := 3) (N := none) #[true,true,true,true] rfl rfl (by kernel_rfl) (by decide) (fun K hK => ?_)
                have R4 : w88.cell? ⟨Qd,0,none⟩ = some (.string Zh) := (qw Qf.out 0).trans rfl
                have Rf := qy Qf.out 0
                have Mz := Qj.out
                have M0 := Qx.out
                have M1 := Xe.out
                have M2 := Xg.out
                have M3 := Q3.out
                have M4 := Qr.out
                have M5 := Yb.out
                have M6 := Yd.out
                have R5 : w88.cell? ⟨Qd,1,none⟩ = some (.int .i64 Zf) := (qw Qf.out 1).trans rfl
                have Rg := qy Qf.out 1
                have M7 := Qj.out
                have M8 := Qx.out
                have M9 := Xe.out
                have La := Xg.out
                have Lb := Q3.out
                have Lc := Qr.out
                have Ld := Yb.out
                have Le := Yd.out
                refine skip_ (w1 := ?_) (by rfl) rfl ?_ ?_
                rotate_left
                ·go_simp
                 rfl
                refine hK.out _ _ ⟨((cell_far (p := ⟨Qd,_,none⟩) Xe.out _).trans (((cell_far (p := ⟨Qd,_,none⟩) Xe.out _).trans (hHeld.1)))),((cell_far (p := ⟨Qd,_,none⟩) Xe.out _).trans (((cell_far (p := ⟨Qd,_,none⟩) Xe.out _).trans (hHeld.2.1)))),((cell_far (p := ⟨Qd,_,none⟩) Xg.out _).trans (((cell_far (p := ⟨Qd,_,none⟩) Xg.out _).trans (hHeld.2.2.1)))),((cell_far (p := ⟨Qd,_,none⟩) Xg.out _).trans (((cell_far (p := ⟨Qd,_,none⟩) Xg.out _).trans (hHeld.2.2.2))))⟩ (fun hHeld => ?_)
                clear hK K
                refine done_ (by kernel_rfl) ?_
                try go_wp2
                subst Vx
                go_roundg k3
                case measure => have := HJ4.out;have := HK2.out;have := HK3.out;omega
                case rel => exact ⟨(wrap64 (Yq + 1)),(Z6),(Xu),(Xc),(Xv),(.slice Xw Z6.length Xx),(by first | rfl | (simp;done) | (simp [*];done)),H',⟨by have := HJ4.out;have := HK2.out;have := HK3.out;omega⟩,⟨by (with_reducible repeat (first | apply qh | apply qi | apply qj));exact qp (qn (p := ⟨Qd,1,none⟩) (qn (p := ⟨Qd,0,none⟩) (qn (p := ⟨Qc,1,none⟩) (qn (p := ⟨Qc,0,none⟩) (qp (qp Zc.out (fun k_ hk => (⟨hk,hk.2.2.1⟩ : _ ∧ k_ ≠ Qc))) (fun k_ hk => (⟨hk,hk.1.2.2.2.1⟩ : _ ∧ k_ ≠ Qd))) (fun _ hk => hk.1.2) (.slice Xw Z6.length Xx)) (fun _ hk => hk.1.2) (.int .i64 Xu)) (fun _ hk => hk.2) (.string Xc)) (fun _ hk => hk.2) (.int .i64 Xv)) (fun _ hk => ⟨hk.1.1.1,⟨hk.1.1.2.1,⟨hk.1.1.2.2.1,hk.1.1.2.2.2.1⟩⟩⟩)⟩,⟨by (with_reducible repeat (first | apply qk | apply ql | apply qm));exact Kd.R_mono (qo (p := ⟨Qd,1,none⟩) (qo (p := ⟨Qd,0,none⟩) (qo (p := ⟨Qc,1,none⟩) (qo (p := ⟨Qc,0,none⟩) (Kd.R_types (Kd.R_types Z8.out Qe.out (by decide)) Qf.out (by decide)) (fun _ hk => hk.1.2) (.slice Xw Z6.length Xx)) (fun _ hk => hk.1.2) (.int .i64 Xu)) (fun _ hk => hk.2) (.string Xc)) (fun _ hk => hk.2) (.int .i64 Xv)) (fun _ hk => trivial)⟩,⟨by (with_reducible repeat (first | apply qh | apply qi | apply qj));exact qp (qn (p := ⟨Qd,1,none⟩) (qn (p := ⟨Qd,0,none⟩) (qn (p := ⟨Qc,1,none⟩) (qn (p := ⟨Qc,0,none⟩) (qp (qp X5.out (fun k_ hk => (⟨hk,hk.2.2.1⟩ : _ ∧ k_ ≠ Qc))) (fun k_ hk => (⟨hk,hk.1.2.2.2.1⟩ : _ ∧ k_ ≠ Qd))) (fun _ hk => hk.1.2) (.slice Xw Z6.length Xx)) (fun _ hk => hk.1.2) (.int .i64 Xu)) (fun _ hk => hk.2) (.string Xc)) (fun _ hk => hk.2) (.int .i64 Xv)) (fun _ hk => ⟨hk.1.1.1,⟨hk.1.1.2.1,⟨hk.1.1.2.2.1,hk.1.1.2.2.2.1⟩⟩⟩)⟩,⟨by (with_reducible repeat (first | refine qa ?_ _ | refine qb ?_ | refine qc ?_ _));refine qx ?_ Qj.out _;(with_reducible repeat (first | refine qa ?_ _ | refine qb ?_ | refine qc ?_ _));refine qx ?_ Qj.out _;(with_reducible repeat (first | refine qa ?_ _ | refine qb ?_ | refine qc ?_ _));refine qx ?_ Qh.out _;(with_reducible repeat (first | refine qa ?_ _ | refine qb ?_ | refine qc ?_ _));refine qx ?_ Qh.out _;(with_reducible repeat (first | refine qa ?_ _ | refine qb ?_ | refine qc ?_ _));exact Qb.out⟩,⟨by (with_reducible repeat (first | refine qa ?_ _ | refine qb ?_ | refine qc ?_ _));refine qx ?_ Qx.out _;(with_reducible repeat (first | refine qa ?_ _ | refine qb ?_ | refine qc ?_ _));refine qx ?_ Qx.out _;(with_reducible repeat (first | refine qa ?_ _ | refine qb ?_ | refine qc ?_ _));refine blk_put (cs := #[.slice Xw Z6.length Xx,.int .i64 Ze]) ?_ 1 _ rfl;(with_reducible repeat (first | refine qa ?_ _ | refine qb ?_ | refine qc ?_ _));refine blk_put (cs := #[.slice Yu Zd.length Yv,.int .i64 Ze]) ?_ 0 _ rfl;(with_reducible repeat (first | refine qa ?_ _ | refine qb ?_ | refine qc ?_ _));exact Qe.out⟩,⟨by (with_reducible repeat (first | refine qa ?_ _ | refine qb ?_ | refine qc ?_ _));refine blk_put (cs := #[.string Xc,.int .i64 Zf]) ?_ 1 _ rfl;(with_reducible repeat (first | refine qa ?_ _ | refine qb ?_ | refine qc ?_ _));refine blk_put (cs := #[.string Zh,.int .i64 Zf]) ?_ 0 _ rfl;(with_reducible repeat (first | refine qa ?_ _ | refine qb ?_ | refine qc ?_ _));refine qx ?_ Qr.out _;(with_reducible repeat (first | refine qa ?_ _ | refine qb ?_ | refine qc ?_ _));refine qx ?_ Qr.out _;(with_reducible repeat (first | refine qa ?_ _ | refine qb ?_ | refine qc ?_ _));exact Qf.out⟩,⟨by repeat (first | (with_reducible first | exact HB.out | apply qe | apply qf | apply qg | refine qd ?_ Ql.out | refine qd ?_ Qp.out | refine qd ?_ Qq.out | refine qd ?_ J5.out | refine qd ?_ Dm.out) | exact HB.out)⟩⟩
              ·rw [if_neg c65] at H
               exact absurd H (by simp)
             ·rw [if_neg c64] at H
              exact absurd H (by simp)
            ·rw [if_neg c62] at H
             have c62b0 : (Ve == 0) = false := beq_eq_false_iff_ne.mpr c62
             have c62b1 : (Ve != 0) = true := bne_iff_ne.mpr c62
             exact absurd ((Option.some.inj H).trans hrt.out) (by decide)
           ·rw [if_neg c60] at H
            have c60b0 : decide (Yq < (wrap64 (Int.tmod Qm 9))) = false := decide_eq_false c60
            clear c60
            have H' := qr H
            clear H
            go_wp2
            go_loopg [16] k3 (fun kq v16 w' => ∃ (Yr : Int) (Q6 : List Int) (Q4 : Int) (Q7 : ByteArray) (Q5 : Int) (Z9 : Value),v16 = .int .i64 Yr ∧ Aside0 (tattlelaw08_TurnGone.l2 kq Qo (Int.tmod (wrap64 (Qk)) (Qo.length : Int)) Yr Q6 Q4 Q7 Q5 = some r) ∧ Aside0 (kq ≤ k3) ∧ Aside0 (Kd.V (Kd.int .i64) 3 w' w.heap.size (fun k_ => k_ ≠ Qa ∧ k_ ≠ Qc ∧ k_ ≠ Qd) (.slice Vu Qo.length Vd) Qo) ∧ Aside0 (Kd.V (Kd.int .i64) 3 w' w.heap.size (fun k_ => k_ ≠ Qa ∧ k_ ≠ Qc ∧ k_ ≠ Qd) Z9 Q6) ∧ Aside0 (w'.heap[Qa]? = some (.cells #[(.slice Qs Qn.length Qt),.int .i64 Qi,.string Qv,.int .i64 Qw,(.slice Qy Qu.length Qz),.int .u8 Qk,.int .u8 Qm] 57 (0,0))) ∧ Aside0 (w'.heap[Qc]? = some (.cells #[Z9,.int .i64 Q4] 49 (0,0))) ∧ Aside0 (w'.heap[Qd]? = some (.cells #[.string Q7,.int .i64 Q5] 23 (0,0))) ∧ Aside0 (Below w.heap.size w w'))
            case atStart => exact ⟨(0),(Zd),(Ze),(Zh),(Zf),(Z9),(by first | rfl | (simp;done) | (simp [*];done)),H',⟨zm _⟩,⟨by (with_reducible repeat (first | apply qh | apply qi | apply qj));exact qp Zc.out (fun _ hk => ⟨hk.2.1,⟨hk.2.2.1,hk.2.2.2⟩⟩)⟩,⟨by (with_reducible repeat (first | apply qh | apply qi | apply qj));exact qp Qg.out (fun _ hk => ⟨hk.2.1,⟨hk.2.2.1,hk.2.2.2⟩⟩)⟩,⟨by (with_reducible repeat (first | refine qa ?_ _ | refine qb ?_ | refine qc ?_ _));exact Qb.out⟩,⟨by (with_reducible repeat (first | refine qa ?_ _ | refine qb ?_ | refine qc ?_ _));exact Qe.out⟩,⟨by (with_reducible repeat (first | refine qa ?_ _ | refine qb ?_ | refine qc ?_ _));exact Qf.out⟩,⟨by repeat (first | (with_reducible first | exact HB.out | apply qe | apply qf | apply qg | refine qd ?_ Ql.out | refine qd ?_ Qp.out | refine qd ?_ Qq.out) | exact HB.out)⟩⟩
            case round =>
             clear H'
             try clear c1
             try clear c2
             try clear p2
             try clear c3
             try clear c4
             try clear c5
             try clear p5
             try clear q5
             try clear hx5
             try clear c6
             try clear p6
             try clear c7
             try clear c8
             try clear c18
             try clear c19
             try clear c24
             try clear c24b0
             try clear c24b1
             try clear c26
             try clear c26b0
             try clear c26b1
             try clear c27
             try clear c29
             try clear c29b0
             try clear c29b1
             try clear c30
             try clear c31
             try clear c31b0
             try clear c31b1
             try clear c35
             try clear c36
             try clear c39
             try clear c44
             try clear c45
             try clear c50
             try clear p51
             try clear q51
             try clear Ls
             try clear c53
             try clear c53b0
             try clear c53b1
             try clear c53b2
             try clear p53
             try clear q53
             try clear R6
             try clear c55
             try clear c55b0
             try clear c56
             try clear c56b0
             try clear c56b1
             try clear c57
             try clear c57b0
             try clear c58
             try clear c60
             try clear c60b0
             try clear c62
             try clear c62b0
             try clear c62b1
             try clear c64
             try clear c64b0
             try clear p64
             try clear c65
             try clear c65b0
             try clear c66
             try clear c66b0
             try clear c66b1
             try clear c67
             try clear c68
             try clear c70
             try clear c78
             try clear c79
             try clear c80
             try clear c81
             try clear c83
             try clear c84
             try clear c85
             try clear Y2
             try clear Y3
             try clear Y6
             try clear Y7
             try clear Ja
             try clear Jb
             try clear Je
             try clear Jf
             try clear Ji
             try clear Jj
             try clear Vy
             try clear Vz
             try clear V2
             try clear V3
             try clear V6
             try clear V7
             try clear Da
             try clear Db
             try clear Y4
             try clear Y5
             try clear Y8
             try clear Y9
             try clear Jc
             try clear Jd
             try clear Jg
             try clear Jh
             try clear Jk
             try clear Jl
             try clear V0
             try clear V1
             try clear V4
             try clear V5
             try clear V8
             try clear V9
             try clear Dc
             try clear Dd
             try clear Vn
             try clear Xz
             try clear p2
             try clear p5
             try clear p51
             try clear Vv
             try clear De
             try clear p6
             try clear q5
             try clear q51
             try clear Vw
             try clear Df
             obtain ⟨Yr,Q6,Q4,Q7,Q5,Z9,rfl,HA,HK4,Zc,Qg,Qb,Qe,Qf,HB⟩ := hrel
             cases gk with
             | zero => exact absurd HA.out (by simp [tattlelaw08_TurnGone.l2])
             | succ k4 =>
              have H := HA.out
              clear HA
              simp only [tattlelaw08_TurnGone.l2] at H
              by_cases c93 : Yr < (wrap64 ((wrap64 (2 * (Qo.length : Int))) - 1))
              ·rw [if_pos c93] at H
               have c93b0 : decide (Yr < (wrap64 ((wrap64 (2 * (Qo.length : Int))) - 1))) = true := decide_eq_true c93
               clear c93
               replace H := Option.bind_eq_some_iff.mp H
               obtain ⟨⟨Jt,Z3,Xh,Z7,Xi,J9⟩,D3,H⟩ := H
               replace H : (if J9 = 0 then (if 0 ≤ (Int.tmod (wrap64 (Qk)) (Qo.length : Int)) then (if (Int.tmod (wrap64 (Qk)) (Qo.length : Int)) < (Qo.length : Int) then (if Jt = (rd Qo (Int.tmod (wrap64 (Qk)) (Qo.length : Int))) then ((tattlelaw08_awakeT.f).bind fun Ju => (some Ju)) else (tattlelaw08_TurnGone.l2 k4 Qo (Int.tmod (wrap64 (Qk)) (Qo.length : Int)) (wrap64 (Yr + 1)) Z3 Xh Z7 Xi)) else (none)) else (none)) else (some false)) = some r := H
               have A94 := qr D3
               clear D3
               by_cases c95 : J9 = 0
               ·rw [if_pos c95] at H
                have c95b0 : (J9 == 0) = true := beq_iff_eq.mpr c95
                have c95b1 : (J9 != 0) = false := bne_eq_false_iff_eq.mpr c95
                clear c95
                obtain ⟨Yh,Vo⟩ : ∃ j_ : Int,(Int.tmod (wrap64 (Qk)) (Qo.length : Int)) = j_ := ⟨_,rfl⟩
                replace H : (if 0 ≤ (Yh) then (if (Yh) < (Qo.length : Int) then (if Jt = (rd Qo (Yh)) then ((tattlelaw08_awakeT.f).bind fun Ju => (some Ju)) else (tattlelaw08_TurnGone.l2 k4 Qo (Yh) (wrap64 (Yr + 1)) Z3 Xh Z7 Xi)) else (none)) else (none)) = some r := by first | (rw [Vo] at H;exact H) | (simp only [Vo] at H ⊢;exact H)
                (try rw [Vo] at A94)
                by_cases c97 : 0 ≤ (Yh)
                ·rw [if_pos c97] at H
                 have c97b0 : decide (0 ≤ (Yh)) = true := decide_eq_true c97
                 clear c97
                 by_cases c98 : (Yh) < (Qo.length : Int)
                 ·rw [if_pos c98] at H
                  have c98b0 : decide ((Yh) < (Qo.length : Int)) = true := decide_eq_true c98
                  clear c98
                  by_cases c99 : Jt = (rd Qo (Yh))
                  ·rw [if_pos c99] at H
                   have c99b0 : (Jt == (rd Qo (Yh))) = true := beq_iff_eq.mpr c99
                   have c99b1 : (Jt != (rd Qo (Yh))) = false := bne_eq_false_iff_eq.mpr c99
                   clear c99
                   replace H := Option.bind_eq_some_iff.mp H
                   obtain ⟨Ju,Dn,H⟩ := H
                   replace H : (some Ju) = some r := H
                   have Lx := qr Dn
                   clear Dn
                   obtain rfl := Option.some.inj H
                   have Ly := Q1.out
                   have Lz := Qh.out
                   have L0 := Qx.out
                   have L1 := Qr.out
                   have D4 : wr.cell? ⟨Qc,0,none⟩ = some (Z9) := (qw Qe.out 0).trans rfl
                   have D5 : wr.cell? ⟨Qc,1,none⟩ = some (.int .i64 Q4) := (qw Qe.out 1).trans rfl
                   have D6 := qy Qe.out 0
                   have D7 := qy Qe.out 1
                   have L2 := Q3.out
                   have L3 := Qj.out
                   have D8 : wr.cell? ⟨Qd,0,none⟩ = some (.string Q7) := (qw Qf.out 0).trans rfl
                   have D9 : wr.cell? ⟨Qd,1,none⟩ = some (.int .i64 Q5) := (qw Qf.out 1).trans rfl
                   have Ga := qy Qf.out 0
                   have Gb := qy Qf.out 1
                   obtain ⟨Yn,Yo,Gc⟩ := Kd.V_slice Qg.out
                   subst Gc
                   go_wp2_with (first | ((with_reducible refine zc (f := 31) rfl ?_);refine zr (some 122) rfl rfl Try.func31 (by kernel_rfl) rfl #[.agg #[.slice Yn Q6.length Yo,.int .i64 Q4],.agg #[.string Q7,.int .i64 Q5],.slice Vu Qo.length Vd] rfl (by (try simp only [zh,zi,zj]);first | done | rfl | (simp only [zf,zg];rfl)) ?_;(with_reducible refine (turn_Next.calls k4 (fun k_ => (k_ ≠ Qa ∧ (k_ ≠ Qc ∧ k_ ≠ Qd))) _ _ Q6 Q4 Q7 Q5 _ _ Qo Jt Z3 Xh Z7 Xi J9 _ ?Zq ?X4 ?J4 A94.out).mono ?_);(case Zq => exact Qg.out);(case X4 => repeat (first | exact (Kd.V_reads' Zc.out).2.2 | (with_reducible refine zo ?_ _) | (with_reducible refine zp ?_ _) | (with_reducible refine zq ?_)));(case J4 => exact (Kd.V_reads' Zc.out).2.1);rintro e R7 ⟨L4,rfl,ho0,hb⟩;refine ⟨_,rfl,?_⟩;have n0_ := qr (qq (by (with_reducible repeat (first | apply qh | apply qi | apply qj));exact Zc.out) hb);have n1_ := qr (qq (by (with_reducible repeat (first | apply qh | apply qi | apply qj));exact Qg.out) hb);have n2_ := qr (zn (qp (ok' := fun k_ => k_ ≠ Qa ∧ k_ ≠ Qc ∧ k_ ≠ Qd) ho0 (fun k_ hk_ => ⟨Or.elim hk_ (fun hs_ => hs_.1) (fun hn_ => (Kd.freshB (g := Qa) (o := .cells #[.slice Qs Qn.length Qt,.int .i64 Qi,.string Qv,.int .i64 Qw,.slice Qy Qu.length Qz,.int .u8 Qk,.int .u8 Qm] 57 (0,0)) (by (with_reducible repeat (first | refine qa ?_ _ | refine qb ?_ | refine qc ?_ _));exact Qb.out) k_ hn_)),Or.elim hk_ (fun hs_ => hs_.2.1) (fun hn_ => (Kd.freshB (g := Qc) (o := .cells #[.slice Yn Q6.length Yo,.int .i64 Q4] 49 (0,0)) (by (with_reducible repeat (first | refine qa ?_ _ | refine qb ?_ | refine qc ?_ _));exact Qe.out) k_ hn_)),Or.elim hk_ (fun hs_ => hs_.2.2) (fun hn_ => (Kd.freshB (g := Qd) (o := .cells #[.string Q7,.int .i64 Q5] 23 (0,0)) (by (with_reducible repeat (first | refine qa ?_ _ | refine qb ?_ | refine qc ?_ _));exact Qf.out) k_ hn_))⟩)) (below_size (by repeat (first | (with_reducible first | exact HB.out | apply qe | apply qf | apply qg | refine qd ?_ Ql.out | refine qd ?_ Qp.out | refine qd ?_ Qq.out) | exact HB.out))));have n3_ := qr (qv (g := Qa) (o := .cells #[.slice Qs Qn.length Qt,.int .i64 Qi,.string Qv,.int .i64 Qw,.slice Qy Qu.length Qz,.int .u8 Qk,.int .u8 Qm] 57 (0,0)) (by (with_reducible repeat (first | refine qa ?_ _ | refine qb ?_ | refine qc ?_ _));exact Qb.out) hb);have n4_ := qr (qv (g := Qc) (o := .cells #[.slice Yn Q6.length Yo,.int .i64 Q4] 49 (0,0)) (by (with_reducible repeat (first | refine qa ?_ _ | refine qb ?_ | refine qc ?_ _));exact Qe.out) hb);have n5_ := qr (qv (g := Qd) (o := .cells #[.string Q7,.int .i64 Q5] 23 (0,0)) (by (with_reducible repeat (first | refine qa ?_ _ | refine qb ?_ | refine qc ?_ _));exact Qf.out) hb);have n6_ := qr (ze (by repeat (first | (with_reducible first | exact HB.out | apply qe | apply qf | apply qg | refine qd ?_ Ql.out | refine qd ?_ Qp.out | refine qd ?_ Qq.out) | exact HB.out)) hb);clear Zc;clear Qg;clear Qb;clear Qe;clear Qf;clear HB;have Zc := n0_;have Qg := n1_;have Zo := n2_;have Qb := n3_;have Qe := n4_;have Qf := n5_;have HB := n6_;clear n0_ n1_ n2_ n3_ n4_ n5_ n6_;(try clear hb);(try clear hb2);(try clear hk);(try clear hi);(try clear ho0)) | ((with_reducible refine zd (N := 18) rfl ?_);(try (refine gate_guard (by rfl) ?_;dsimp only));refine box_event ?hg (N := 18) ?hd (cs := #[.slice none 0 0,.int .i64 0]) (t := 49) ?hr ?_;(case hd => rfl);(case hg => rfl);(case hr => first | (go_simp;done) | (go_simp;rfl));intro Q0 hg R8 hbox hb;have n0_ := qr (qq (Kd.V_elderB (by (with_reducible repeat (first | apply qh | apply qi | apply qj));exact Zc.out) Q0 (zb hg.symm)) hb);have n1_ := qr (qq (Kd.V_elderB (by (with_reducible repeat (first | apply qh | apply qi | apply qj));exact Qg.out) Q0 (zb hg.symm)) hb);have n2_ := qr (qq (Kd.V_elderB (by (with_reducible repeat (first | apply qh | apply qi | apply qj));exact Zo.out) Q0 (zb hg.symm)) hb);have n3_ := qr (qv (g := Qa) (o := .cells #[.slice Qs Qn.length Qt,.int .i64 Qi,.string Qv,.int .i64 Qw,.slice Qy Qu.length Qz,.int .u8 Qk,.int .u8 Qm] 57 (0,0)) (by (with_reducible repeat (first | refine qa ?_ _ | refine qb ?_ | refine qc ?_ _));exact Qb.out) hb);have n4_ := qr (qv (g := Qc) (o := .cells #[.slice Yn Q6.length Yo,.int .i64 Q4] 49 (0,0)) (by (with_reducible repeat (first | refine qa ?_ _ | refine qb ?_ | refine qc ?_ _));exact Qe.out) hb);have n5_ := qr (qv (g := Qd) (o := .cells #[.string Q7,.int .i64 Q5] 23 (0,0)) (by (with_reducible repeat (first | refine qa ?_ _ | refine qb ?_ | refine qc ?_ _));exact Qf.out) hb);have n6_ := qr (ze (by repeat (first | (with_reducible first | exact HB.out | apply qe | apply qf | apply qg | refine qd ?_ Ql.out | refine qd ?_ Qp.out | refine qd ?_ Qq.out) | exact HB.out)) hb);have n7_ := qr (hbox);have n8_ := qr ((by rw [hg];exact (below_size (by repeat (first | (with_reducible first | exact HB.out | apply qe | apply qf | apply qg | refine qd ?_ Ql.out | refine qd ?_ Qp.out | refine qd ?_ Qq.out) | exact HB.out))) : w.heap.size ≤ Q0));have n9_ := qr ((by rw [hg];exact (below_size (by repeat (first | (with_reducible first | exact HB.out | apply qe | apply qf | apply qg | refine qd ?_ Ql.out | refine qd ?_ Qp.out | refine qd ?_ Qq.out) | exact HB.out))) : w.heap.size ≤ Q0));have Z4 := qr ((by rw [hg];exact qz (blk_lt (g := Qa) (o := .cells #[.slice Qs Qn.length Qt,.int .i64 Qi,.string Qv,.int .i64 Qw,.slice Qy Qu.length Qz,.int .u8 Qk,.int .u8 Qm] 57 (0,0)) (by (with_reducible repeat (first | refine qa ?_ _ | refine qb ?_ | refine qc ?_ _));exact Qb.out)) : Qa ≠ Q0));have Xr := qr ((by rw [hg];exact za (blk_lt (g := Qa) (o := .cells #[.slice Qs Qn.length Qt,.int .i64 Qi,.string Qv,.int .i64 Qw,.slice Qy Qu.length Qz,.int .u8 Qk,.int .u8 Qm] 57 (0,0)) (by (with_reducible repeat (first | refine qa ?_ _ | refine qb ?_ | refine qc ?_ _));exact Qb.out)) : Q0 ≠ Qa));have Xs := qr ((by rw [hg];exact qz (blk_lt (g := Qc) (o := .cells #[.slice Yn Q6.length Yo,.int .i64 Q4] 49 (0,0)) (by (with_reducible repeat (first | refine qa ?_ _ | refine qb ?_ | refine qc ?_ _));exact Qe.out)) : Qc ≠ Q0));have Xt := qr ((by rw [hg];exact za (blk_lt (g := Qc) (o := .cells #[.slice Yn Q6.length Yo,.int .i64 Q4] 49 (0,0)) (by (with_reducible repeat (first | refine qa ?_ _ | refine qb ?_ | refine qc ?_ _));exact Qe.out)) : Q0 ≠ Qc));have X8 := qr ((by rw [hg];exact qz (blk_lt (g := Qd) (o := .cells #[.string Q7,.int .i64 Q5] 23 (0,0)) (by (with_reducible repeat (first | refine qa ?_ _ | refine qb ?_ | refine qc ?_ _));exact Qf.out)) : Qd ≠ Q0));have Yk := qr ((by rw [hg];exact za (blk_lt (g := Qd) (o := .cells #[.string Q7,.int .i64 Q5] 23 (0,0)) (by (with_reducible repeat (first | refine qa ?_ _ | refine qb ?_ | refine qc ?_ _));exact Qf.out)) : Q0 ≠ Qd));clear Zc;clear Qg;clear Zo;clear Qb;clear Qe;clear Qf;clear HB;have Zc := n0_;have Qg := n1_;have Zo := n2_;have Qb := n3_;have Qe := n4_;have Qf := n5_;have HB := n6_;have Zj := n7_;have Gd := n8_;have Yl := n9_;have Xj := Z4;have Y0 := Xr;have Zs := Xs;have Zt := Xt;have Zu := X8;have Zv := Yk;clear n0_ n1_ n2_ n3_ n4_ n5_ n6_ n7_ n8_ n9_ Z4 Xr Xs Xt X8 Yk;clear hb hbox hg) | ((with_reducible refine zd (N := 19) rfl ?_);(try (refine gate_guard (by rfl) ?_;dsimp only));refine box_event ?hg (N := 19) ?hd (cs := #[.string (⟨#[]⟩ : ByteArray),.int .i64 0]) (t := 23) ?hr ?_;(case hd => rfl);(case hg => rfl);(case hr => first | (go_simp;done) | (go_simp;rfl));intro Q2 hg Dg hbox hb;have n0_ := qr (qq (Kd.V_elderB (by (with_reducible repeat (first | apply qh | apply qi | apply qj));exact Zc.out) Q2 (zb hg.symm)) hb);have n1_ := qr (qq (Kd.V_elderB (by (with_reducible repeat (first | apply qh | apply qi | apply qj));exact Qg.out) Q2 (zb hg.symm)) hb);have n2_ := qr (qq (Kd.V_elderB (by (with_reducible repeat (first | apply qh | apply qi | apply qj));exact Zo.out) Q2 (zb hg.symm)) hb);have n3_ := qr (qv (g := Qa) (o := .cells #[.slice Qs Qn.length Qt,.int .i64 Qi,.string Qv,.int .i64 Qw,.slice Qy Qu.length Qz,.int .u8 Qk,.int .u8 Qm] 57 (0,0)) (by (with_reducible repeat (first | refine qa ?_ _ | refine qb ?_ | refine qc ?_ _));exact Qb.out) hb);have n4_ := qr (qv (g := Qc) (o := .cells #[.slice Yn Q6.length Yo,.int .i64 Q4] 49 (0,0)) (by (with_reducible repeat (first | refine qa ?_ _ | refine qb ?_ | refine qc ?_ _));exact Qe.out) hb);have n5_ := qr (qv (g := Qd) (o := .cells #[.string Q7,.int .i64 Q5] 23 (0,0)) (by (with_reducible repeat (first | refine qa ?_ _ | refine qb ?_ | refine qc ?_ _));exact Qf.out) hb);have n6_ := qr (qv (g := Q0) (o := .cells #[.slice none 0 0,.int .i64 0] 49 (0,0)) (by (with_reducible repeat (first | refine qa ?_ _ | refine qb ?_ | refine qc ?_ _));exact Zj.out) hb);have n7_ := qr (ze (by repeat (first | (with_reducible first | exact HB.out | apply qe | apply qf | apply qg | refine qd ?_ Ql.out | refine qd ?_ Qp.out | refine qd ?_ Qq.out | refine qd ?_ Yl.out) | exact HB.out)) hb);have n8_ := qr (hbox);have n9_ := qr ((by rw [hg];exact (below_size (by repeat (first | (with_reducible first | exact HB.out | apply qe | apply qf | apply qg | refine qd ?_ Ql.out | refine qd ?_ Qp.out | refine qd ?_ Qq.out | refine qd ?_ Yl.out) | exact HB.out))) : w.heap.size ≤ Q2));have Z4 := qr ((by rw [hg];exact (below_size (by repeat (first | (with_reducible first | exact HB.out | apply qe | apply qf | apply qg | refine qd ?_ Ql.out | refine qd ?_ Qp.out | refine qd ?_ Qq.out | refine qd ?_ Yl.out) | exact HB.out))) : w.heap.size ≤ Q2));have Xr := qr ((by rw [hg];exact qz (blk_lt (g := Qa) (o := .cells #[.slice Qs Qn.length Qt,.int .i64 Qi,.string Qv,.int .i64 Qw,.slice Qy Qu.length Qz,.int .u8 Qk,.int .u8 Qm] 57 (0,0)) (by (with_reducible repeat (first | refine qa ?_ _ | refine qb ?_ | refine qc ?_ _));exact Qb.out)) : Qa ≠ Q2));have Xs := qr ((by rw [hg];exact za (blk_lt (g := Qa) (o := .cells #[.slice Qs Qn.length Qt,.int .i64 Qi,.string Qv,.int .i64 Qw,.slice Qy Qu.length Qz,.int .u8 Qk,.int .u8 Qm] 57 (0,0)) (by (with_reducible repeat (first | refine qa ?_ _ | refine qb ?_ | refine qc ?_ _));exact Qb.out)) : Q2 ≠ Qa));have Xt := qr ((by rw [hg];exact qz (blk_lt (g := Qc) (o := .cells #[.slice Yn Q6.length Yo,.int .i64 Q4] 49 (0,0)) (by (with_reducible repeat (first | refine qa ?_ _ | refine qb ?_ | refine qc ?_ _));exact Qe.out)) : Qc ≠ Q2));have X8 := qr ((by rw [hg];exact za (blk_lt (g := Qc) (o := .cells #[.slice Yn Q6.length Yo,.int .i64 Q4] 49 (0,0)) (by (with_reducible repeat (first | refine qa ?_ _ | refine qb ?_ | refine qc ?_ _));exact Qe.out)) : Q2 ≠ Qc));have Yk := qr ((by rw [hg];exact qz (blk_lt (g := Qd) (o := .cells #[.string Q7,.int .i64 Q5] 23 (0,0)) (by (with_reducible repeat (first | refine qa ?_ _ | refine qb ?_ | refine qc ?_ _));exact Qf.out)) : Qd ≠ Q2));have Jq := qr ((by rw [hg];exact za (blk_lt (g := Qd) (o := .cells #[.string Q7,.int .i64 Q5] 23 (0,0)) (by (with_reducible repeat (first | refine qa ?_ _ | refine qb ?_ | refine qc ?_ _));exact Qf.out)) : Q2 ≠ Qd));have J6 := qr ((by rw [hg];exact qz (blk_lt (g := Q0) (o := .cells #[.slice none 0 0,.int .i64 0] 49 (0,0)) (by (with_reducible repeat (first | refine qa ?_ _ | refine qb ?_ | refine qc ?_ _));exact Zj.out)) : Q0 ≠ Q2));have J7 := qr ((by rw [hg];exact za (blk_lt (g := Q0) (o := .cells #[.slice none 0 0,.int .i64 0] 49 (0,0)) (by (with_reducible repeat (first | refine qa ?_ _ | refine qb ?_ | refine qc ?_ _));exact Zj.out)) : Q2 ≠ Q0));clear Zc;clear Qg;clear Zo;clear Qb;clear Qe;clear Qf;clear Zj;clear HB;have Zc := n0_;have Qg := n1_;have Zo := n2_;have Qb := n3_;have Qe := n4_;have Qf := n5_;have Zj := n6_;have HB := n7_;have Zr := n8_;have Ge := n9_;have Va := Z4;have Xk := Xr;have Y1 := Xs;have Zw := Xt;have Zx := X8;have Zy := Yk;have Zz := Jq;have Xl := J6;have Xm := J7;clear n0_ n1_ n2_ n3_ n4_ n5_ n6_ n7_ n8_ n9_ Z4 Xr Xs Xt X8 Yk Jq J6 J7;clear hb hbox hg;obtain ⟨Vb,Vc,Gf⟩ := Kd.V_slice Zo.out;subst Gf;have L5 := Y0.out;have L6 := Xj.out;have L7 := Zt.out;have L8 := Zs.out;have L9 := Zv.out;have Pa := Zu.out;have Pb := Xl.out;have Pc := Xm.out;have Gg : Dg.cell? ⟨Q0,0,none⟩ = some (.slice none 0 0) := (qw Zj.out 0).trans rfl;have Gh : Dg.cell? ⟨Q0,1,none⟩ = some (.int .i64 0) := (qw Zj.out 1).trans rfl;have Gi := qy Zj.out 0;have Gj := qy Zj.out 1;have Pd := Y1.out;have Pe := Xk.out;have Pf := Zx.out;have Pg := Zw.out;have Ph := Zz.out;have Pi := Zy.out;have Gk : Dg.cell? ⟨Q2,0,none⟩ = some (.string (⟨#[]⟩ : ByteArray)) := (qw Zr.out 0).trans rfl;have Gl : Dg.cell? ⟨Q2,1,none⟩ = some (.int .i64 0) := (qw Zr.out 1).trans rfl;have Gm := qy Zr.out 0;have Gn := qy Zr.out 1;have Vh : 0 ≤ ((Yh) : Int) := of_decide_eq_true (by first | (with_reducible assumption) | assumption);have Vi : (Yh) < (Qo.length : Int) := of_decide_eq_true (by first | (with_reducible assumption) | assumption);obtain ⟨Yp,Do,Zk⟩ := Kd.at_int (Kd.V_reads' Zc.out).2.2 (Yh) Vh Vi;cases Do;have X0 : Yp.block ≠ Q0 := Kd.own_blk (Kd.V_away Zc.out (Kd.V_pos Vh Vi) (by decide) (fun _ hk => by first | exact hk.2 | exact hk.1.2 | exact hk.1.1.2 | exact hk.1.1.1.2));have X1 : Yp.block ≠ Q0 := Kd.own_blk (Kd.V_away Zc.out (Kd.V_pos Vh Vi) (by decide) (fun _ hk => by first | exact hk.2 | exact hk.1.2 | exact hk.1.1.2 | exact hk.1.1.1.2));have X2 : Yp.block ≠ Q2 := Kd.own_blk (Kd.V_away Zc.out (Kd.V_pos Vh Vi) (by decide) (fun _ hk => by first | exact hk.2 | exact hk.1.2 | exact hk.1.1.2 | exact hk.1.1.1.2));have X3 : Yp.block ≠ Q2 := Kd.own_blk (Kd.V_away Zc.out (Kd.V_pos Vh Vi) (by decide) (fun _ hk => by first | exact hk.2 | exact hk.1.2 | exact hk.1.1.2 | exact hk.1.1.1.2));replace Zk := (cell_far (p := ⟨Q0,0,none⟩) (by first | (rw [add_block];exact X0) | (show (Addr.add _ _).block ≠ _;rw [add_block];exact X0) | exact X0) (.slice Vb Z3.length Vc)).trans Zk;replace Zk := (cell_far (p := ⟨Q0,1,none⟩) (by first | (rw [add_block];exact X1) | (show (Addr.add _ _).block ≠ _;rw [add_block];exact X1) | exact X1) (.int .i64 Xh)).trans Zk;replace Zk := (cell_far (p := ⟨Q2,0,none⟩) (by first | (rw [add_block];exact X2) | (show (Addr.add _ _).block ≠ _;rw [add_block];exact X2) | exact X2) (.string Z7)).trans Zk;replace Zk := (cell_far (p := ⟨Q2,1,none⟩) (by first | (rw [add_block];exact X3) | (show (Addr.add _ _).block ≠ _;rw [add_block];exact X3) | exact X3) (.int .i64 Xi)).trans Zk;clear X0;clear X1;clear X2;clear X3;replace Vh := eq_true Vh;replace Vi := eq_true Vi) | ((with_reducible refine zc (f := 30) rfl ?_);refine zr (some 135) rfl rfl Try.func30 (by kernel_rfl) rfl #[] rfl (by (try simp only [zh,zi,zj]);first | done | rfl | (simp only [zf,zg];rfl)) ?_;(with_reducible refine (tattlelaw08_awakeT.calls  Ju _ Lx.out).mono ?_);rintro e R9 ⟨rfl,hb⟩;refine ⟨_,rfl,?_⟩;have n0_ := qr (qq (by (with_reducible repeat (first | apply qh | apply qi | apply qj));exact (qp (qp (qn (p := ⟨Q2,1,none⟩) (qn (p := ⟨Q2,0,none⟩) (qn (p := ⟨Q0,1,none⟩) (qn (p := ⟨Q0,0,none⟩) (qp (qp Qg.out (fun k_ hk => (⟨hk,hk.1.2⟩ : _ ∧ k_ ≠ Q0))) (fun k_ hk => (⟨hk,hk.1.2⟩ : _ ∧ k_ ≠ Q2))) (fun _ hk => hk.1.2) (.slice Vb Z3.length Vc)) (fun _ hk => hk.1.2) (.int .i64 Xh)) (fun _ hk => hk.2) (.string Z7)) (fun _ hk => hk.2) (.int .i64 Xi)) (fun _ h_ => h_.1)) (fun _ h_ => h_.1))) hb);have n1_ := qr (qq (by (with_reducible repeat (first | apply qh | apply qi | apply qj));exact (qp (qp (qn (p := ⟨Q2,1,none⟩) (qn (p := ⟨Q2,0,none⟩) (qn (p := ⟨Q0,1,none⟩) (qn (p := ⟨Q0,0,none⟩) (qp (qp Zo.out (fun k_ hk => (⟨hk,hk.1.2⟩ : _ ∧ k_ ≠ Q0))) (fun k_ hk => (⟨hk,hk.1.2⟩ : _ ∧ k_ ≠ Q2))) (fun _ hk => hk.1.2) (.slice Vb Z3.length Vc)) (fun _ hk => hk.1.2) (.int .i64 Xh)) (fun _ hk => hk.2) (.string Z7)) (fun _ hk => hk.2) (.int .i64 Xi)) (fun _ h_ => h_.1)) (fun _ h_ => h_.1))) hb);have n2_ := qr (qv (g := Qa) (o := .cells #[.slice Qs Qn.length Qt,.int .i64 Qi,.string Qv,.int .i64 Qw,.slice Qy Qu.length Qz,.int .u8 Qk,.int .u8 Qm] 57 (0,0)) (by (with_reducible repeat (first | refine qa ?_ _ | refine qb ?_ | refine qc ?_ _));refine qx ?_ Xk.out _;(with_reducible repeat (first | refine qa ?_ _ | refine qb ?_ | refine qc ?_ _));refine qx ?_ Xk.out _;(with_reducible repeat (first | refine qa ?_ _ | refine qb ?_ | refine qc ?_ _));refine qx ?_ Xj.out _;(with_reducible repeat (first | refine qa ?_ _ | refine qb ?_ | refine qc ?_ _));refine qx ?_ Xj.out _;(with_reducible repeat (first | refine qa ?_ _ | refine qb ?_ | refine qc ?_ _));exact Qb.out) hb);have n3_ := qr (qv (g := Qc) (o := .cells #[.slice Yn Q6.length Yo,.int .i64 Q4] 49 (0,0)) (by (with_reducible repeat (first | refine qa ?_ _ | refine qb ?_ | refine qc ?_ _));refine qx ?_ Zw.out _;(with_reducible repeat (first | refine qa ?_ _ | refine qb ?_ | refine qc ?_ _));refine qx ?_ Zw.out _;(with_reducible repeat (first | refine qa ?_ _ | refine qb ?_ | refine qc ?_ _));refine qx ?_ Zs.out _;(with_reducible repeat (first | refine qa ?_ _ | refine qb ?_ | refine qc ?_ _));refine qx ?_ Zs.out _;(with_reducible repeat (first | refine qa ?_ _ | refine qb ?_ | refine qc ?_ _));exact Qe.out) hb);have n4_ := qr (qv (g := Qd) (o := .cells #[.string Q7,.int .i64 Q5] 23 (0,0)) (by (with_reducible repeat (first | refine qa ?_ _ | refine qb ?_ | refine qc ?_ _));refine qx ?_ Zy.out _;(with_reducible repeat (first | refine qa ?_ _ | refine qb ?_ | refine qc ?_ _));refine qx ?_ Zy.out _;(with_reducible repeat (first | refine qa ?_ _ | refine qb ?_ | refine qc ?_ _));refine qx ?_ Zu.out _;(with_reducible repeat (first | refine qa ?_ _ | refine qb ?_ | refine qc ?_ _));refine qx ?_ Zu.out _;(with_reducible repeat (first | refine qa ?_ _ | refine qb ?_ | refine qc ?_ _));exact Qf.out) hb);have n5_ := qr (qv (g := Q0) (o := .cells #[.slice Vb Z3.length Vc,.int .i64 Xh] 49 (0,0)) (by (with_reducible repeat (first | refine qa ?_ _ | refine qb ?_ | refine qc ?_ _));refine qx ?_ Xl.out _;(with_reducible repeat (first | refine qa ?_ _ | refine qb ?_ | refine qc ?_ _));refine qx ?_ Xl.out _;(with_reducible repeat (first | refine qa ?_ _ | refine qb ?_ | refine qc ?_ _));refine blk_put (cs := #[.slice Vb Z3.length Vc,.int .i64 0]) ?_ 1 _ rfl;(with_reducible repeat (first | refine qa ?_ _ | refine qb ?_ | refine qc ?_ _));refine blk_put (cs := #[.slice none 0 0,.int .i64 0]) ?_ 0 _ rfl;(with_reducible repeat (first | refine qa ?_ _ | refine qb ?_ | refine qc ?_ _));exact Zj.out) hb);have n6_ := qr (qv (g := Q2) (o := .cells #[.string Z7,.int .i64 Xi] 23 (0,0)) (by (with_reducible repeat (first | refine qa ?_ _ | refine qb ?_ | refine qc ?_ _));refine blk_put (cs := #[.string Z7,.int .i64 0]) ?_ 1 _ rfl;(with_reducible repeat (first | refine qa ?_ _ | refine qb ?_ | refine qc ?_ _));refine blk_put (cs := #[.string (⟨#[]⟩ : ByteArray),.int .i64 0]) ?_ 0 _ rfl;(with_reducible repeat (first | refine qa ?_ _ | refine qb ?_ | refine qc ?_ _));refine qx ?_ Xm.out _;(with_reducible repeat (first | refine qa ?_ _ | refine qb ?_ | refine qc ?_ _));refine qx ?_ Xm.out _;(with_reducible repeat (first | refine qa ?_ _ | refine qb ?_ | refine qc ?_ _));exact Zr.out) hb);have n7_ := qr (ze (by repeat (first | (with_reducible first | exact HB.out | apply qe | apply qf | apply qg | refine qd ?_ Ql.out | refine qd ?_ Qp.out | refine qd ?_ Qq.out | refine qd ?_ Yl.out | refine qd ?_ Va.out) | exact HB.out)) hb);clear Qg;clear Zo;clear Qb;clear Qe;clear Qf;clear Zj;clear Zr;clear HB;have Qg := n0_;have Zo := n1_;have Qb := n2_;have Qe := n3_;have Qf := n4_;have Zj := n5_;have Zr := n6_;have HB := n7_;clear n0_ n1_ n2_ n3_ n4_ n5_ n6_ n7_;(try clear hb);(try clear hb2);(try clear hk);(try clear hi)))
                   go_ret
                   exact ⟨by first | rfl | (simp [errW_none,errW_some] <;> rfl) | (simp only [← Vo];first | rfl | (simp [errW_none,errW_some] <;> rfl)) | (simp [*,errW_none,errW_some] <;> rfl),by repeat (first | (with_reducible first | exact HB.out | apply qe | apply qf | apply qg | refine qd ?_ Ql.out | refine qd ?_ Qp.out | refine qd ?_ Qq.out | refine qd ?_ Yl.out | refine qd ?_ Va.out) | exact HB.out)⟩
                  ·rw [if_neg c99] at H
                   have c99b0 : (Jt == (rd Qo (Yh))) = false := beq_eq_false_iff_ne.mpr c99
                   have c99b1 : (Jt != (rd Qo (Yh))) = true := bne_iff_ne.mpr c99
                   have H' := qr H
                   clear H
                   have Pj := Q1.out
                   have Pk := Qh.out
                   have Pl := Qx.out
                   have Pm := Qr.out
                   have Gp : wr.cell? ⟨Qc,0,none⟩ = some (Z9) := (qw Qe.out 0).trans rfl
                   have Gq : wr.cell? ⟨Qc,1,none⟩ = some (.int .i64 Q4) := (qw Qe.out 1).trans rfl
                   have Gr := qy Qe.out 0
                   have Gs := qy Qe.out 1
                   have Pn := Q3.out
                   have Po := Qj.out
                   have Gt : wr.cell? ⟨Qd,0,none⟩ = some (.string Q7) := (qw Qf.out 0).trans rfl
                   have Gu : wr.cell? ⟨Qd,1,none⟩ = some (.int .i64 Q5) := (qw Qf.out 1).trans rfl
                   have Gv := qy Qf.out 0
                   have Gw := qy Qf.out 1
                   obtain ⟨Ye,Yf,Gx⟩ := Kd.V_slice Qg.out
                   subst Gx
                   try go_wp2_with (first | ((with_reducible refine zc (f := 31) rfl ?_);refine zr (some 122) rfl rfl Try.func31 (by kernel_rfl) rfl #[.agg #[.slice Ye Q6.length Yf,.int .i64 Q4],.agg #[.string Q7,.int .i64 Q5],.slice Vu Qo.length Vd] rfl (by (try simp only [zh,zi,zj]);first | done | rfl | (simp only [zf,zg];rfl)) ?_;(with_reducible refine (turn_Next.calls k4 (fun k_ => (k_ ≠ Qa ∧ (k_ ≠ Qc ∧ k_ ≠ Qd))) _ _ Q6 Q4 Q7 Q5 _ _ Qo Jt Z3 Xh Z7 Xi J9 _ ?Zq ?X4 ?J4 A94.out).mono ?_);(case Zq => exact Qg.out);(case X4 => repeat (first | exact (Kd.V_reads' Zc.out).2.2 | (with_reducible refine zo ?_ _) | (with_reducible refine zp ?_ _) | (with_reducible refine zq ?_)));(case J4 => exact (Kd.V_reads' Zc.out).2.1);rintro e Ta ⟨L4,rfl,ho0,hb⟩;refine ⟨_,rfl,?_⟩;have n0_ := qr (qq (by (with_reducible repeat (first | apply qh | apply qi | apply qj));exact Zc.out) hb);have n1_ := qr (qq (by (with_reducible repeat (first | apply qh | apply qi | apply qj));exact Qg.out) hb);have n2_ := qr (zn (qp (ok' := fun k_ => k_ ≠ Qa ∧ k_ ≠ Qc ∧ k_ ≠ Qd) ho0 (fun k_ hk_ => ⟨Or.elim hk_ (fun hs_ => hs_.1) (fun hn_ => (Kd.freshB (g := Qa) (o := .cells #[.slice Qs Qn.length Qt,.int .i64 Qi,.string Qv,.int .i64 Qw,.slice Qy Qu.length Qz,.int .u8 Qk,.int .u8 Qm] 57 (0,0)) (by (with_reducible repeat (first | refine qa ?_ _ | refine qb ?_ | refine qc ?_ _));exact Qb.out) k_ hn_)),Or.elim hk_ (fun hs_ => hs_.2.1) (fun hn_ => (Kd.freshB (g := Qc) (o := .cells #[.slice Ye Q6.length Yf,.int .i64 Q4] 49 (0,0)) (by (with_reducible repeat (first | refine qa ?_ _ | refine qb ?_ | refine qc ?_ _));exact Qe.out) k_ hn_)),Or.elim hk_ (fun hs_ => hs_.2.2) (fun hn_ => (Kd.freshB (g := Qd) (o := .cells #[.string Q7,.int .i64 Q5] 23 (0,0)) (by (with_reducible repeat (first | refine qa ?_ _ | refine qb ?_ | refine qc ?_ _));exact Qf.out) k_ hn_))⟩)) (below_size (by repeat (first | (with_reducible first | exact HB.out | apply qe | apply qf | apply qg | refine qd ?_ Ql.out | refine qd ?_ Qp.out | refine qd ?_ Qq.out) | exact HB.out))));have n3_ := qr (qv (g := Qa) (o := .cells #[.slice Qs Qn.length Qt,.int .i64 Qi,.string Qv,.int .i64 Qw,.slice Qy Qu.length Qz,.int .u8 Qk,.int .u8 Qm] 57 (0,0)) (by (with_reducible repeat (first | refine qa ?_ _ | refine qb ?_ | refine qc ?_ _));exact Qb.out) hb);have n4_ := qr (qv (g := Qc) (o := .cells #[.slice Ye Q6.length Yf,.int .i64 Q4] 49 (0,0)) (by (with_reducible repeat (first | refine qa ?_ _ | refine qb ?_ | refine qc ?_ _));exact Qe.out) hb);have n5_ := qr (qv (g := Qd) (o := .cells #[.string Q7,.int .i64 Q5] 23 (0,0)) (by (with_reducible repeat (first | refine qa ?_ _ | refine qb ?_ | refine qc ?_ _));exact Qf.out) hb);have n6_ := qr (ze (by repeat (first | (with_reducible first | exact HB.out | apply qe | apply qf | apply qg | refine qd ?_ Ql.out | refine qd ?_ Qp.out | refine qd ?_ Qq.out) | exact HB.out)) hb);clear Zc;clear Qg;clear Qb;clear Qe;clear Qf;clear HB;have Zc := n0_;have Qg := n1_;have Zo := n2_;have Qb := n3_;have Qe := n4_;have Qf := n5_;have HB := n6_;clear n0_ n1_ n2_ n3_ n4_ n5_ n6_;(try clear hb);(try clear hb2);(try clear hk);(try clear hi);(try clear ho0)) | ((with_reducible refine zd (N := 18) rfl ?_);(try (refine gate_guard (by rfl) ?_;dsimp only));refine box_event ?hg (N := 18) ?hd (cs := #[.slice none 0 0,.int .i64 0]) (t := 49) ?hr ?_;(case hd => rfl);(case hg => rfl);(case hr => first | (go_simp;done) | (go_simp;rfl));intro Q0 hg Tb hbox hb;have n0_ := qr (qq (Kd.V_elderB (by (with_reducible repeat (first | apply qh | apply qi | apply qj));exact Zc.out) Q0 (zb hg.symm)) hb);have n1_ := qr (qq (Kd.V_elderB (by (with_reducible repeat (first | apply qh | apply qi | apply qj));exact Qg.out) Q0 (zb hg.symm)) hb);have n2_ := qr (qq (Kd.V_elderB (by (with_reducible repeat (first | apply qh | apply qi | apply qj));exact Zo.out) Q0 (zb hg.symm)) hb);have n3_ := qr (qv (g := Qa) (o := .cells #[.slice Qs Qn.length Qt,.int .i64 Qi,.string Qv,.int .i64 Qw,.slice Qy Qu.length Qz,.int .u8 Qk,.int .u8 Qm] 57 (0,0)) (by (with_reducible repeat (first | refine qa ?_ _ | refine qb ?_ | refine qc ?_ _));exact Qb.out) hb);have n4_ := qr (qv (g := Qc) (o := .cells #[.slice Ye Q6.length Yf,.int .i64 Q4] 49 (0,0)) (by (with_reducible repeat (first | refine qa ?_ _ | refine qb ?_ | refine qc ?_ _));exact Qe.out) hb);have n5_ := qr (qv (g := Qd) (o := .cells #[.string Q7,.int .i64 Q5] 23 (0,0)) (by (with_reducible repeat (first | refine qa ?_ _ | refine qb ?_ | refine qc ?_ _));exact Qf.out) hb);have n6_ := qr (ze (by repeat (first | (with_reducible first | exact HB.out | apply qe | apply qf | apply qg | refine qd ?_ Ql.out | refine qd ?_ Qp.out | refine qd ?_ Qq.out) | exact HB.out)) hb);have n7_ := qr (hbox);have n8_ := qr ((by rw [hg];exact (below_size (by repeat (first | (with_reducible first | exact HB.out | apply qe | apply qf | apply qg | refine qd ?_ Ql.out | refine qd ?_ Qp.out | refine qd ?_ Qq.out) | exact HB.out))) : w.heap.size ≤ Q0));have n9_ := qr ((by rw [hg];exact (below_size (by repeat (first | (with_reducible first | exact HB.out | apply qe | apply qf | apply qg | refine qd ?_ Ql.out | refine qd ?_ Qp.out | refine qd ?_ Qq.out) | exact HB.out))) : w.heap.size ≤ Q0));have Z4 := qr ((by rw [hg];exact qz (blk_lt (g := Qa) (o := .cells #[.slice Qs Qn.length Qt,.int .i64 Qi,.string Qv,.int .i64 Qw,.slice Qy Qu.length Qz,.int .u8 Qk,.int .u8 Qm] 57 (0,0)) (by (with_reducible repeat (first | refine qa ?_ _ | refine qb ?_ | refine qc ?_ _));exact Qb.out)) : Qa ≠ Q0));have Xr := qr ((by rw [hg];exact za (blk_lt (g := Qa) (o := .cells #[.slice Qs Qn.length Qt,.int .i64 Qi,.string Qv,.int .i64 Qw,.slice Qy Qu.length Qz,.int .u8 Qk,.int .u8 Qm] 57 (0,0)) (by (with_reducible repeat (first | refine qa ?_ _ | refine qb ?_ | refine qc ?_ _));exact Qb.out)) : Q0 ≠ Qa));have Xs := qr ((by rw [hg];exact qz (blk_lt (g := Qc) (o := .cells #[.slice Ye Q6.length Yf,.int .i64 Q4] 49 (0,0)) (by (with_reducible repeat (first | refine qa ?_ _ | refine qb ?_ | refine qc ?_ _));exact Qe.out)) : Qc ≠ Q0));have Xt := qr ((by rw [hg];exact za (blk_lt (g := Qc) (o := .cells #[.slice Ye Q6.length Yf,.int .i64 Q4] 49 (0,0)) (by (with_reducible repeat (first | refine qa ?_ _ | refine qb ?_ | refine qc ?_ _));exact Qe.out)) : Q0 ≠ Qc));have X8 := qr ((by rw [hg];exact qz (blk_lt (g := Qd) (o := .cells #[.string Q7,.int .i64 Q5] 23 (0,0)) (by (with_reducible repeat (first | refine qa ?_ _ | refine qb ?_ | refine qc ?_ _));exact Qf.out)) : Qd ≠ Q0));have Yk := qr ((by rw [hg];exact za (blk_lt (g := Qd) (o := .cells #[.string Q7,.int .i64 Q5] 23 (0,0)) (by (with_reducible repeat (first | refine qa ?_ _ | refine qb ?_ | refine qc ?_ _));exact Qf.out)) : Q0 ≠ Qd));clear Zc;clear Qg;clear Zo;clear Qb;clear Qe;clear Qf;clear HB;have Zc := n0_;have Qg := n1_;have Zo := n2_;have Qb := n3_;have Qe := n4_;have Qf := n5_;have HB := n6_;have Zj := n7_;have Gd := n8_;have Yl := n9_;have Xj := Z4;have Y0 := Xr;have Zs := Xs;have Zt := Xt;have Zu := X8;have Zv := Yk;clear n0_ n1_ n2_ n3_ n4_ n5_ n6_ n7_ n8_ n9_ Z4 Xr Xs Xt X8 Yk;clear hb hbox hg) | ((with_reducible refine zd (N := 19) rfl ?_);(try (refine gate_guard (by rfl) ?_;dsimp only));refine box_event ?hg (N := 19) ?hd (cs := #[.string (⟨#[]⟩ : ByteArray),.int .i64 0]) (t := 23) ?hr ?_;(case hd => rfl);(case hg => rfl);(case hr => first | (go_simp;done) | (go_simp;rfl));intro Q2 hg Ys hbox hb;have n0_ := qr (qq (Kd.V_elderB (by (with_reducible repeat (first | apply qh | apply qi | apply qj));exact Zc.out) Q2 (zb hg.symm)) hb);have n1_ := qr (qq (Kd.V_elderB (by (with_reducible repeat (first | apply qh | apply qi | apply qj));exact Qg.out) Q2 (zb hg.symm)) hb);have n2_ := qr (qq (Kd.V_elderB (by (with_reducible repeat (first | apply qh | apply qi | apply qj));exact Zo.out) Q2 (zb hg.symm)) hb);have n3_ := qr (qv (g := Qa) (o := .cells #[.slice Qs Qn.length Qt,.int .i64 Qi,.string Qv,.int .i64 Qw,.slice Qy Qu.length Qz,.int .u8 Qk,.int .u8 Qm] 57 (0,0)) (by (with_reducible repeat (first | refine qa ?_ _ | refine qb ?_ | refine qc ?_ _));exact Qb.out) hb);have n4_ := qr (qv (g := Qc) (o := .cells #[.slice Ye Q6.length Yf,.int .i64 Q4] 49 (0,0)) (by (with_reducible repeat (first | refine qa ?_ _ | refine qb ?_ | refine qc ?_ _));exact Qe.out) hb);have n5_ := qr (qv (g := Qd) (o := .cells #[.string Q7,.int .i64 Q5] 23 (0,0)) (by (with_reducible repeat (first | refine qa ?_ _ | refine qb ?_ | refine qc ?_ _));exact Qf.out) hb);have n6_ := qr (qv (g := Q0) (o := .cells #[.slice none 0 0,.int .i64 0] 49 (0,0)) (by (with_reducible repeat (first | refine qa ?_ _ | refine qb ?_ | refine qc ?_ _));exact Zj.out) hb);have n7_ := qr (ze (by repeat (first | (with_reducible first | exact HB.out | apply qe | apply qf | apply qg | refine qd ?_ Ql.out | refine qd ?_ Qp.out | refine qd ?_ Qq.out | refine qd ?_ Yl.out) | exact HB.out)) hb);have n8_ := qr (hbox);have n9_ := qr ((by rw [hg];exact (below_size (by repeat (first | (with_reducible first | exact HB.out | apply qe | apply qf | apply qg | refine qd ?_ Ql.out | refine qd ?_ Qp.out | refine qd ?_ Qq.out | refine qd ?_ Yl.out) | exact HB.out))) : w.heap.size ≤ Q2));have Z4 := qr ((by rw [hg];exact (below_size (by repeat (first | (with_reducible first | exact HB.out | apply qe | apply qf | apply qg | refine qd ?_ Ql.out | refine qd ?_ Qp.out | refine qd ?_ Qq.out | refine qd ?_ Yl.out) | exact HB.out))) : w.heap.size ≤ Q2));have Xr := qr ((by rw [hg];exact qz (blk_lt (g := Qa) (o := .cells #[.slice Qs Qn.length Qt,.int .i64 Qi,.string Qv,.int .i64 Qw,.slice Qy Qu.length Qz,.int .u8 Qk,.int .u8 Qm] 57 (0,0)) (by (with_reducible repeat (first | refine qa ?_ _ | refine qb ?_ | refine qc ?_ _));exact Qb.out)) : Qa ≠ Q2));have Xs := qr ((by rw [hg];exact za (blk_lt (g := Qa) (o := .cells #[.slice Qs Qn.length Qt,.int .i64 Qi,.string Qv,.int .i64 Qw,.slice Qy Qu.length Qz,.int .u8 Qk,.int .u8 Qm] 57 (0,0)) (by (with_reducible repeat (first | refine qa ?_ _ | refine qb ?_ | refine qc ?_ _));exact Qb.out)) : Q2 ≠ Qa));have Xt := qr ((by rw [hg];exact qz (blk_lt (g := Qc) (o := .cells #[.slice Ye Q6.length Yf,.int .i64 Q4] 49 (0,0)) (by (with_reducible repeat (first | refine qa ?_ _ | refine qb ?_ | refine qc ?_ _));exact Qe.out)) : Qc ≠ Q2));have X8 := qr ((by rw [hg];exact za (blk_lt (g := Qc) (o := .cells #[.slice Ye Q6.length Yf,.int .i64 Q4] 49 (0,0)) (by (with_reducible repeat (first | refine qa ?_ _ | refine qb ?_ | refine qc ?_ _));exact Qe.out)) : Q2 ≠ Qc));have Yk := qr ((by rw [hg];exact qz (blk_lt (g := Qd) (o := .cells #[.string Q7,.int .i64 Q5] 23 (0,0)) (by (with_reducible repeat (first | refine qa ?_ _ | refine qb ?_ | refine qc ?_ _));exact Qf.out)) : Qd ≠ Q2));have Jq := qr ((by rw [hg];exact za (blk_lt (g := Qd) (o := .cells #[.string Q7,.int .i64 Q5] 23 (0,0)) (by (with_reducible repeat (first | refine qa ?_ _ | refine qb ?_ | refine qc ?_ _));exact Qf.out)) : Q2 ≠ Qd));have J6 := qr ((by rw [hg];exact qz (blk_lt (g := Q0) (o := .cells #[.slice none 0 0,.int .i64 0] 49 (0,0)) (by (with_reducible repeat (first | refine qa ?_ _ | refine qb ?_ | refine qc ?_ _));exact Zj.out)) : Q0 ≠ Q2));have J7 := qr ((by rw [hg];exact za (blk_lt (g := Q0) (o := .cells #[.slice none 0 0,.int .i64 0] 49 (0,0)) (by (with_reducible repeat (first | refine qa ?_ _ | refine qb ?_ | refine qc ?_ _));exact Zj.out)) : Q2 ≠ Q0));clear Zc;clear Qg;clear Zo;clear Qb;clear Qe;clear Qf;clear Zj;clear HB;have Zc := n0_;have Qg := n1_;have Zo := n2_;have Qb := n3_;have Qe := n4_;have Qf := n5_;have Zj := n6_;have HB := n7_;have Zr := n8_;have Ge := n9_;have Va := Z4;have Xk := Xr;have Y1 := Xs;have Zw := Xt;have Zx := X8;have Zy := Yk;have Zz := Jq;have Xl := J6;have Xm := J7;clear n0_ n1_ n2_ n3_ n4_ n5_ n6_ n7_ n8_ n9_ Z4 Xr Xs Xt X8 Yk Jq J6 J7;clear hb hbox hg;obtain ⟨Z1,Z2,Gy⟩ := Kd.V_slice Zo.out;subst Gy;have Pp := Y0.out;have Pq := Xj.out;have Pr := Zt.out;have Ps := Zs.out;have Pt := Zv.out;have Pu := Zu.out;have Pv := Xl.out;have Pw := Xm.out;have Gz : Ys.cell? ⟨Q0,0,none⟩ = some (.slice none 0 0) := (qw Zj.out 0).trans rfl;have G0 : Ys.cell? ⟨Q0,1,none⟩ = some (.int .i64 0) := (qw Zj.out 1).trans rfl;have G1 := qy Zj.out 0;have G2 := qy Zj.out 1;have Px := Y1.out;have Py := Xk.out;have Pz := Zx.out;have P0 := Zw.out;have P1 := Zz.out;have P2 := Zy.out;have G3 : Ys.cell? ⟨Q2,0,none⟩ = some (.string (⟨#[]⟩ : ByteArray)) := (qw Zr.out 0).trans rfl;have G4 : Ys.cell? ⟨Q2,1,none⟩ = some (.int .i64 0) := (qw Zr.out 1).trans rfl;have G5 := qy Zr.out 0;have G6 := qy Zr.out 1;have Vh : 0 ≤ ((Yh) : Int) := of_decide_eq_true (by first | (with_reducible assumption) | assumption);have Vi : (Yh) < (Qo.length : Int) := of_decide_eq_true (by first | (with_reducible assumption) | assumption);obtain ⟨Yp,Do,Zk⟩ := Kd.at_int (Kd.V_reads' Zc.out).2.2 (Yh) Vh Vi;cases Do;have X0 : Yp.block ≠ Q0 := Kd.own_blk (Kd.V_away Zc.out (Kd.V_pos Vh Vi) (by decide) (fun _ hk => by first | exact hk.2 | exact hk.1.2 | exact hk.1.1.2 | exact hk.1.1.1.2));have X1 : Yp.block ≠ Q0 := Kd.own_blk (Kd.V_away Zc.out (Kd.V_pos Vh Vi) (by decide) (fun _ hk => by first | exact hk.2 | exact hk.1.2 | exact hk.1.1.2 | exact hk.1.1.1.2));have X2 : Yp.block ≠ Q2 := Kd.own_blk (Kd.V_away Zc.out (Kd.V_pos Vh Vi) (by decide) (fun _ hk => by first | exact hk.2 | exact hk.1.2 | exact hk.1.1.2 | exact hk.1.1.1.2));have X3 : Yp.block ≠ Q2 := Kd.own_blk (Kd.V_away Zc.out (Kd.V_pos Vh Vi) (by decide) (fun _ hk => by first | exact hk.2 | exact hk.1.2 | exact hk.1.1.2 | exact hk.1.1.1.2));replace Zk := (cell_far (p := ⟨Q0,0,none⟩) (by first | (rw [add_block];exact X0) | (show (Addr.add _ _).block ≠ _;rw [add_block];exact X0) | exact X0) (.slice Z1 Z3.length Z2)).trans Zk;replace Zk := (cell_far (p := ⟨Q0,1,none⟩) (by first | (rw [add_block];exact X1) | (show (Addr.add _ _).block ≠ _;rw [add_block];exact X1) | exact X1) (.int .i64 Xh)).trans Zk;replace Zk := (cell_far (p := ⟨Q2,0,none⟩) (by first | (rw [add_block];exact X2) | (show (Addr.add _ _).block ≠ _;rw [add_block];exact X2) | exact X2) (.string Z7)).trans Zk;replace Zk := (cell_far (p := ⟨Q2,1,none⟩) (by first | (rw [add_block];exact X3) | (show (Addr.add _ _).block ≠ _;rw [add_block];exact X3) | exact X3) (.int .i64 Xi)).trans Zk;clear X0;clear X1;clear X2;clear X3;replace Vh := eq_true Vh;replace Vi := eq_true Vi))
                   have n0_ : Aside0 (Kd.V (Kd.int .i64) 3 ((((Ys.setCell ⟨Q0,0,none⟩ (.slice Z1 Z3.length Z2)).setCell ⟨Q0,1,none⟩ (.int .i64 Xh)).setCell ⟨Q2,0,none⟩ (.string Z7)).setCell ⟨Q2,1,none⟩ (.int .i64 Xi)) w.heap.size (fun k_ => k_ ≠ Qa ∧ k_ ≠ Qc ∧ k_ ≠ Qd ∧ k_ ≠ Q0 ∧ k_ ≠ Q2) (.slice (some Yp) Qo.length Vd) Qo) := ⟨by (with_reducible repeat (first | apply qh | apply qi | apply qj));exact qp (qn (p := ⟨Q2,1,none⟩) (qn (p := ⟨Q2,0,none⟩) (qn (p := ⟨Q0,1,none⟩) (qn (p := ⟨Q0,0,none⟩) (qp (qp Zc.out (fun k_ hk => (⟨hk,hk.1.2⟩ : _ ∧ k_ ≠ Q0))) (fun k_ hk => (⟨hk,hk.1.2⟩ : _ ∧ k_ ≠ Q2))) (fun _ hk => hk.1.2) (.slice Z1 Z3.length Z2)) (fun _ hk => hk.1.2) (.int .i64 Xh)) (fun _ hk => hk.2) (.string Z7)) (fun _ hk => hk.2) (.int .i64 Xi)) (fun _ hk => ⟨hk.1.1.1.1.1,⟨hk.1.1.1.1.2.1,⟨hk.1.1.1.1.2.2,⟨hk.1.1.1.2,hk.1.1.2⟩⟩⟩⟩)⟩
                   have n1_ : Aside0 (Kd.V (Kd.int .i64) 3 ((((Ys.setCell ⟨Q0,0,none⟩ (.slice Z1 Z3.length Z2)).setCell ⟨Q0,1,none⟩ (.int .i64 Xh)).setCell ⟨Q2,0,none⟩ (.string Z7)).setCell ⟨Q2,1,none⟩ (.int .i64 Xi)) w.heap.size (fun k_ => k_ ≠ Qa ∧ k_ ≠ Qc ∧ k_ ≠ Qd ∧ k_ ≠ Q0 ∧ k_ ≠ Q2) (.slice Ye Q6.length Yf) Q6) := ⟨by (with_reducible repeat (first | apply qh | apply qi | apply qj));exact qp (qn (p := ⟨Q2,1,none⟩) (qn (p := ⟨Q2,0,none⟩) (qn (p := ⟨Q0,1,none⟩) (qn (p := ⟨Q0,0,none⟩) (qp (qp Qg.out (fun k_ hk => (⟨hk,hk.1.2⟩ : _ ∧ k_ ≠ Q0))) (fun k_ hk => (⟨hk,hk.1.2⟩ : _ ∧ k_ ≠ Q2))) (fun _ hk => hk.1.2) (.slice Z1 Z3.length Z2)) (fun _ hk => hk.1.2) (.int .i64 Xh)) (fun _ hk => hk.2) (.string Z7)) (fun _ hk => hk.2) (.int .i64 Xi)) (fun _ hk => ⟨hk.1.1.1.1.1,⟨hk.1.1.1.1.2.1,⟨hk.1.1.1.1.2.2,⟨hk.1.1.1.2,hk.1.1.2⟩⟩⟩⟩)⟩
                   have n2_ : Aside0 (Kd.V (Kd.int .i64) 3 ((((Ys.setCell ⟨Q0,0,none⟩ (.slice Z1 Z3.length Z2)).setCell ⟨Q0,1,none⟩ (.int .i64 Xh)).setCell ⟨Q2,0,none⟩ (.string Z7)).setCell ⟨Q2,1,none⟩ (.int .i64 Xi)) w.heap.size (fun k_ => k_ ≠ Qa ∧ k_ ≠ Qc ∧ k_ ≠ Qd ∧ k_ ≠ Q0 ∧ k_ ≠ Q2) (.slice Z1 Z3.length Z2) Z3) := ⟨by (with_reducible repeat (first | apply qh | apply qi | apply qj));exact qp (qn (p := ⟨Q2,1,none⟩) (qn (p := ⟨Q2,0,none⟩) (qn (p := ⟨Q0,1,none⟩) (qn (p := ⟨Q0,0,none⟩) (qp (qp Zo.out (fun k_ hk => (⟨hk,hk.1.2⟩ : _ ∧ k_ ≠ Q0))) (fun k_ hk => (⟨hk,hk.1.2⟩ : _ ∧ k_ ≠ Q2))) (fun _ hk => hk.1.2) (.slice Z1 Z3.length Z2)) (fun _ hk => hk.1.2) (.int .i64 Xh)) (fun _ hk => hk.2) (.string Z7)) (fun _ hk => hk.2) (.int .i64 Xi)) (fun _ hk => ⟨hk.1.1.1.1.1,⟨hk.1.1.1.1.2.1,⟨hk.1.1.1.1.2.2,⟨hk.1.1.1.2,hk.1.1.2⟩⟩⟩⟩)⟩
                   have n3_ : Aside0 (((((Ys.setCell ⟨Q0,0,none⟩ (.slice Z1 Z3.length Z2)).setCell ⟨Q0,1,none⟩ (.int .i64 Xh)).setCell ⟨Q2,0,none⟩ (.string Z7)).setCell ⟨Q2,1,none⟩ (.int .i64 Xi)).heap[Qa]? = some (.cells #[.slice Qs Qn.length Qt,.int .i64 Qi,.string Qv,.int .i64 Qw,.slice Qy Qu.length Qz,.int .u8 Qk,.int .u8 Qm] 57 (0,0))) := ⟨by (with_reducible repeat (first | refine qa ?_ _ | refine qb ?_ | refine qc ?_ _));refine qx ?_ Xk.out _;(with_reducible repeat (first | refine qa ?_ _ | refine qb ?_ | refine qc ?_ _));refine qx ?_ Xk.out _;(with_reducible repeat (first | refine qa ?_ _ | refine qb ?_ | refine qc ?_ _));refine qx ?_ Xj.out _;(with_reducible repeat (first | refine qa ?_ _ | refine qb ?_ | refine qc ?_ _));refine qx ?_ Xj.out _;(with_reducible repeat (first | refine qa ?_ _ | refine qb ?_ | refine qc ?_ _));exact Qb.out⟩
                   have n4_ : Aside0 (((((Ys.setCell ⟨Q0,0,none⟩ (.slice Z1 Z3.length Z2)).setCell ⟨Q0,1,none⟩ (.int .i64 Xh)).setCell ⟨Q2,0,none⟩ (.string Z7)).setCell ⟨Q2,1,none⟩ (.int .i64 Xi)).heap[Qc]? = some (.cells #[.slice Ye Q6.length Yf,.int .i64 Q4] 49 (0,0))) := ⟨by (with_reducible repeat (first | refine qa ?_ _ | refine qb ?_ | refine qc ?_ _));refine qx ?_ Zw.out _;(with_reducible repeat (first | refine qa ?_ _ | refine qb ?_ | refine qc ?_ _));refine qx ?_ Zw.out _;(with_reducible repeat (first | refine qa ?_ _ | refine qb ?_ | refine qc ?_ _));refine qx ?_ Zs.out _;(with_reducible repeat (first | refine qa ?_ _ | refine qb ?_ | refine qc ?_ _));refine qx ?_ Zs.out _;(with_reducible repeat (first | refine qa ?_ _ | refine qb ?_ | refine qc ?_ _));exact Qe.out⟩
                   have n5_ : Aside0 (((((Ys.setCell ⟨Q0,0,none⟩ (.slice Z1 Z3.length Z2)).setCell ⟨Q0,1,none⟩ (.int .i64 Xh)).setCell ⟨Q2,0,none⟩ (.string Z7)).setCell ⟨Q2,1,none⟩ (.int .i64 Xi)).heap[Qd]? = some (.cells #[.string Q7,.int .i64 Q5] 23 (0,0))) := ⟨by (with_reducible repeat (first | refine qa ?_ _ | refine qb ?_ | refine qc ?_ _));refine qx ?_ Zy.out _;(with_reducible repeat (first | refine qa ?_ _ | refine qb ?_ | refine qc ?_ _));refine qx ?_ Zy.out _;(with_reducible repeat (first | refine qa ?_ _ | refine qb ?_ | refine qc ?_ _));refine qx ?_ Zu.out _;(with_reducible repeat (first | refine qa ?_ _ | refine qb ?_ | refine qc ?_ _));refine qx ?_ Zu.out _;(with_reducible repeat (first | refine qa ?_ _ | refine qb ?_ | refine qc ?_ _));exact Qf.out⟩
                   have n6_ : Aside0 (((((Ys.setCell ⟨Q0,0,none⟩ (.slice Z1 Z3.length Z2)).setCell ⟨Q0,1,none⟩ (.int .i64 Xh)).setCell ⟨Q2,0,none⟩ (.string Z7)).setCell ⟨Q2,1,none⟩ (.int .i64 Xi)).heap[Q0]? = some (.cells #[.slice Z1 Z3.length Z2,.int .i64 Xh] 49 (0,0))) := ⟨by (with_reducible repeat (first | refine qa ?_ _ | refine qb ?_ | refine qc ?_ _));refine qx ?_ Xl.out _;(with_reducible repeat (first | refine qa ?_ _ | refine qb ?_ | refine qc ?_ _));refine qx ?_ Xl.out _;(with_reducible repeat (first | refine qa ?_ _ | refine qb ?_ | refine qc ?_ _));refine blk_put (cs := #[.slice Z1 Z3.length Z2,.int .i64 0]) ?_ 1 _ rfl;(with_reducible repeat (first | refine qa ?_ _ | refine qb ?_ | refine qc ?_ _));refine blk_put (cs := #[.slice none 0 0,.int .i64 0]) ?_ 0 _ rfl;(with_reducible repeat (first | refine qa ?_ _ | refine qb ?_ | refine qc ?_ _));exact Zj.out⟩
                   have n7_ : Aside0 (((((Ys.setCell ⟨Q0,0,none⟩ (.slice Z1 Z3.length Z2)).setCell ⟨Q0,1,none⟩ (.int .i64 Xh)).setCell ⟨Q2,0,none⟩ (.string Z7)).setCell ⟨Q2,1,none⟩ (.int .i64 Xi)).heap[Q2]? = some (.cells #[.string Z7,.int .i64 Xi] 23 (0,0))) := ⟨by (with_reducible repeat (first | refine qa ?_ _ | refine qb ?_ | refine qc ?_ _));refine blk_put (cs := #[.string Z7,.int .i64 0]) ?_ 1 _ rfl;(with_reducible repeat (first | refine qa ?_ _ | refine qb ?_ | refine qc ?_ _));refine blk_put (cs := #[.string (⟨#[]⟩ : ByteArray),.int .i64 0]) ?_ 0 _ rfl;(with_reducible repeat (first | refine qa ?_ _ | refine qb ?_ | refine qc ?_ _));refine qx ?_ Xm.out _;(with_reducible repeat (first | refine qa ?_ _ | refine qb ?_ | refine qc ?_ _));refine qx ?_ Xm.out _;(with_reducible repeat (first | refine qa ?_ _ | refine qb ?_ | refine qc ?_ _));exact Zr.out⟩
                   have n8_ : Aside0 (Below w.heap.size w ((((Ys.setCell ⟨Q0,0,none⟩ (.slice Z1 Z3.length Z2)).setCell ⟨Q0,1,none⟩ (.int .i64 Xh)).setCell ⟨Q2,0,none⟩ (.string Z7)).setCell ⟨Q2,1,none⟩ (.int .i64 Xi))) := ⟨by repeat (first | (with_reducible first | exact HB.out | apply qe | apply qf | apply qg | refine qd ?_ Ql.out | refine qd ?_ Qp.out | refine qd ?_ Qq.out | refine qd ?_ Yl.out | refine qd ?_ Va.out) | exact HB.out)⟩
                   (try clear Zc)
                   (try clear Qg)
                   (try clear Zo)
                   (try clear Qb)
                   (try clear Qe)
                   (try clear Qf)
                   (try clear Zj)
                   (try clear Zr)
                   (try clear HB)
                   generalize ((((Ys.setCell ⟨Q0,0,none⟩ (.slice Z1 Z3.length Z2)).setCell ⟨Q0,1,none⟩ (.int .i64 Xh)).setCell ⟨Q2,0,none⟩ (.string Z7)).setCell ⟨Q2,1,none⟩ (.int .i64 Xi)) = P3 at n0_ n1_ n2_ n3_ n4_ n5_ n6_ n7_ n8_ ⊢
                   have Zc := n0_
                   have Qg := n1_
                   have Zo := n2_
                   have Qb := n3_
                   have Qe := n4_
                   have Qf := n5_
                   have Zj := n6_
                   have Zr := n7_
                   have HB := n8_
                   clear n0_ n1_ n2_ n3_ n4_ n5_ n6_ n7_ n8_
                   have n0_ := qr (qj Zc.out)
                   have n1_ := qr (qj Qg.out)
                   have n2_ := qr (qj Zo.out)
                   have n3_ := qr (qb Qb.out)
                   have n4_ := qr (qb Qe.out)
                   have n5_ := qr (qb Qf.out)
                   have n6_ := qr (qb Zj.out)
                   have n7_ := qr (qb Zr.out)
                   have n8_ := qr (qg HB.out)
                   clear Zc
                   clear Qg
                   clear Zo
                   clear Qb
                   clear Qe
                   clear Qf
                   clear Zj
                   clear Zr
                   clear HB
                   have Zc := n0_
                   have Qg := n1_
                   have Zo := n2_
                   have Qb := n3_
                   have Qe := n4_
                   have Qf := n5_
                   have Zj := n6_
                   have Zr := n7_
                   have HB := n8_
                   clear n0_ n1_ n2_ n3_ n4_ n5_ n6_ n7_ n8_
                   refine start_ (n := 4) (S := fun w' => w'.cell? ⟨Q0,0,none⟩ = some (.slice Z1 Z3.length Z2) ∧ w'.cell? ⟨Q0,1,none⟩ = some (.int .i64 Xh) ∧ w'.cell? ⟨Q2,0,none⟩ = some (.string Z7) ∧ w'.cell? ⟨Q2,1,none⟩ = some (.int .i64 Xi)) (ds := []) #[false,false,false,false] (by kernel_rfl) rfl rfl ⟨(qw Zj.out 0).trans rfl,(qw Zj.out 1).trans rfl,(qw Zr.out 0).trans rfl,(qw Zr.out 1).trans rfl⟩ (fun hHeld => ?_)
                   generalize P3.drew = Dh at Zc Qg Zo Qb Qe Qf Zj Zr HB hHeld ⊢
                   refine take_ (i := 0) (N := some 136) (v := ?_) (a' := ?_) #[true,false,false,false] rfl rfl (by kernel_rfl) (fun _ _ _ h => h) (Or.inl ⟨by rfl,?_⟩) hHeld ?_ ?_
                   rotate_left
                   ·rintro w' ⟨s0,s1,s2,s3⟩
                    go_simp
                    with_reducible rfl
                   rotate_left
                   ·simp only [Act.put,qs,qt,qu,i64_w,i32_w]
                    rfl
                   refine take_ (i := 1) (N := some 137) (v := ?_) (a' := ?_) #[true,true,false,false] rfl rfl (by kernel_rfl) (fun _ _ _ h => h) (Or.inl ⟨by rfl,?_⟩) hHeld ?_ ?_
                   rotate_left
                   ·rintro w' ⟨s0,s1,s2,s3⟩
                    go_simp
                    with_reducible rfl
                   rotate_left
                   ·simp only [Act.put,qs,qt,qu,i64_w,i32_w]
                    rfl
                   refine one_ (i := 2) (N := none) #[true,true,true,false] rfl rfl (by kernel_rfl) (by decide) (fun K hK => ?_)
                   have Rh : Dh.cell? ⟨Qc,0,none⟩ = some (.slice Ye Q6.length Yf) := (qw Qe.out 0).trans rfl
                   have P4 := qy Qe.out 0
                   have G7 := Qh.out
                   have G8 := Qr.out
                   have G9 := Zt.out
                   have Ua := Zx.out
                   have Ub := Q1.out
                   have Uc := Qx.out
                   have Ud := Zs.out
                   have Ue := Zw.out
                   have Ri : Dh.cell? ⟨Qc,1,none⟩ = some (.int .i64 Q4) := (qw Qe.out 1).trans rfl
                   have P5 := qy Qe.out 1
                   have Uf := Qh.out
                   have Ug := Qr.out
                   have Uh := Zt.out
                   have Ui := Zx.out
                   have Uj := Q1.out
                   have Uk := Qx.out
                   have Ul := Zs.out
                   have Um := Zw.out
                   refine skip_ (w1 := ?_) (by rfl) rfl ?_ ?_
                   rotate_left
                   ·go_simp
                    rfl
                   refine hK.out _ _ ⟨((cell_far (p := ⟨Qc,_,none⟩) Zt.out _).trans (((cell_far (p := ⟨Qc,_,none⟩) Zt.out _).trans (hHeld.1)))),((cell_far (p := ⟨Qc,_,none⟩) Zt.out _).trans (((cell_far (p := ⟨Qc,_,none⟩) Zt.out _).trans (hHeld.2.1)))),((cell_far (p := ⟨Qc,_,none⟩) Zx.out _).trans (((cell_far (p := ⟨Qc,_,none⟩) Zx.out _).trans (hHeld.2.2.1)))),((cell_far (p := ⟨Qc,_,none⟩) Zx.out _).trans (((cell_far (p := ⟨Qc,_,none⟩) Zx.out _).trans (hHeld.2.2.2))))⟩ (fun hHeld => ?_)
                   clear hK K
                   refine one_ (i := 3) (N := none) #[true,true,true,true] rfl rfl (by kernel_rfl) (by decide) (fun K hK => ?_)
                   have Rj : Dh.cell? ⟨Qd,0,none⟩ = some (.string Q7) := (qw Qf.out 0).trans rfl
                   have P6 := qy Qf.out 0
                   have Un := Qj.out
                   have Uo := Qx.out
                   have Up := Zv.out
                   have Uq := Zz.out
                   have Ur := Q3.out
                   have Us := Qr.out
                   have Ut := Zu.out
                   have Uu := Zy.out
                   have Rk : Dh.cell? ⟨Qd,1,none⟩ = some (.int .i64 Q5) := (qw Qf.out 1).trans rfl
                   have P7 := qy Qf.out 1
                   have Uv := Qj.out
                   have Uw := Qx.out
                   have Ux := Zv.out
                   have Uy := Zz.out
                   have Uz := Q3.out
                   have U0 := Qr.out
                   have U1 := Zu.out
                   have U2 := Zy.out
                   refine skip_ (w1 := ?_) (by rfl) rfl ?_ ?_
                   rotate_left
                   ·go_simp
                    rfl
                   refine hK.out _ _ ⟨((cell_far (p := ⟨Qd,_,none⟩) Zv.out _).trans (((cell_far (p := ⟨Qd,_,none⟩) Zv.out _).trans (hHeld.1)))),((cell_far (p := ⟨Qd,_,none⟩) Zv.out _).trans (((cell_far (p := ⟨Qd,_,none⟩) Zv.out _).trans (hHeld.2.1)))),((cell_far (p := ⟨Qd,_,none⟩) Zz.out _).trans (((cell_far (p := ⟨Qd,_,none⟩) Zz.out _).trans (hHeld.2.2.1)))),((cell_far (p := ⟨Qd,_,none⟩) Zz.out _).trans (((cell_far (p := ⟨Qd,_,none⟩) Zz.out _).trans (hHeld.2.2.2))))⟩ (fun hHeld => ?_)
                   clear hK K
                   refine done_ (by kernel_rfl) ?_
                   try go_wp2
                   subst Vo
                   go_roundg k4
                   case measure => have := HJ4.out;have := HK2.out;have := HK3.out;have := HK4.out;omega
                   case rel => exact ⟨(wrap64 (Yr + 1)),(Z3),(Xh),(Z7),(Xi),(.slice Z1 Z3.length Z2),(by first | rfl | (simp;done) | (simp [*];done)),H',⟨by have := HJ4.out;have := HK2.out;have := HK3.out;have := HK4.out;omega⟩,⟨by (with_reducible repeat (first | apply qh | apply qi | apply qj));exact qp (qn (p := ⟨Qd,1,none⟩) (qn (p := ⟨Qd,0,none⟩) (qn (p := ⟨Qc,1,none⟩) (qn (p := ⟨Qc,0,none⟩) (qp (qp Zc.out (fun k_ hk => (⟨hk,hk.2.1⟩ : _ ∧ k_ ≠ Qc))) (fun k_ hk => (⟨hk,hk.1.2.2.1⟩ : _ ∧ k_ ≠ Qd))) (fun _ hk => hk.1.2) (.slice Z1 Z3.length Z2)) (fun _ hk => hk.1.2) (.int .i64 Xh)) (fun _ hk => hk.2) (.string Z7)) (fun _ hk => hk.2) (.int .i64 Xi)) (fun _ hk => ⟨hk.1.1.1,⟨hk.1.1.2.1,hk.1.1.2.2.1⟩⟩)⟩,⟨by (with_reducible repeat (first | apply qh | apply qi | apply qj));exact qp (qn (p := ⟨Qd,1,none⟩) (qn (p := ⟨Qd,0,none⟩) (qn (p := ⟨Qc,1,none⟩) (qn (p := ⟨Qc,0,none⟩) (qp (qp Zo.out (fun k_ hk => (⟨hk,hk.2.1⟩ : _ ∧ k_ ≠ Qc))) (fun k_ hk => (⟨hk,hk.1.2.2.1⟩ : _ ∧ k_ ≠ Qd))) (fun _ hk => hk.1.2) (.slice Z1 Z3.length Z2)) (fun _ hk => hk.1.2) (.int .i64 Xh)) (fun _ hk => hk.2) (.string Z7)) (fun _ hk => hk.2) (.int .i64 Xi)) (fun _ hk => ⟨hk.1.1.1,⟨hk.1.1.2.1,hk.1.1.2.2.1⟩⟩)⟩,⟨by (with_reducible repeat (first | refine qa ?_ _ | refine qb ?_ | refine qc ?_ _));refine qx ?_ Qj.out _;(with_reducible repeat (first | refine qa ?_ _ | refine qb ?_ | refine qc ?_ _));refine qx ?_ Qj.out _;(with_reducible repeat (first | refine qa ?_ _ | refine qb ?_ | refine qc ?_ _));refine qx ?_ Qh.out _;(with_reducible repeat (first | refine qa ?_ _ | refine qb ?_ | refine qc ?_ _));refine qx ?_ Qh.out _;(with_reducible repeat (first | refine qa ?_ _ | refine qb ?_ | refine qc ?_ _));exact Qb.out⟩,⟨by (with_reducible repeat (first | refine qa ?_ _ | refine qb ?_ | refine qc ?_ _));refine qx ?_ Qx.out _;(with_reducible repeat (first | refine qa ?_ _ | refine qb ?_ | refine qc ?_ _));refine qx ?_ Qx.out _;(with_reducible repeat (first | refine qa ?_ _ | refine qb ?_ | refine qc ?_ _));refine blk_put (cs := #[.slice Z1 Z3.length Z2,.int .i64 Q4]) ?_ 1 _ rfl;(with_reducible repeat (first | refine qa ?_ _ | refine qb ?_ | refine qc ?_ _));refine blk_put (cs := #[.slice Ye Q6.length Yf,.int .i64 Q4]) ?_ 0 _ rfl;(with_reducible repeat (first | refine qa ?_ _ | refine qb ?_ | refine qc ?_ _));exact Qe.out⟩,⟨by (with_reducible repeat (first | refine qa ?_ _ | refine qb ?_ | refine qc ?_ _));refine blk_put (cs := #[.string Z7,.int .i64 Q5]) ?_ 1 _ rfl;(with_reducible repeat (first | refine qa ?_ _ | refine qb ?_ | refine qc ?_ _));refine blk_put (cs := #[.string Q7,.int .i64 Q5]) ?_ 0 _ rfl;(with_reducible repeat (first | refine qa ?_ _ | refine qb ?_ | refine qc ?_ _));refine qx ?_ Qr.out _;(with_reducible repeat (first | refine qa ?_ _ | refine qb ?_ | refine qc ?_ _));refine qx ?_ Qr.out _;(with_reducible repeat (first | refine qa ?_ _ | refine qb ?_ | refine qc ?_ _));exact Qf.out⟩,⟨by repeat (first | (with_reducible first | exact HB.out | apply qe | apply qf | apply qg | refine qd ?_ Ql.out | refine qd ?_ Qp.out | refine qd ?_ Qq.out | refine qd ?_ Yl.out | refine qd ?_ Va.out) | exact HB.out)⟩⟩
                 ·rw [if_neg c98] at H
                  exact absurd H (by simp)
                ·rw [if_neg c97] at H
                 exact absurd H (by simp)
               ·rw [if_neg c95] at H
                have c95b0 : (J9 == 0) = false := beq_eq_false_iff_ne.mpr c95
                have c95b1 : (J9 != 0) = true := bne_iff_ne.mpr c95
                exact absurd ((Option.some.inj H).trans hrt.out) (by decide)
              ·rw [if_neg c93] at H
               have c93b0 : decide (Yr < (wrap64 ((wrap64 (2 * (Qo.length : Int))) - 1))) = false := decide_eq_false c93
               clear c93
               exact absurd ((Option.some.inj H).trans hrt.out) (by decide)

end Go.Proofs.Ytlanodnbdgiihaa.Fn
