-- Written by program (a turned copy of the kit's print) for this seat: functions, contracts. Lean checks it.
import Derived.Test.YtlanodnbdgiihaaFnx0
import Derived.Test.YtlanodnbdgiihaaFnx1
import Derived.Test.YtlanodnbdgiihaaFnx2
import Derived.Test.YtlanodnbdgiihaaFnx4
import Derived.Test.YtlanodnbdgiihaaFnx13
import Derived.Test.YtlanodnbdgiihaaFnx14
import Derived.Test.YtlanodnbdgiihaaFnx19
import Derived.Test.YtlanodnbdgiihaaAw30
namespace Go.Proofs.Ytlanodnbdgiihaa.Fn
open Go.RowKit Go.Proofs.YtlanodnbdgiihaaW.PrintWords Go.Proofs.YtlanodnbdgiihaaW.PrintLast Go.Proofs.YtlanodnbdgiihaaW.PrintMore
attribute [local go_sem] max2_int min2_int max_two min_two max_three min_three max_four min_four   -- for this text's walks alone
set_option linter.unusedVariables false
set_option linter.unusedSimpArgs false

attribute [local go_sem high] eqA23
/-! ### tattlelaw08_TurnStays: function 11 -/
abbrev tattlelaw08_TurnStays.Q.qa := @blk_drewN
abbrev tattlelaw08_TurnStays.Q.qb := @blk_drew
abbrev tattlelaw08_TurnStays.Q.qc := @blk_alloc
abbrev tattlelaw08_TurnStays.Q.qd := @below_set
abbrev tattlelaw08_TurnStays.Q.qe := @below_alloc
abbrev tattlelaw08_TurnStays.Q.qf := @pw_below_drewN
abbrev tattlelaw08_TurnStays.Q.qg := @below_drew1
abbrev tattlelaw08_TurnStays.Q.qh := @Kd.V_alloc
abbrev tattlelaw08_TurnStays.Q.qi := @Kd.V_drewN
abbrev tattlelaw08_TurnStays.Q.qj := @Kd.V_drew
abbrev tattlelaw08_TurnStays.Q.qk := @Kd.R_alloc
abbrev tattlelaw08_TurnStays.Q.ql := @Kd.R_drewN
abbrev tattlelaw08_TurnStays.Q.qm := @Kd.R_drew
abbrev tattlelaw08_TurnStays.Q.qn := @Kd.V_far
abbrev tattlelaw08_TurnStays.Q.qo := @Kd.R_far
abbrev tattlelaw08_TurnStays.Q.qp := @Kd.V_mono
abbrev tattlelaw08_TurnStays.Q.qq := @Kd.V_below
abbrev tattlelaw08_TurnStays.Q.qr := @Kd.R_below
abbrev tattlelaw08_TurnStays.Q.qs := @Aside0.mk
abbrev tattlelaw08_TurnStays.Q.qt := @List.setIfInBounds_toArray
abbrev tattlelaw08_TurnStays.Q.qu := @List.set_cons_zero
abbrev tattlelaw08_TurnStays.Q.qv := @List.set_cons_succ
abbrev tattlelaw08_TurnStays.Q.qw := @blk_below
abbrev tattlelaw08_TurnStays.Q.qx := @blk_cell
abbrev tattlelaw08_TurnStays.Q.qy := @blk_far
abbrev tattlelaw08_TurnStays.Q.qz := @blk_frozen
abbrev tattlelaw08_TurnStays.Q.za := @Nat.ne_of_lt
abbrev tattlelaw08_TurnStays.Q.zb := @Nat.ne_of_gt
abbrev tattlelaw08_TurnStays.Q.zc := @Nat.le_of_eq
abbrev tattlelaw08_TurnStays.Q.zd := @gate_callee
abbrev tattlelaw08_TurnStays.Q.ze := @gate_dst
abbrev tattlelaw08_TurnStays.Q.zf := @below_step
abbrev tattlelaw08_TurnStays.Q.zg := @List.length_drop
abbrev tattlelaw08_TurnStays.Q.zh := @List.length_take
abbrev tattlelaw08_TurnStays.Q.zi := @List.map_toArray
abbrev tattlelaw08_TurnStays.Q.zj := @List.map_cons
abbrev tattlelaw08_TurnStays.Q.zk := @List.map_nil
abbrev tattlelaw08_TurnStays.Q.zl := @pure_
abbrev tattlelaw08_TurnStays.Q.zm := @norm_
abbrev tattlelaw08_TurnStays.Q.zn := @Nat.le_refl
abbrev tattlelaw08_TurnStays.Q.zo := @Kd.V_lower
abbrev tattlelaw08_TurnStays.Q.zp := @Kd.C_alloc
abbrev tattlelaw08_TurnStays.Q.zq := @Kd.C_drewN
abbrev tattlelaw08_TurnStays.Q.zr := @Kd.C_drew
abbrev tattlelaw08_TurnStays.Q.zs := @goesL_
abbrev tattlelaw08_TurnStays.Q.zt := @goes_
open tattlelaw08_TurnStays.Q
def tattlelaw08_TurnStays.j0 : Nat → Int → Int → Bool → List Int → Int → ByteArray → Int → List Int → Int → ByteArray → Int → List Int → Int → Option (Bool)
  | 0,_,_,_,_,_,_,_,_,_,_,_,_,_ => none
  | k + 1,x8,x11,x74,Vg,Vh,Vi,Vj,Yu,Ye,Vk,Vl,Vm,Vn => if x74 = true then (some false) else (if x11 = 0 then ((turn_Check.f Yu Ye).bind fun Y2 => (if Y2 = 0 then ((turn_Check.f Vm Vn).bind fun Yw => (if Yw = 0 then (if Ye ≥ 1 then (if Ye ≤ (Yu.length : Int) then (if 0 ≤ (wrap64 (Ye - 1)) then (if (wrap64 (Ye - 1)) < (Yu.length : Int) then (if (rd Yu (wrap64 (Ye - 1))) = x8 then ((tattlelaw08_awakeT.f).bind fun Y0 => (some Y0)) else (some false)) else (none)) else (none)) else (some false)) else (some false)) else (some false))) else (some false))) else ((tattleref08_Same.f k Yu Ye Vg Vh).bind fun Jm => (if Jm = true then (if (Vk.toList == Vi.toList && (Vl == Vj)) = true then ((tattlelaw08_awakeT.f).bind fun Y6 => (some Y6)) else (some false)) else (some false))))
def tattlelaw08_TurnStays.f (k : Nat) (Xj : List Int) (Qk : Int) (Xt : ByteArray) (Xo : Int) (l2 : List Int) : Option (Bool) := (tattlelaw08_Few.f Xj).bind fun Qj => ((tattlelaw02_Few.f Xt Xo).bind fun Zz => ((tattlelaw08_Few.f l2).bind fun Zv => ((turn_Check.f Qj Qk).bind fun Yg => (if Yg = 0 then ((some (([] : List Int) : List Int)).bind fun X1 => (if X1.length + Qj.length < 17592186044416 then ((turn_Next.f k Qj Qk Zz.1 Zz.2 Zv).bind fun Qf => (if 0 ≤ Qk then (if Qk ≤ (Qj.length : Int) then ((turn_Next.f k (Qj.drop (Qk : Int).toNat) 0 Zz.1 Zz.2 Zv).bind fun Qn => (if Qf.1 = Qn.1 then (if (!(Qf.2.2.2.1.toList == Qn.2.2.2.1.toList) || (!(Qf.2.2.2.2.1 == Qn.2.2.2.2.1))) = true then (tattlelaw08_TurnStays.j0 k Qf.1 Qf.2.2.2.2.2 true Qj Qk Zz.1 Zz.2 Qf.2.1 Qf.2.2.1 Qf.2.2.2.1 Qf.2.2.2.2.1 Qn.2.1 Qn.2.2.1) else (if Qf.2.2.2.2.2 = Qn.2.2.2.2.2 then ((tattleref02_Same.f k Qj (X1 ++ Qj)).bind fun Xy => (tattlelaw08_TurnStays.j0 k Qf.1 Qf.2.2.2.2.2 (!Xy) Qj Qk Zz.1 Zz.2 Qf.2.1 Qf.2.2.1 Qf.2.2.2.1 Qf.2.2.2.2.1 Qn.2.1 Qn.2.2.1)) else (tattlelaw08_TurnStays.j0 k Qf.1 Qf.2.2.2.2.2 true Qj Qk Zz.1 Zz.2 Qf.2.1 Qf.2.2.1 Qf.2.2.2.1 Qf.2.2.2.2.1 Qn.2.1 Qn.2.2.1))) else (tattlelaw08_TurnStays.j0 k Qf.1 Qf.2.2.2.2.2 true Qj Qk Zz.1 Zz.2 Qf.2.1 Qf.2.2.1 Qf.2.2.2.1 Qf.2.2.2.2.1 Qn.2.1 Qn.2.2.1))) else (none)) else (none))) else (none))) else ((tattlelaw08_awakeT.f).bind fun Yv => (some Yv))))))
theorem tattlelaw08_TurnStays.mono_l : ∀ k,(∀ y0 y1 y2 y3 y4 y5 y6 y7 y8 y9 y10 y11 y12,LeO (tattlelaw08_TurnStays.j0 k y0 y1 y2 y3 y4 y5 y6 y7 y8 y9 y10 y11 y12) (tattlelaw08_TurnStays.j0 (k + 1) y0 y1 y2 y3 y4 y5 y6 y7 y8 y9 y10 y11 y12))
  | 0 => fun _ _ _ _ _ _ _ _ _ _ _ _ _ r h => by simp [tattlelaw08_TurnStays.j0] at h
  | k + 1 => by
   have ih0 := tattlelaw08_TurnStays.mono_l k
   ·intro y0 y1 y2 y3 y4 y5 y6 y7 y8 y9 y10 y11 y12
    unfold tattlelaw08_TurnStays.j0
    repeat' first
    | (with_reducible exact ih0 _ _ _ _ _ _ _ _ _ _ _ _ _)
    | (with_reducible exact tattleref02_Same.mono _ _ _)
    | (with_reducible exact tattleref08_Same.mono _ _ _ _ _)
    | (with_reducible exact turn_Next.mono _ _ _ _ _ _)
    | (with_reducible exact LeO.refl _)
    | (with_reducible exact LeO.none _)
    | (with_reducible refine LeO.ite ?_ ?_)
    | (with_reducible refine LeO.bind ?_ (fun _ => ?_))
    | exact ih0 _ _ _ _ _ _ _ _ _ _ _ _ _
    | exact tattleref02_Same.mono _ _ _
    | exact tattleref08_Same.mono _ _ _ _ _
    | exact turn_Next.mono _ _ _ _ _ _
    | exact LeO.none _
    | refine LeO.ite ?_ ?_
    | refine LeO.bind ?_ (fun _ => ?_)
theorem tattlelaw08_TurnStays.mono : ∀ a0 a1 a2 a3 a4 k,LeO (tattlelaw08_TurnStays.f k a0 a1 a2 a3 a4) (tattlelaw08_TurnStays.f (k + 1) a0 a1 a2 a3 a4) := by
  intro a0 a1 a2 a3 a4 k
  have ih0 := tattlelaw08_TurnStays.mono_l k
  unfold tattlelaw08_TurnStays.f
  repeat' first
    | (with_reducible exact ih0 _ _ _ _ _ _ _ _ _ _ _ _ _)
    | (with_reducible exact tattleref02_Same.mono _ _ _)
    | (with_reducible exact tattleref08_Same.mono _ _ _ _ _)
    | (with_reducible exact turn_Next.mono _ _ _ _ _ _)
    | (with_reducible exact LeO.refl _)
    | (with_reducible exact LeO.none _)
    | (with_reducible refine LeO.ite ?_ ?_)
    | (with_reducible refine LeO.bind ?_ (fun _ => ?_))
    | exact ih0 _ _ _ _ _ _ _ _ _ _ _ _ _
    | exact tattleref02_Same.mono _ _ _
    | exact tattleref08_Same.mono _ _ _ _ _
    | exact turn_Next.mono _ _ _ _ _ _
    | exact LeO.none _
    | refine LeO.ite ?_ ?_
    | refine LeO.bind ?_ (fun _ => ?_)
def tattlelaw08_TurnStays.T1 : Bool × List (List Nat × List Nat) := (true,[([],[]),([0],[0]),([1],[1]),([],[]),([3,2],[3]),([],[]),([5,4],[5]),([0,1,2],[]),([7,2,6,0,1,2],[2,7]),([4,8,0,1,2,3,4,7,8],[4]),([6,9,0,1,2,3,4,5,6,7,8,9],[5,6])])
def tattlelaw08_TurnStays.B1 : List Nat := [0,1,3,0,15,0,63,7,255,511,1023]
theorem tattlelaw08_TurnStays.tab1 : rtab .any (opsOf Try.f11 1) = tattlelaw08_TurnStays.T1 := by kernel_rfl
theorem tattlelaw08_TurnStays.bits1 : waitsOk tattlelaw08_TurnStays.T1.2 tattlelaw08_TurnStays.B1 = true := by kernel_rfl
def tattlelaw08_TurnStays.T6 : Bool × List (List Nat × List Nat) := (true,[([],[]),([0],[0]),([],[]),([2],[2]),([1,3],[1,3]),([4],[4]),([],[]),([],[]),([5,6,7],[5,6,7]),([8],[8]),([9],[9]),([9],[9]),([9],[9]),([9],[9]),([],[]),([],[]),([10,8,0,1,2,3,4,5,6,7,8,9,10,14,15],[10]),([14,11,16,0,1,2,3,4,5,6,7,8,9,10,11,14,15,16],[11,14]),([15,12,17,0,1,2,3,4,5,6,7,8,9,10,11,12,14,15,16,17],[12,15]),([13,18,0,1,2,3,4,5,6,7,8,9,10,11,12,13,14,15,16,17,18],[13])])
def tattlelaw08_TurnStays.B6 : List Nat := [0,1,0,4,15,31,0,0,255,511,1023,1023,1023,1023,0,0,51199,118783,253951,524287]
theorem tattlelaw08_TurnStays.tab6 : rtab .any (opsOf Try.f11 6) = tattlelaw08_TurnStays.T6 := by kernel_rfl
theorem tattlelaw08_TurnStays.bits6 : waitsOk tattlelaw08_TurnStays.T6.2 tattlelaw08_TurnStays.B6 = true := by kernel_rfl
set_option maxHeartbeats 8000000 in
set_option maxRecDepth 100000 in
theorem tattlelaw08_TurnStays.calls (k : Nat) (Xp : Option Addr) (Xq : Nat) (Xj : List Int) (Qk : Int) (Xt : ByteArray) (Xo : Int) (A2 : Option Addr) (c2 : Nat) (l2 : List Int) (r : Bool) (w : World) (Dn : Kd.C (Kd.int .i64) w Xp Xj.length Xj) (Do : Xj.length ≤ Xq) (hr2 : Kd.C (Kd.int .i64) w A2 l2.length l2) (hc2 : l2.length ≤ c2) (hrt : Aside0 (r = true)) (h : tattlelaw08_TurnStays.f k Xj Qk Xt Xo l2 = some r) :
   Calls Try.prog 11 #[.agg #[.slice Xp Xj.length Xq,.int .i64 Qk],.agg #[.string Xt,.int .i64 Xo],.slice A2 l2.length c2] w fun e w' => e = .returned (.bool r) ∧ Below w.heap.size w w' := by
  have Tx := Try.underlying49
  have Ty := Try.underlying23
  have Dp := qs Dn
  have Dq := qs Do
  clear Dn Do
  have HR2 := qs hr2
  have HC2 := qs hc2
  clear hr2 hc2
  have HB := qs (Below.refl w.heap.size w)
  have H : ((tattlelaw08_Few.f Xj).bind fun Qj => ((tattlelaw02_Few.f Xt Xo).bind fun Zz => ((tattlelaw08_Few.f l2).bind fun Zv => ((turn_Check.f Qj Qk).bind fun Yg => (if Yg = 0 then ((some (([] : List Int) : List Int)).bind fun X1 => (if X1.length + Qj.length < 17592186044416 then ((turn_Next.f k Qj Qk Zz.1 Zz.2 Zv).bind fun Qf => (if 0 ≤ Qk then (if Qk ≤ (Qj.length : Int) then ((turn_Next.f k (Qj.drop (Qk : Int).toNat) 0 Zz.1 Zz.2 Zv).bind fun Qn => (if Qf.1 = Qn.1 then (if (!(Qf.2.2.2.1.toList == Qn.2.2.2.1.toList) || (!(Qf.2.2.2.2.1 == Qn.2.2.2.2.1))) = true then (tattlelaw08_TurnStays.j0 k Qf.1 Qf.2.2.2.2.2 true Qj Qk Zz.1 Zz.2 Qf.2.1 Qf.2.2.1 Qf.2.2.2.1 Qf.2.2.2.2.1 Qn.2.1 Qn.2.2.1) else (if Qf.2.2.2.2.2 = Qn.2.2.2.2.2 then ((tattleref02_Same.f k Qj (X1 ++ Qj)).bind fun Xy => (tattlelaw08_TurnStays.j0 k Qf.1 Qf.2.2.2.2.2 (!Xy) Qj Qk Zz.1 Zz.2 Qf.2.1 Qf.2.2.1 Qf.2.2.2.1 Qf.2.2.2.2.1 Qn.2.1 Qn.2.2.1)) else (tattlelaw08_TurnStays.j0 k Qf.1 Qf.2.2.2.2.2 true Qj Qk Zz.1 Zz.2 Qf.2.1 Qf.2.2.1 Qf.2.2.2.1 Qf.2.2.2.2.1 Qn.2.1 Qn.2.2.1))) else (tattlelaw08_TurnStays.j0 k Qf.1 Qf.2.2.2.2.2 true Qj Qk Zz.1 Zz.2 Qf.2.1 Qf.2.2.1 Qf.2.2.2.1 Qf.2.2.2.2.1 Qn.2.1 Qn.2.2.1))) else (none)) else (none))) else (none))) else ((tattlelaw08_awakeT.f).bind fun Yv => (some Yv))))))) = some r := h
  clear h
  replace H := Option.bind_eq_some_iff.mp H
  obtain ⟨Qj,A40,H⟩ := H
  replace H : ((tattlelaw02_Few.f Xt Xo).bind fun Zz => ((tattlelaw08_Few.f l2).bind fun Zv => ((turn_Check.f Qj Qk).bind fun Yg => (if Yg = 0 then ((some (([] : List Int) : List Int)).bind fun X1 => (if X1.length + Qj.length < 17592186044416 then ((turn_Next.f k Qj Qk Zz.1 Zz.2 Zv).bind fun Qf => (if 0 ≤ Qk then (if Qk ≤ (Qj.length : Int) then ((turn_Next.f k (Qj.drop (Qk : Int).toNat) 0 Zz.1 Zz.2 Zv).bind fun Qn => (if Qf.1 = Qn.1 then (if (!(Qf.2.2.2.1.toList == Qn.2.2.2.1.toList) || (!(Qf.2.2.2.2.1 == Qn.2.2.2.2.1))) = true then (tattlelaw08_TurnStays.j0 k Qf.1 Qf.2.2.2.2.2 true Qj Qk Zz.1 Zz.2 Qf.2.1 Qf.2.2.1 Qf.2.2.2.1 Qf.2.2.2.2.1 Qn.2.1 Qn.2.2.1) else (if Qf.2.2.2.2.2 = Qn.2.2.2.2.2 then ((tattleref02_Same.f k Qj (X1 ++ Qj)).bind fun Xy => (tattlelaw08_TurnStays.j0 k Qf.1 Qf.2.2.2.2.2 (!Xy) Qj Qk Zz.1 Zz.2 Qf.2.1 Qf.2.2.1 Qf.2.2.2.1 Qf.2.2.2.2.1 Qn.2.1 Qn.2.2.1)) else (tattlelaw08_TurnStays.j0 k Qf.1 Qf.2.2.2.2.2 true Qj Qk Zz.1 Zz.2 Qf.2.1 Qf.2.2.1 Qf.2.2.2.1 Qf.2.2.2.2.1 Qn.2.1 Qn.2.2.1))) else (tattlelaw08_TurnStays.j0 k Qf.1 Qf.2.2.2.2.2 true Qj Qk Zz.1 Zz.2 Qf.2.1 Qf.2.2.1 Qf.2.2.2.1 Qf.2.2.2.2.1 Qn.2.1 Qn.2.2.1))) else (none)) else (none))) else (none))) else ((tattlelaw08_awakeT.f).bind fun Yv => (some Yv)))))) = some r := H
  have A4 := qs A40
  clear A40
  replace H := Option.bind_eq_some_iff.mp H
  obtain ⟨⟨Qp,Qq⟩,A50,H⟩ := H
  replace H : ((tattlelaw08_Few.f l2).bind fun Zv => ((turn_Check.f Qj Qk).bind fun Yg => (if Yg = 0 then ((some (([] : List Int) : List Int)).bind fun X1 => (if X1.length + Qj.length < 17592186044416 then ((turn_Next.f k Qj Qk Qp Qq Zv).bind fun Qf => (if 0 ≤ Qk then (if Qk ≤ (Qj.length : Int) then ((turn_Next.f k (Qj.drop (Qk : Int).toNat) 0 Qp Qq Zv).bind fun Qn => (if Qf.1 = Qn.1 then (if (!(Qf.2.2.2.1.toList == Qn.2.2.2.1.toList) || (!(Qf.2.2.2.2.1 == Qn.2.2.2.2.1))) = true then (tattlelaw08_TurnStays.j0 k Qf.1 Qf.2.2.2.2.2 true Qj Qk Qp Qq Qf.2.1 Qf.2.2.1 Qf.2.2.2.1 Qf.2.2.2.2.1 Qn.2.1 Qn.2.2.1) else (if Qf.2.2.2.2.2 = Qn.2.2.2.2.2 then ((tattleref02_Same.f k Qj (X1 ++ Qj)).bind fun Xy => (tattlelaw08_TurnStays.j0 k Qf.1 Qf.2.2.2.2.2 (!Xy) Qj Qk Qp Qq Qf.2.1 Qf.2.2.1 Qf.2.2.2.1 Qf.2.2.2.2.1 Qn.2.1 Qn.2.2.1)) else (tattlelaw08_TurnStays.j0 k Qf.1 Qf.2.2.2.2.2 true Qj Qk Qp Qq Qf.2.1 Qf.2.2.1 Qf.2.2.2.1 Qf.2.2.2.2.1 Qn.2.1 Qn.2.2.1))) else (tattlelaw08_TurnStays.j0 k Qf.1 Qf.2.2.2.2.2 true Qj Qk Qp Qq Qf.2.1 Qf.2.2.1 Qf.2.2.2.1 Qf.2.2.2.2.1 Qn.2.1 Qn.2.2.1))) else (none)) else (none))) else (none))) else ((tattlelaw08_awakeT.f).bind fun Yv => (some Yv))))) = some r := H
  have A5 := qs A50
  clear A50
  replace H := Option.bind_eq_some_iff.mp H
  obtain ⟨Zv,A60,H⟩ := H
  replace H : ((turn_Check.f Qj Qk).bind fun Yg => (if Yg = 0 then ((some (([] : List Int) : List Int)).bind fun X1 => (if X1.length + Qj.length < 17592186044416 then ((turn_Next.f k Qj Qk Qp Qq Zv).bind fun Qf => (if 0 ≤ Qk then (if Qk ≤ (Qj.length : Int) then ((turn_Next.f k (Qj.drop (Qk : Int).toNat) 0 Qp Qq Zv).bind fun Qn => (if Qf.1 = Qn.1 then (if (!(Qf.2.2.2.1.toList == Qn.2.2.2.1.toList) || (!(Qf.2.2.2.2.1 == Qn.2.2.2.2.1))) = true then (tattlelaw08_TurnStays.j0 k Qf.1 Qf.2.2.2.2.2 true Qj Qk Qp Qq Qf.2.1 Qf.2.2.1 Qf.2.2.2.1 Qf.2.2.2.2.1 Qn.2.1 Qn.2.2.1) else (if Qf.2.2.2.2.2 = Qn.2.2.2.2.2 then ((tattleref02_Same.f k Qj (X1 ++ Qj)).bind fun Xy => (tattlelaw08_TurnStays.j0 k Qf.1 Qf.2.2.2.2.2 (!Xy) Qj Qk Qp Qq Qf.2.1 Qf.2.2.1 Qf.2.2.2.1 Qf.2.2.2.2.1 Qn.2.1 Qn.2.2.1)) else (tattlelaw08_TurnStays.j0 k Qf.1 Qf.2.2.2.2.2 true Qj Qk Qp Qq Qf.2.1 Qf.2.2.1 Qf.2.2.2.1 Qf.2.2.2.2.1 Qn.2.1 Qn.2.2.1))) else (tattlelaw08_TurnStays.j0 k Qf.1 Qf.2.2.2.2.2 true Qj Qk Qp Qq Qf.2.1 Qf.2.2.1 Qf.2.2.2.1 Qf.2.2.2.2.1 Qn.2.1 Qn.2.2.1))) else (none)) else (none))) else (none))) else ((tattlelaw08_awakeT.f).bind fun Yv => (some Yv)))) = some r := H
  have A6 := qs A60
  clear A60
  replace H := Option.bind_eq_some_iff.mp H
  obtain ⟨Yg,A70,H⟩ := H
  replace H : (if Yg = 0 then ((some (([] : List Int) : List Int)).bind fun X1 => (if X1.length + Qj.length < 17592186044416 then ((turn_Next.f k Qj Qk Qp Qq Zv).bind fun Qf => (if 0 ≤ Qk then (if Qk ≤ (Qj.length : Int) then ((turn_Next.f k (Qj.drop (Qk : Int).toNat) 0 Qp Qq Zv).bind fun Qn => (if Qf.1 = Qn.1 then (if (!(Qf.2.2.2.1.toList == Qn.2.2.2.1.toList) || (!(Qf.2.2.2.2.1 == Qn.2.2.2.2.1))) = true then (tattlelaw08_TurnStays.j0 k Qf.1 Qf.2.2.2.2.2 true Qj Qk Qp Qq Qf.2.1 Qf.2.2.1 Qf.2.2.2.1 Qf.2.2.2.2.1 Qn.2.1 Qn.2.2.1) else (if Qf.2.2.2.2.2 = Qn.2.2.2.2.2 then ((tattleref02_Same.f k Qj (X1 ++ Qj)).bind fun Xy => (tattlelaw08_TurnStays.j0 k Qf.1 Qf.2.2.2.2.2 (!Xy) Qj Qk Qp Qq Qf.2.1 Qf.2.2.1 Qf.2.2.2.1 Qf.2.2.2.2.1 Qn.2.1 Qn.2.2.1)) else (tattlelaw08_TurnStays.j0 k Qf.1 Qf.2.2.2.2.2 true Qj Qk Qp Qq Qf.2.1 Qf.2.2.1 Qf.2.2.2.1 Qf.2.2.2.2.1 Qn.2.1 Qn.2.2.1))) else (tattlelaw08_TurnStays.j0 k Qf.1 Qf.2.2.2.2.2 true Qj Qk Qp Qq Qf.2.1 Qf.2.2.1 Qf.2.2.2.1 Qf.2.2.2.2.1 Qn.2.1 Qn.2.2.1))) else (none)) else (none))) else (none))) else ((tattlelaw08_awakeT.f).bind fun Yv => (some Yv))) = some r := H
  have A7 := qs A70
  clear A70
  by_cases c8 : Yg = 0
  ·rw [if_pos c8] at H
   have c8b0 : (Yg == 0) = true := beq_iff_eq.mpr c8
   have c8b1 : (Yg != 0) = false := bne_eq_false_iff_eq.mpr c8
   clear c8
   obtain ⟨X1,Y9⟩ : ∃ y_ : List Int,y_ = (([] : List Int)) := ⟨_,rfl⟩
   replace H : (if X1.length + Qj.length < 17592186044416 then ((turn_Next.f k Qj Qk Qp Qq Zv).bind fun Qf => (if 0 ≤ Qk then (if Qk ≤ (Qj.length : Int) then ((turn_Next.f k (Qj.drop (Qk : Int).toNat) 0 Qp Qq Zv).bind fun Qn => (if Qf.1 = Qn.1 then (if (!(Qf.2.2.2.1.toList == Qn.2.2.2.1.toList) || (!(Qf.2.2.2.2.1 == Qn.2.2.2.2.1))) = true then (tattlelaw08_TurnStays.j0 k Qf.1 Qf.2.2.2.2.2 true Qj Qk Qp Qq Qf.2.1 Qf.2.2.1 Qf.2.2.2.1 Qf.2.2.2.2.1 Qn.2.1 Qn.2.2.1) else (if Qf.2.2.2.2.2 = Qn.2.2.2.2.2 then ((tattleref02_Same.f k Qj (X1 ++ Qj)).bind fun Xy => (tattlelaw08_TurnStays.j0 k Qf.1 Qf.2.2.2.2.2 (!Xy) Qj Qk Qp Qq Qf.2.1 Qf.2.2.1 Qf.2.2.2.1 Qf.2.2.2.2.1 Qn.2.1 Qn.2.2.1)) else (tattlelaw08_TurnStays.j0 k Qf.1 Qf.2.2.2.2.2 true Qj Qk Qp Qq Qf.2.1 Qf.2.2.1 Qf.2.2.2.1 Qf.2.2.2.2.1 Qn.2.1 Qn.2.2.1))) else (tattlelaw08_TurnStays.j0 k Qf.1 Qf.2.2.2.2.2 true Qj Qk Qp Qq Qf.2.1 Qf.2.2.1 Qf.2.2.2.1 Qf.2.2.2.2.1 Qn.2.1 Qn.2.2.1))) else (none)) else (none))) else (none)) = some r := by first | (rw [Y9];with_reducible exact H) | (have H2_ := (Option.bind_some _ _).symm.trans H;rw [Y9];with_reducible exact H2_) | (have H2_ := (Option.bind_some _ _).symm.trans H;with_reducible exact H2_) | with_reducible exact H | (rw [Y9];exact H) | exact H
   have Dr := qs Y9
   clear Y9
   by_cases c9 : X1.length + Qj.length < 17592186044416
   ·rw [if_pos c9] at H
    have Lo := qs c9
    clear c9
    obtain ⟨X4,Ja⟩ : ∃ y_ : List Int,y_ = (X1 ++ Qj) := ⟨_,rfl⟩
    replace H : ((turn_Next.f k Qj Qk Qp Qq Zv).bind fun Qf => (if 0 ≤ Qk then (if Qk ≤ (Qj.length : Int) then ((turn_Next.f k (Qj.drop (Qk : Int).toNat) 0 Qp Qq Zv).bind fun Qn => (if Qf.1 = Qn.1 then (if (!(Qf.2.2.2.1.toList == Qn.2.2.2.1.toList) || (!(Qf.2.2.2.2.1 == Qn.2.2.2.2.1))) = true then (tattlelaw08_TurnStays.j0 k Qf.1 Qf.2.2.2.2.2 true Qj Qk Qp Qq Qf.2.1 Qf.2.2.1 Qf.2.2.2.1 Qf.2.2.2.2.1 Qn.2.1 Qn.2.2.1) else (if Qf.2.2.2.2.2 = Qn.2.2.2.2.2 then ((tattleref02_Same.f k Qj X4).bind fun Xy => (tattlelaw08_TurnStays.j0 k Qf.1 Qf.2.2.2.2.2 (!Xy) Qj Qk Qp Qq Qf.2.1 Qf.2.2.1 Qf.2.2.2.1 Qf.2.2.2.2.1 Qn.2.1 Qn.2.2.1)) else (tattlelaw08_TurnStays.j0 k Qf.1 Qf.2.2.2.2.2 true Qj Qk Qp Qq Qf.2.1 Qf.2.2.1 Qf.2.2.2.1 Qf.2.2.2.2.1 Qn.2.1 Qn.2.2.1))) else (tattlelaw08_TurnStays.j0 k Qf.1 Qf.2.2.2.2.2 true Qj Qk Qp Qq Qf.2.1 Qf.2.2.1 Qf.2.2.2.1 Qf.2.2.2.2.1 Qn.2.1 Qn.2.2.1))) else (none)) else (none))) = some r := by first | (rw [Ja];with_reducible exact H) | (have H2_ := (Option.bind_some _ _).symm.trans H;rw [Ja];with_reducible exact H2_) | (have H2_ := (Option.bind_some _ _).symm.trans H;with_reducible exact H2_) | with_reducible exact H | (rw [Ja];exact H) | exact H
    have D6 := qs Ja
    clear Ja
    replace H := Option.bind_eq_some_iff.mp H
    obtain ⟨⟨Xk,Qs,Q0,Q7,Q9,Xr⟩,D7,H⟩ := H
    replace H : (if 0 ≤ Qk then (if Qk ≤ (Qj.length : Int) then ((turn_Next.f k (Qj.drop (Qk : Int).toNat) 0 Qp Qq Zv).bind fun Qn => (if Xk = Qn.1 then (if (!(Q7.toList == Qn.2.2.2.1.toList) || (!(Q9 == Qn.2.2.2.2.1))) = true then (tattlelaw08_TurnStays.j0 k Xk Xr true Qj Qk Qp Qq Qs Q0 Q7 Q9 Qn.2.1 Qn.2.2.1) else (if Xr = Qn.2.2.2.2.2 then ((tattleref02_Same.f k Qj X4).bind fun Xy => (tattlelaw08_TurnStays.j0 k Xk Xr (!Xy) Qj Qk Qp Qq Qs Q0 Q7 Q9 Qn.2.1 Qn.2.2.1)) else (tattlelaw08_TurnStays.j0 k Xk Xr true Qj Qk Qp Qq Qs Q0 Q7 Q9 Qn.2.1 Qn.2.2.1))) else (tattlelaw08_TurnStays.j0 k Xk Xr true Qj Qk Qp Qq Qs Q0 Q7 Q9 Qn.2.1 Qn.2.2.1))) else (none)) else (none)) = some r := H
    have A10 := qs D7
    clear D7
    by_cases c11 : 0 ≤ Qk
    ·rw [if_pos c11] at H
     have c11b0 := eq_true c11
     have c11b1 : decide (0 ≤ Qk) = true := decide_eq_true c11
     clear c11
     by_cases c12 : Qk ≤ (Qj.length : Int)
     ·rw [if_pos c12] at H
      have c12b0 := eq_true c12
      have c12b1 : decide (Qk ≤ (Qj.length : Int)) = true := decide_eq_true c12
      clear c12
      obtain ⟨Z8,Jb⟩ : ∃ y_ : List Int,y_ = (Qj.drop (Qk : Int).toNat) := ⟨_,rfl⟩
      replace H : ((turn_Next.f k Z8 0 Qp Qq Zv).bind fun Qn => (if Xk = Qn.1 then (if (!(Q7.toList == Qn.2.2.2.1.toList) || (!(Q9 == Qn.2.2.2.2.1))) = true then (tattlelaw08_TurnStays.j0 k Xk Xr true Qj Qk Qp Qq Qs Q0 Q7 Q9 Qn.2.1 Qn.2.2.1) else (if Xr = Qn.2.2.2.2.2 then ((tattleref02_Same.f k Qj X4).bind fun Xy => (tattlelaw08_TurnStays.j0 k Xk Xr (!Xy) Qj Qk Qp Qq Qs Q0 Q7 Q9 Qn.2.1 Qn.2.2.1)) else (tattlelaw08_TurnStays.j0 k Xk Xr true Qj Qk Qp Qq Qs Q0 Q7 Q9 Qn.2.1 Qn.2.2.1))) else (tattlelaw08_TurnStays.j0 k Xk Xr true Qj Qk Qp Qq Qs Q0 Q7 Q9 Qn.2.1 Qn.2.2.1))) = some r := by first | (rw [Jb];with_reducible exact H) | (have H2_ := (Option.bind_some _ _).symm.trans H;rw [Jb];with_reducible exact H2_) | (have H2_ := (Option.bind_some _ _).symm.trans H;with_reducible exact H2_) | with_reducible exact H | (rw [Jb];exact H) | exact H
      have Ds := qs Jb
      clear Jb
      replace H := Option.bind_eq_some_iff.mp H
      obtain ⟨⟨X5,Z4,Z7,Z9,Xi,X6⟩,D8,H⟩ := H
      replace H : (if Xk = X5 then (if (!(Q7.toList == Z9.toList) || (!(Q9 == Xi))) = true then (tattlelaw08_TurnStays.j0 k Xk Xr true Qj Qk Qp Qq Qs Q0 Q7 Q9 Z4 Z7) else (if Xr = X6 then ((tattleref02_Same.f k Qj X4).bind fun Xy => (tattlelaw08_TurnStays.j0 k Xk Xr (!Xy) Qj Qk Qp Qq Qs Q0 Q7 Q9 Z4 Z7)) else (tattlelaw08_TurnStays.j0 k Xk Xr true Qj Qk Qp Qq Qs Q0 Q7 Q9 Z4 Z7))) else (tattlelaw08_TurnStays.j0 k Xk Xr true Qj Qk Qp Qq Qs Q0 Q7 Q9 Z4 Z7)) = some r := H
      have A13 := qs D8
      clear D8
      have D2 := qs H
      clear H
      go_enter Try.func11,Try.ntmps11
      try go_wp2_with (first | ((with_reducible refine ze (N := 3) rfl ?_);(try (refine gate_guard (by rfl) ?_;dsimp only));refine box_event ?hg (N := 3) ?hd (cs := #[.slice Xp Xj.length Xq,.int .i64 Qk]) (t := 49) ?hr ?_;(case hd => rfl);(case hg => rfl);(case hr => first | (go_simp;done) | (go_simp;rfl));intro Qa hg w15 hbox hb;have n0_ := qs (zf (by repeat (first | (with_reducible first | exact HB.out | apply qe | apply qf | apply qg) | exact HB.out)) hb);have n1_ := qs (hbox);have n2_ := qs ((by rw [hg];exact (below_size (by repeat (first | (with_reducible first | exact HB.out | apply qe | apply qf | apply qg) | exact HB.out))) : w.heap.size ≤ Qa));have n3_ := qs ((by rw [hg];exact (below_size (by repeat (first | (with_reducible first | exact HB.out | apply qe | apply qf | apply qg) | exact HB.out))) : w.heap.size ≤ Qa));clear HB;have HB := n0_;have Qc := n1_;have Jc := n2_;have Qt := n3_;clear n0_ n1_ n2_ n3_;clear hb hbox hg) | ((with_reducible refine ze (N := 4) rfl ?_);(try (refine gate_guard (by rfl) ?_;dsimp only));refine box_event ?hg (N := 4) ?hd (cs := #[.string Xt,.int .i64 Xo]) (t := 23) ?hr ?_;(case hd => rfl);(case hg => rfl);(case hr => first | (go_simp;done) | (go_simp;rfl));intro Qb hg w16 hbox hb;have n0_ := qs (qw (g := Qa) (o := .cells #[.slice Xp Xj.length Xq,.int .i64 Qk] 49 (0,0)) (by (with_reducible repeat (first | refine qa ?_ _ | refine qb ?_ | refine qc ?_ _));exact Qc.out) hb);have n1_ := qs (zf (by repeat (first | (with_reducible first | exact HB.out | apply qe | apply qf | apply qg | refine qd ?_ Qt.out) | exact HB.out)) hb);have n2_ := qs (hbox);have n3_ := qs ((by rw [hg];exact (below_size (by repeat (first | (with_reducible first | exact HB.out | apply qe | apply qf | apply qg | refine qd ?_ Qt.out) | exact HB.out))) : w.heap.size ≤ Qb));have n4_ := qs ((by rw [hg];exact (below_size (by repeat (first | (with_reducible first | exact HB.out | apply qe | apply qf | apply qg | refine qd ?_ Qt.out) | exact HB.out))) : w.heap.size ≤ Qb));have n5_ := qs ((by rw [hg];exact za (blk_lt (g := Qa) (o := .cells #[.slice Xp Xj.length Xq,.int .i64 Qk] 49 (0,0)) (by (with_reducible repeat (first | refine qa ?_ _ | refine qb ?_ | refine qc ?_ _));exact Qc.out)) : Qa ≠ Qb));have n6_ := qs ((by rw [hg];exact zb (blk_lt (g := Qa) (o := .cells #[.slice Xp Xj.length Xq,.int .i64 Qk] 49 (0,0)) (by (with_reducible repeat (first | refine qa ?_ _ | refine qb ?_ | refine qc ?_ _));exact Qc.out)) : Qb ≠ Qa));clear Qc;clear HB;have Qc := n0_;have HB := n1_;have Qg := n2_;have Jd := n3_;have Qu := n4_;have Z1 := n5_;have Z5 := n6_;clear n0_ n1_ n2_ n3_ n4_ n5_ n6_;clear hb hbox hg))
      have n0_ := qs (qb Qc.out)
      have n1_ := qs (qb Qg.out)
      have n2_ := qs (qg HB.out)
      clear Qc
      clear Qg
      clear HB
      have Qc := n0_
      have Qg := n1_
      have HB := n2_
      clear n0_ n1_ n2_
      refine start_ (n := 11) (S := fun w' => w'.cell? ⟨Qa,0,none⟩ = some (.slice Xp Xj.length Xq) ∧ w'.cell? ⟨Qa,1,none⟩ = some (.int .i64 Qk) ∧ w'.cell? ⟨Qb,0,none⟩ = some (.string Xt) ∧ w'.cell? ⟨Qb,1,none⟩ = some (.int .i64 Xo)) (ds := [8,9]) #[false,false,false,false,false,false,false,false,false,false,false] (by kernel_rfl) rfl rfl ⟨(qx Qc.out 0).trans rfl,(qx Qc.out 1).trans rfl,(qx Qg.out 0).trans rfl,(qx Qg.out 1).trans rfl⟩ (fun hHeld => ?_);refine with_tabW tattlelaw08_TurnStays.tab1 tattlelaw08_TurnStays.bits1 (fun HT_ HW_ => ?_)
      generalize w16.drew = w17 at Qc Qg HB hHeld ⊢
      refine zl (i := 0) (N := some 16) (v := ?_) (a' := ?_) #[true,false,false,false,false,false,false,false,false,false,false] rfl rfl (any_of HT_.out (by kernel_rfl)) (fun _ _ _ h => h) (Or.inl ⟨by rfl,?_⟩) ?_ ?_
      rotate_left
      ·intro w'
       go_simp
       with_reducible rfl
      rotate_left
      ·simp only [Act.put,qt,qu,qv,i64_w,i32_w]
       rfl
      refine zl (i := 5) (N := some 21) (v := ?_) (a' := ?_) #[true,false,false,false,false,true,false,false,false,false,false] rfl rfl (any_of HT_.out (by kernel_rfl)) (fun _ _ _ h => h) (Or.inl ⟨by rfl,?_⟩) ?_ ?_
      rotate_left
      ·intro w'
       go_simp
       with_reducible rfl
      rotate_left
      ·simp only [Act.put,qt,qu,qv,i64_w,i32_w]
       rfl
      refine take_ (i := 1) (N := some 17) (v := ?_) (a' := ?_) #[true,true,false,false,false,true,false,false,false,false,false] rfl rfl (take_ofW HT_.out HW_.out (by kernel_rfl)) (fun _ _ _ h => h) (Or.inl ⟨by rfl,?_⟩) hHeld ?_ ?_
      rotate_left
      ·rintro w' ⟨s0,s1,s2,s3⟩
       go_simp
       with_reducible rfl
      rotate_left
      ·simp only [Act.put,qt,qu,qv,i64_w,i32_w]
       rfl
      refine take_ (i := 3) (N := some 19) (v := ?_) (a' := ?_) #[true,true,false,true,false,true,false,false,false,false,false] rfl rfl (take_ofW HT_.out HW_.out (by kernel_rfl)) (fun _ _ _ h => h) (Or.inl ⟨by rfl,?_⟩) hHeld ?_ ?_
      rotate_left
      ·rintro w' ⟨s0,s1,s2,s3⟩
       go_simp
       with_reducible rfl
      rotate_left
      ·simp only [Act.put,qt,qu,qv,i64_w,i32_w]
       rfl
      refine one_ (i := 2) (N := some 18) #[true,true,true,true,false,true,false,false,false,false,false] rfl rfl (one_of HT_.out (by kernel_rfl)) (by decide) (fun K hK => ?_)
      refine zt Try.func27 (by kernel_rfl) rfl #[.slice Xp Xj.length Xq] (by rfl) rfl rfl (by (try simp only [zi,zj,zk]);first | done | rfl | (simp only [zg,zh];rfl)) ?_
      with_reducible refine (tattlelaw08_Few.calls (fun k_ => k_ < w.heap.size) _ _ Xj Qj _ ?Xa A4.out).mono ?_
      (case Xa => exact Kd.V_mk Dq.out (Kd.F_below (Kd.C_F (Kd.heap_int .i64) Dp.out) (by repeat (first | (with_reducible first | exact HB.out | apply qe | apply qf | apply qg | refine qd ?_ Qt.out | refine qd ?_ Qu.out) | exact HB.out))))
      rintro e w18 ⟨Lp,rfl,ho0,hb⟩
      refine ⟨_,rfl,?_⟩
      have n0_ := qs (zo (qp (ok' := fun k_ => k_ ≠ Qa ∧ k_ ≠ Qb) ho0 (fun k_ hk_ => ⟨Or.elim hk_ (fun hs_ => fun e_ => Nat.not_le.2 hs_ (by rw [e_];exact Jc.out)) (fun hn_ => (Kd.freshB (g := Qa) (o := .cells #[.slice Xp Xj.length Xq,.int .i64 Qk] 49 (0,0)) (by (with_reducible repeat (first | refine qa ?_ _ | refine qb ?_ | refine qc ?_ _));exact Qc.out) k_ hn_)),Or.elim hk_ (fun hs_ => fun e_ => Nat.not_le.2 hs_ (by rw [e_];exact Jd.out)) (fun hn_ => (Kd.freshB (g := Qb) (o := .cells #[.string Xt,.int .i64 Xo] 23 (0,0)) (by (with_reducible repeat (first | refine qa ?_ _ | refine qb ?_ | refine qc ?_ _));exact Qg.out) k_ hn_))⟩)) (below_size (by repeat (first | (with_reducible first | exact HB.out | apply qe | apply qf | apply qg | refine qd ?_ Qt.out | refine qd ?_ Qu.out) | exact HB.out))))
      have n1_ := qs (qw (g := Qa) (o := .cells #[.slice Xp Xj.length Xq,.int .i64 Qk] 49 (0,0)) (by (with_reducible repeat (first | refine qa ?_ _ | refine qb ?_ | refine qc ?_ _));exact Qc.out) hb)
      have n2_ := qs (qw (g := Qb) (o := .cells #[.string Xt,.int .i64 Xo] 23 (0,0)) (by (with_reducible repeat (first | refine qa ?_ _ | refine qb ?_ | refine qc ?_ _));exact Qg.out) hb)
      have n3_ := qs (zf (by repeat (first | (with_reducible first | exact HB.out | apply qe | apply qf | apply qg | refine qd ?_ Qt.out | refine qd ?_ Qu.out) | exact HB.out)) hb)
      clear Qc
      clear Qg
      clear HB
      have Qo := n0_
      have Qc := n1_
      have Qg := n2_
      have HB := n3_
      clear n0_ n1_ n2_ n3_
      (try clear hb)
      (try clear hb2)
      (try clear hk)
      (try clear hi)
      (try clear ho0)
      refine hK.out _ _ ⟨(qx Qc.out 0).trans rfl,(qx Qc.out 1).trans rfl,(qx Qg.out 0).trans rfl,(qx Qg.out 1).trans rfl⟩ (fun hHeld => ?_)
      clear hK K
      refine zm (a' := ?_) ?_ ?_
      rotate_left
      ·show Act.put _ (some 18) _ = _
       simp only [Act.put,qt,qu,qv,i64_w,i32_w]
       rfl
      refine zl (i := 7) (N := some 23) (v := ?_) (a' := ?_) #[true,true,true,true,false,true,false,true,false,false,false] rfl rfl (any_of HT_.out (by kernel_rfl)) (fun _ _ _ h => h) (Or.inl ⟨by rfl,?_⟩) ?_ ?_
      rotate_left
      ·intro w'
       go_simp
       with_reducible rfl
      rotate_left
      ·simp only [Act.put,qt,qu,qv,i64_w,i32_w]
       rfl
      refine one_ (i := 4) (N := some 20) #[true,true,true,true,true,true,false,true,false,false,false] rfl rfl (one_of HT_.out (by kernel_rfl)) (by decide) (fun K hK => ?_)
      refine zt Try.func14 (by kernel_rfl) rfl #[.agg #[.string Xt,.int .i64 Xo]] (by rfl) rfl rfl (by (try simp only [zi,zj,zk]);first | done | rfl | (simp only [zg,zh];rfl)) ?_
      with_reducible refine (tattlelaw02_Few.calls Xt Xo Qp Qq _ A5.out).mono ?_
      rintro e w19 ⟨rfl,hb⟩
      refine ⟨_,rfl,?_⟩
      have n0_ := qs (qq (by (with_reducible repeat (first | apply qh | apply qi | apply qj));exact Qo.out) hb)
      have n1_ := qs (qw (g := Qa) (o := .cells #[.slice Xp Xj.length Xq,.int .i64 Qk] 49 (0,0)) (by (with_reducible repeat (first | refine qa ?_ _ | refine qb ?_ | refine qc ?_ _));exact Qc.out) hb)
      have n2_ := qs (qw (g := Qb) (o := .cells #[.string Xt,.int .i64 Xo] 23 (0,0)) (by (with_reducible repeat (first | refine qa ?_ _ | refine qb ?_ | refine qc ?_ _));exact Qg.out) hb)
      have n3_ := qs (zf (by repeat (first | (with_reducible first | exact HB.out | apply qe | apply qf | apply qg | refine qd ?_ Qt.out | refine qd ?_ Qu.out) | exact HB.out)) hb)
      clear Qo
      clear Qc
      clear Qg
      clear HB
      have Qo := n0_
      have Qc := n1_
      have Qg := n2_
      have HB := n3_
      clear n0_ n1_ n2_ n3_
      (try clear hb)
      (try clear hb2)
      (try clear hk)
      (try clear hi)
      refine hK.out _ _ ⟨(qx Qc.out 0).trans rfl,(qx Qc.out 1).trans rfl,(qx Qg.out 0).trans rfl,(qx Qg.out 1).trans rfl⟩ (fun hHeld => ?_)
      clear hK K
      refine zm (a' := ?_) ?_ ?_
      rotate_left
      ·show Act.put _ (some 20) _ = _
       simp only [Act.put,qt,qu,qv,i64_w,i32_w]
       rfl
      refine one_ (i := 6) (N := some 22) #[true,true,true,true,true,true,true,true,false,false,false] rfl rfl (one_of HT_.out (by kernel_rfl)) (by decide) (fun K hK => ?_)
      refine zt Try.func27 (by kernel_rfl) rfl #[.slice A2 l2.length c2] (by rfl) rfl rfl (by (try simp only [zi,zj,zk]);first | done | rfl | (simp only [zg,zh];rfl)) ?_
      with_reducible refine (tattlelaw08_Few.calls (fun k_ => k_ < w.heap.size) _ _ l2 Zv _ ?Xa A6.out).mono ?_
      (case Xa => exact Kd.V_mk HC2.out (Kd.F_below (Kd.C_F (Kd.heap_int .i64) HR2.out) (by repeat (first | (with_reducible first | exact HB.out | apply qe | apply qf | apply qg | refine qd ?_ Qt.out | refine qd ?_ Qu.out) | exact HB.out))))
      rintro e w20 ⟨Lq,rfl,ho0,hb⟩
      refine ⟨_,rfl,?_⟩
      have n0_ := qs (qq (by (with_reducible repeat (first | apply qh | apply qi | apply qj));exact Qo.out) hb)
      have n1_ := qs (zo (qp (ok' := fun k_ => k_ ≠ Qa ∧ k_ ≠ Qb) ho0 (fun k_ hk_ => ⟨Or.elim hk_ (fun hs_ => fun e_ => Nat.not_le.2 hs_ (by rw [e_];exact Jc.out)) (fun hn_ => (Kd.freshB (g := Qa) (o := .cells #[.slice Xp Xj.length Xq,.int .i64 Qk] 49 (0,0)) (by (with_reducible repeat (first | refine qa ?_ _ | refine qb ?_ | refine qc ?_ _));exact Qc.out) k_ hn_)),Or.elim hk_ (fun hs_ => fun e_ => Nat.not_le.2 hs_ (by rw [e_];exact Jd.out)) (fun hn_ => (Kd.freshB (g := Qb) (o := .cells #[.string Xt,.int .i64 Xo] 23 (0,0)) (by (with_reducible repeat (first | refine qa ?_ _ | refine qb ?_ | refine qc ?_ _));exact Qg.out) k_ hn_))⟩)) (below_size (by repeat (first | (with_reducible first | exact HB.out | apply qe | apply qf | apply qg | refine qd ?_ Qt.out | refine qd ?_ Qu.out) | exact HB.out))))
      have n2_ := qs (qw (g := Qa) (o := .cells #[.slice Xp Xj.length Xq,.int .i64 Qk] 49 (0,0)) (by (with_reducible repeat (first | refine qa ?_ _ | refine qb ?_ | refine qc ?_ _));exact Qc.out) hb)
      have n3_ := qs (qw (g := Qb) (o := .cells #[.string Xt,.int .i64 Xo] 23 (0,0)) (by (with_reducible repeat (first | refine qa ?_ _ | refine qb ?_ | refine qc ?_ _));exact Qg.out) hb)
      have n4_ := qs (zf (by repeat (first | (with_reducible first | exact HB.out | apply qe | apply qf | apply qg | refine qd ?_ Qt.out | refine qd ?_ Qu.out) | exact HB.out)) hb)
      clear Qo
      clear Qc
      clear Qg
      clear HB
      have Qo := n0_
      have Qr := n1_
      have Qc := n2_
      have Qg := n3_
      have HB := n4_
      clear n0_ n1_ n2_ n3_ n4_
      (try clear hb)
      (try clear hb2)
      (try clear hk)
      (try clear hi)
      (try clear ho0)
      obtain ⟨Q3,Q1,D9⟩ := Kd.V_slice Qo.out
      (first | subst D9 | (injection D9 with f1_ f2_ f3_;have f4_ := f1_.symm;have f5_ := f3_.symm;clear f1_ f2_ f3_;subst f4_;subst f5_))
      refine hK.out _ _ ⟨(qx Qc.out 0).trans rfl,(qx Qc.out 1).trans rfl,(qx Qg.out 0).trans rfl,(qx Qg.out 1).trans rfl⟩ (fun hHeld => ?_)
      clear hK K
      refine zm (a' := ?_) ?_ ?_
      rotate_left
      ·show Act.put _ (some 22) _ = _
       simp only [Act.put,qt,qu,qv,i64_w,i32_w]
       rfl
      refine last_ (i := 8) (N := none) #[true,true,true,true,true,true,true,true,true,false,false] rfl rfl (one_of HT_.out (by kernel_rfl)) (by decide) (fun K hK => ?_)
      have Tz : w20.cell? ⟨Qa,0,none⟩ = some (.slice Xp Xj.length Xq) := (qx Qc.out 0).trans rfl
      have Wk := qz Qc.out 0
      have Up := Z5.out
      have Uq := Z1.out
      refine skip_ (w1 := ?_) (by rfl) rfl ?_ ?_
      rotate_left
      ·go_simp
       rfl
      refine hK.out _ _ ?_
      clear hK K
      refine last_ (i := 9) (N := none) #[true,true,true,true,true,true,true,true,true,true,false] rfl rfl (one_of HT_.out (by kernel_rfl)) (by decide) (fun K hK => ?_)
      have T0 : w20.cell? ⟨Qb,0,none⟩ = some (.string Xt) := (qx Qg.out 0).trans rfl
      have Wl := qz Qg.out 0
      have Ur := Z1.out
      have Us := Z5.out
      have T2 : w20.cell? ⟨Qb,1,none⟩ = some (.int .i64 Xo) := (qx Qg.out 1).trans rfl
      have Wm := qz Qg.out 1
      have Ut := Z1.out
      have Uu := Z5.out
      refine skip_ (w1 := ?_) (by rfl) rfl ?_ ?_
      rotate_left
      ·go_simp
       rfl
      refine hK.out _ _ ?_
      clear hK K
      refine zl (i := 10) (N := some 2) (v := ?_) (a' := ?_) #[true,true,true,true,true,true,true,true,true,true,true] rfl rfl (any_of HT_.out (by kernel_rfl)) (fun _ _ _ h => h) (Or.inl ⟨by rfl,?_⟩) ?_ ?_
      rotate_left
      ·intro w'
       go_simp
       with_reducible rfl
      rotate_left
      ·simp only [Act.put,qt,qu,qv,i64_w,i32_w]
       rfl
      refine done_ (done_of HT_.out (by kernel_rfl)) ?_
      have Wn := Z1.out
      have Wo := Z5.out
      have Uv : w20.cell? ⟨Qa,0,none⟩ = some (.slice Xp Xj.length Xq) := (qx Qc.out 0).trans rfl
      have Uw : w20.cell? ⟨Qa,1,none⟩ = some (.int .i64 Qk) := (qx Qc.out 1).trans rfl
      have Ux := qz Qc.out 0
      have Uy := qz Qc.out 1
      try go_wp2_with (first | ((with_reducible refine zd (f := 29) rfl ?_);refine zs (some 25) rfl rfl Try.func29 (by kernel_rfl) rfl #[.agg #[.slice Q3 Qj.length Q1,.int .i64 Qk]] rfl (by (try simp only [zi,zj,zk]);first | done | rfl | (simp only [zg,zh];rfl)) ?_;(with_reducible refine (turn_Check.calls _ _ Qj Qk Yg _ ?Xa ?Xl A7.out).mono ?_);(case Xa => refine (Kd.V_reads' (e := 3) (base := w.heap.size) (ok := fun k_ => (k_ ≠ Qa ∧ k_ ≠ Qb)) (n := Qj.length) (c := Q1) ?_).2.2;exact (by (with_reducible repeat (first | apply qh | apply qi | apply qj));exact (qp (qp (qn (p := ⟨Qb,1,none⟩) (qn (p := ⟨Qb,0,none⟩) (qn (p := ⟨Qa,0,none⟩) (qp (qp Qo.out (fun k_ hk => (⟨hk,hk.1⟩ : _ ∧ k_ ≠ Qa))) (fun k_ hk => (⟨hk,hk.1.2⟩ : _ ∧ k_ ≠ Qb))) (fun _ hk => hk.1.2) (.slice Q3 Qj.length Q1)) (fun _ hk => hk.2) (.string Qp)) (fun _ hk => hk.2) (.int .i64 Qq)) (fun _ h_ => h_.1)) (fun _ h_ => h_.1))));(case Xl => exact (Kd.V_reads' Qo.out).2.1);rintro e w27 ⟨rfl,hb⟩;refine ⟨_,rfl,?_⟩;have n0_ := qs (qq (by (with_reducible repeat (first | apply qh | apply qi | apply qj));exact (qp (qp (qn (p := ⟨Qb,1,none⟩) (qn (p := ⟨Qb,0,none⟩) (qn (p := ⟨Qa,0,none⟩) (qp (qp Qo.out (fun k_ hk => (⟨hk,hk.1⟩ : _ ∧ k_ ≠ Qa))) (fun k_ hk => (⟨hk,hk.1.2⟩ : _ ∧ k_ ≠ Qb))) (fun _ hk => hk.1.2) (.slice Q3 Qj.length Q1)) (fun _ hk => hk.2) (.string Qp)) (fun _ hk => hk.2) (.int .i64 Qq)) (fun _ h_ => h_.1)) (fun _ h_ => h_.1))) hb);have n1_ := qs (qq (by (with_reducible repeat (first | apply qh | apply qi | apply qj));exact (qp (qp (qn (p := ⟨Qb,1,none⟩) (qn (p := ⟨Qb,0,none⟩) (qn (p := ⟨Qa,0,none⟩) (qp (qp Qr.out (fun k_ hk => (⟨hk,hk.1⟩ : _ ∧ k_ ≠ Qa))) (fun k_ hk => (⟨hk,hk.1.2⟩ : _ ∧ k_ ≠ Qb))) (fun _ hk => hk.1.2) (.slice Q3 Qj.length Q1)) (fun _ hk => hk.2) (.string Qp)) (fun _ hk => hk.2) (.int .i64 Qq)) (fun _ h_ => h_.1)) (fun _ h_ => h_.1))) hb);have n2_ := qs (qw (g := Qa) (o := .cells #[.slice Q3 Qj.length Q1,.int .i64 Qk] 49 (0,0)) (by (with_reducible repeat (first | refine qa ?_ _ | refine qb ?_ | refine qc ?_ _));refine qy ?_ Z1.out _;(with_reducible repeat (first | refine qa ?_ _ | refine qb ?_ | refine qc ?_ _));refine qy ?_ Z1.out _;(with_reducible repeat (first | refine qa ?_ _ | refine qb ?_ | refine qc ?_ _));refine blk_put (cs := #[.slice Xp Xj.length Xq,.int .i64 Qk]) ?_ 0 _ rfl;(with_reducible repeat (first | refine qa ?_ _ | refine qb ?_ | refine qc ?_ _));exact Qc.out) hb);have n3_ := qs (qw (g := Qb) (o := .cells #[.string Qp,.int .i64 Qq] 23 (0,0)) (by (with_reducible repeat (first | refine qa ?_ _ | refine qb ?_ | refine qc ?_ _));refine blk_put (cs := #[.string Qp,.int .i64 Xo]) ?_ 1 _ rfl;(with_reducible repeat (first | refine qa ?_ _ | refine qb ?_ | refine qc ?_ _));refine blk_put (cs := #[.string Xt,.int .i64 Xo]) ?_ 0 _ rfl;(with_reducible repeat (first | refine qa ?_ _ | refine qb ?_ | refine qc ?_ _));refine qy ?_ Z5.out _;(with_reducible repeat (first | refine qa ?_ _ | refine qb ?_ | refine qc ?_ _));exact Qg.out) hb);have n4_ := qs (zf (by repeat (first | (with_reducible first | exact HB.out | apply qe | apply qf | apply qg | refine qd ?_ Qt.out | refine qd ?_ Qu.out) | exact HB.out)) hb);clear Qo;clear Qr;clear Qc;clear Qg;clear HB;have Qo := n0_;have Qr := n1_;have Qc := n2_;have Qg := n3_;have HB := n4_;clear n0_ n1_ n2_ n3_ n4_;(try clear hb);(try clear hb2);(try clear hk);(try clear hi)) | ((with_reducible refine ze (N := 28) rfl ?_);(try (refine gate_guard (by rfl) ?_;dsimp only));refine Kd.R_lit (Kd.int .i64) _ 3 ?hg (N := 28) ?hd (xs := ([] : List Int)) (inner := []) (ok := fun _ => True) (okp := fun _ => True) ?hr ?hp (fun _ hk => hk) trivial (Below.refl _ _) (zn _) (by simp) ?_;(case hd => rfl);(case hg => rfl);(case hr => first | (go_simp;done) | (go_simp;rfl));(case hp => exact (Reps.none _ _));intro Lr w28 Jf hb hg_ hnew_;clear hg_ hnew_;(first | rw [← Dr.out] at Jf | (simp only [Int.reduceToNat] at Jf;rw [← Dr.out] at Jf));have n0_ := qs (Kd.V_elder' (by (with_reducible repeat (first | apply qh | apply qi | apply qj));exact Qo.out) (Kd.R_base Jf) hb);have n1_ := qs (Kd.V_elder' (by (with_reducible repeat (first | apply qh | apply qi | apply qj));exact Qr.out) (Kd.R_base Jf) hb);have n2_ := qs (Kd.R_lower Jf (below_size (by repeat (first | (with_reducible first | exact HB.out | apply qe | apply qf | apply qg | refine qd ?_ Qt.out | refine qd ?_ Qu.out) | exact HB.out))));have n3_ := qs (qw (g := Qa) (o := .cells #[.slice Q3 Qj.length Q1,.int .i64 Qk] 49 (0,0)) (by (with_reducible repeat (first | refine qa ?_ _ | refine qb ?_ | refine qc ?_ _));exact Qc.out) hb);have n4_ := qs (qw (g := Qb) (o := .cells #[.string Qp,.int .i64 Qq] 23 (0,0)) (by (with_reducible repeat (first | refine qa ?_ _ | refine qb ?_ | refine qc ?_ _));exact Qg.out) hb);have n5_ := qs (zf (by repeat (first | (with_reducible first | exact HB.out | apply qe | apply qf | apply qg | refine qd ?_ Qt.out | refine qd ?_ Qu.out) | exact HB.out)) hb);clear Qo;clear Qr;clear Qc;clear Qg;clear HB;have Qo := n0_;have Qr := n1_;have Jk := n2_;have Qc := n3_;have Qg := n4_;have HB := n5_;clear n0_ n1_ n2_ n3_ n4_ n5_;clear hb Jf;have Uz : w28.cell? ⟨Qa,0,none⟩ = some (.slice Q3 Qj.length Q1) := (qx Qc.out 0).trans rfl;have U0 : w28.cell? ⟨Qa,1,none⟩ = some (.int .i64 Qk) := (qx Qc.out 1).trans rfl;have U1 := qz Qc.out 0;have U2 := qz Qc.out 1) | ((with_reducible refine gate_builtin (b := .append) (xs := #[.tmp 28,.tmp 30]) rfl ?_);(try (refine gate_guard (by rfl) ?_;dsimp only));at_builtin;refine Kd.R_append_rows (Kd.int .i64) (w0 := w) w.heap.size rfl (.tmp 28) (.tmp 30) 24 3 (.int .i64 0) 8 rfl Try.underlying24 info3 rfl (by decide) (by omega) Lr X1 Qj _ _ _ (fun _ => True) (fun _ => False) rfl rfl ?aO ?aR (fun _ _ h => h) (fun _ h => h.elim) ?aF ?aB ?aS ?aL ?_;(case aR => repeat (first | exact (Kd.V_reads' Qo.out).2.2 | (with_reducible refine zp ?_ _) | (with_reducible refine zq ?_ _) | (with_reducible refine zr ?_)));(case aB => exact (by repeat (first | (with_reducible first | exact HB.out | apply qe | apply qf | apply qg | refine qd ?_ Qt.out | refine qd ?_ Qu.out) | exact HB.out)));(case aF => exact (fun _ _ => trivial));(case aO => exact (by (with_reducible repeat (first | apply qk | apply ql | apply qm));exact Jk.out));(case aS => exact (below_size (by repeat (first | (with_reducible first | exact HB.out | apply qe | apply qf | apply qg | refine qd ?_ Qt.out | refine qd ?_ Qu.out) | exact HB.out))));(case aL => have := Lo.out;omega);intro Ze w31 ho hb hg hat;rw [← D6.out] at ho;have n0_ := qs (blk_grown (g := Qa) (o := .cells #[.slice Q3 Qj.length Q1,.int .i64 Qk] 49 (0,0)) (by (with_reducible repeat (first | refine qa ?_ _ | refine qb ?_ | refine qc ?_ _));exact Qc.out) hg (Kd.R_ne Jk.out Qc.out (by decide)));have n1_ := qs (blk_grown (g := Qb) (o := .cells #[.string Qp,.int .i64 Qq] 23 (0,0)) (by (with_reducible repeat (first | refine qa ?_ _ | refine qb ?_ | refine qc ?_ _));exact Qg.out) hg (Kd.R_ne Jk.out Qg.out (by decide)));have n2_ := qs (Kd.V_afterv (ok := (fun k_ => k_ ≠ Qa ∧ k_ ≠ Qb)) (by (with_reducible repeat (first | apply qh | apply qi | apply qj));exact Qo.out) hg hat);have n3_ := qs (Kd.V_afterv (ok := (fun k_ => k_ ≠ Qa ∧ k_ ≠ Qb)) (by (with_reducible repeat (first | apply qh | apply qi | apply qj));exact Qr.out) hg hat);have n4_ := qs (hb);have n5_ := qs (ho);clear Qc;clear Qg;clear Qo;clear Qr;clear HB;clear Jk;have Qc := n0_;have Qg := n1_;have Qo := n2_;have Qr := n3_;have HB := n4_;have Qv := n5_;clear n0_ n1_ n2_ n3_ n4_ n5_;clear ho hb hg hat;have U3 : w31.cell? ⟨Qa,0,none⟩ = some (.slice Q3 Qj.length Q1) := (qx Qc.out 0).trans rfl;have U4 : w31.cell? ⟨Qa,1,none⟩ = some (.int .i64 Qk) := (qx Qc.out 1).trans rfl;have U5 := qz Qc.out 0;have U6 := qz Qc.out 1;have U7 : w31.cell? ⟨Qb,0,none⟩ = some (.string Qp) := (qx Qg.out 0).trans rfl;have U8 : w31.cell? ⟨Qb,1,none⟩ = some (.int .i64 Qq) := (qx Qg.out 1).trans rfl;have U9 := qz Qg.out 0;have Ma := qz Qg.out 1;obtain ⟨X7,X8,Ls⟩ := Kd.V_slice Qr.out;subst Ls) | ((with_reducible refine zd (f := 31) rfl ?_);refine zs (some 36) rfl rfl Try.func31 (by kernel_rfl) rfl #[.agg #[.slice Q3 Qj.length Q1,.int .i64 Qk],.agg #[.string Qp,.int .i64 Qq],.slice X7 Zv.length X8] rfl (by (try simp only [zi,zj,zk]);first | done | rfl | (simp only [zg,zh];rfl)) ?_;(with_reducible refine (turn_Next.calls k (fun k_ => ((k_ ≠ Qa ∧ k_ ≠ Qb) ∧ some k_ ≠ (Ze : Value).ownBlock)) _ _ Qj Qk Qp Qq _ _ Zv Xk Qs Q0 Q7 Q9 Xr _ ?Xa ?Xl ?X9 A10.out).mono ?_);(case Xa => exact Qo.out);(case Xl => repeat (first | exact (Kd.V_reads' Qr.out).2.2 | (with_reducible refine zp ?_ _) | (with_reducible refine zq ?_ _) | (with_reducible refine zr ?_)));(case X9 => exact (Kd.V_reads' Qr.out).2.1);rintro e w35 ⟨T3,rfl,ho0,hb⟩;refine ⟨_,rfl,?_⟩;have n0_ := qs (qq (by (with_reducible repeat (first | apply qh | apply qi | apply qj));exact Qo.out) hb);have n1_ := qs (qq (by (with_reducible repeat (first | apply qh | apply qi | apply qj));exact Qr.out) hb);have n2_ := qs (qr (by (with_reducible repeat (first | apply qk | apply ql | apply qm));exact Qv.out) hb);have n3_ := qs (zo (qp (ok' := fun k_ => some k_ ≠ (Ze : Value).ownBlock ∧ k_ ≠ Qa ∧ k_ ≠ Qb) ho0 (fun k_ hk_ => ⟨Or.elim hk_ (fun hs_ => hs_.2) (fun hn_ => (Kd.fresh' (Kd.R_lt (by (with_reducible repeat (first | apply qk | apply ql | apply qm));exact Qv.out)) k_ hn_)),Or.elim hk_ (fun hs_ => hs_.1.1) (fun hn_ => (Kd.freshB (g := Qa) (o := .cells #[.slice Q3 Qj.length Q1,.int .i64 Qk] 49 (0,0)) (by (with_reducible repeat (first | refine qa ?_ _ | refine qb ?_ | refine qc ?_ _));exact Qc.out) k_ hn_)),Or.elim hk_ (fun hs_ => hs_.1.2) (fun hn_ => (Kd.freshB (g := Qb) (o := .cells #[.string Qp,.int .i64 Qq] 23 (0,0)) (by (with_reducible repeat (first | refine qa ?_ _ | refine qb ?_ | refine qc ?_ _));exact Qg.out) k_ hn_))⟩)) (below_size (by repeat (first | (with_reducible first | exact HB.out | apply qe | apply qf | apply qg | refine qd ?_ Qt.out | refine qd ?_ Qu.out) | exact HB.out))));have n4_ := qs (qw (g := Qa) (o := .cells #[.slice Q3 Qj.length Q1,.int .i64 Qk] 49 (0,0)) (by (with_reducible repeat (first | refine qa ?_ _ | refine qb ?_ | refine qc ?_ _));exact Qc.out) hb);have n5_ := qs (qw (g := Qb) (o := .cells #[.string Qp,.int .i64 Qq] 23 (0,0)) (by (with_reducible repeat (first | refine qa ?_ _ | refine qb ?_ | refine qc ?_ _));exact Qg.out) hb);have n6_ := qs (zf (by repeat (first | (with_reducible first | exact HB.out | apply qe | apply qf | apply qg | refine qd ?_ Qt.out | refine qd ?_ Qu.out) | exact HB.out)) hb);clear Qo;clear Qr;clear Qv;clear Qc;clear Qg;clear HB;have Qo := n0_;have Qr := n1_;have Qv := n2_;have Qw := n3_;have Qc := n4_;have Qg := n5_;have HB := n6_;clear n0_ n1_ n2_ n3_ n4_ n5_ n6_;(try clear hb);(try clear hb2);(try clear hk);(try clear hi);(try clear ho0)) | ((with_reducible refine ze (N := 9) rfl ?_);(try (refine gate_guard (by rfl) ?_;dsimp only));refine box_event ?hg (N := 9) ?hd (cs := #[.slice none 0 0,.int .i64 0]) (t := 49) ?hr ?_;(case hd => rfl);(case hg => rfl);(case hr => first | (go_simp;done) | (go_simp;rfl));intro Qd hg w36 hbox hb;have n0_ := qs (qq (Kd.V_elderB (by (with_reducible repeat (first | apply qh | apply qi | apply qj));exact Qo.out) Qd (zc hg.symm)) hb);have n1_ := qs (qq (Kd.V_elderB (by (with_reducible repeat (first | apply qh | apply qi | apply qj));exact Qr.out) Qd (zc hg.symm)) hb);have n2_ := qs (qr (by (with_reducible repeat (first | apply qk | apply ql | apply qm));exact Qv.out) hb);have n3_ := qs (qq (Kd.V_elderB (by (with_reducible repeat (first | apply qh | apply qi | apply qj));exact Qw.out) Qd (zc hg.symm)) hb);have n4_ := qs (qw (g := Qa) (o := .cells #[.slice Q3 Qj.length Q1,.int .i64 Qk] 49 (0,0)) (by (with_reducible repeat (first | refine qa ?_ _ | refine qb ?_ | refine qc ?_ _));exact Qc.out) hb);have n5_ := qs (qw (g := Qb) (o := .cells #[.string Qp,.int .i64 Qq] 23 (0,0)) (by (with_reducible repeat (first | refine qa ?_ _ | refine qb ?_ | refine qc ?_ _));exact Qg.out) hb);have n6_ := qs (zf (by repeat (first | (with_reducible first | exact HB.out | apply qe | apply qf | apply qg | refine qd ?_ Qt.out | refine qd ?_ Qu.out) | exact HB.out)) hb);have n7_ := qs (hbox);have n8_ := qs ((by rw [hg];exact (below_size (by repeat (first | (with_reducible first | exact HB.out | apply qe | apply qf | apply qg | refine qd ?_ Qt.out | refine qd ?_ Qu.out) | exact HB.out))) : w.heap.size ≤ Qd));have n9_ := qs ((by rw [hg];exact (below_size (by repeat (first | (with_reducible first | exact HB.out | apply qe | apply qf | apply qg | refine qd ?_ Qt.out | refine qd ?_ Qu.out) | exact HB.out))) : w.heap.size ≤ Qd));have Zw := qs ((by rw [hg];exact za (blk_lt (g := Qa) (o := .cells #[.slice Q3 Qj.length Q1,.int .i64 Qk] 49 (0,0)) (by (with_reducible repeat (first | refine qa ?_ _ | refine qb ?_ | refine qc ?_ _));exact Qc.out)) : Qa ≠ Qd));have Z0 := qs ((by rw [hg];exact zb (blk_lt (g := Qa) (o := .cells #[.slice Q3 Qj.length Q1,.int .i64 Qk] 49 (0,0)) (by (with_reducible repeat (first | refine qa ?_ _ | refine qb ?_ | refine qc ?_ _));exact Qc.out)) : Qd ≠ Qa));have Z2 := qs ((by rw [hg];exact za (blk_lt (g := Qb) (o := .cells #[.string Qp,.int .i64 Qq] 23 (0,0)) (by (with_reducible repeat (first | refine qa ?_ _ | refine qb ?_ | refine qc ?_ _));exact Qg.out)) : Qb ≠ Qd));have Z6 := qs ((by rw [hg];exact zb (blk_lt (g := Qb) (o := .cells #[.string Qp,.int .i64 Qq] 23 (0,0)) (by (with_reducible repeat (first | refine qa ?_ _ | refine qb ?_ | refine qc ?_ _));exact Qg.out)) : Qd ≠ Qb));clear Qo;clear Qr;clear Qv;clear Qw;clear Qc;clear Qg;clear HB;have Qo := n0_;have Qr := n1_;have Qv := n2_;have Qw := n3_;have Qc := n4_;have Qg := n5_;have HB := n6_;have Ql := n7_;have Wp := n8_;have Zg := n9_;have X0 := Zw;have Yt := Z0;have Ya := Z2;have Yx := Z6;clear n0_ n1_ n2_ n3_ n4_ n5_ n6_ n7_ n8_ n9_ Zw Z0 Z2 Z6;clear hb hbox hg) | ((with_reducible refine ze (N := 10) rfl ?_);(try (refine gate_guard (by rfl) ?_;dsimp only));refine box_event ?hg (N := 10) ?hd (cs := #[.string (⟨#[]⟩ : ByteArray),.int .i64 0]) (t := 23) ?hr ?_;(case hd => rfl);(case hg => rfl);(case hr => first | (go_simp;done) | (go_simp;rfl));intro Qe hg w37 hbox hb;have n0_ := qs (qq (Kd.V_elderB (by (with_reducible repeat (first | apply qh | apply qi | apply qj));exact Qo.out) Qe (zc hg.symm)) hb);have n1_ := qs (qq (Kd.V_elderB (by (with_reducible repeat (first | apply qh | apply qi | apply qj));exact Qr.out) Qe (zc hg.symm)) hb);have n2_ := qs (qr (by (with_reducible repeat (first | apply qk | apply ql | apply qm));exact Qv.out) hb);have n3_ := qs (qq (Kd.V_elderB (by (with_reducible repeat (first | apply qh | apply qi | apply qj));exact Qw.out) Qe (zc hg.symm)) hb);have n4_ := qs (qw (g := Qa) (o := .cells #[.slice Q3 Qj.length Q1,.int .i64 Qk] 49 (0,0)) (by (with_reducible repeat (first | refine qa ?_ _ | refine qb ?_ | refine qc ?_ _));exact Qc.out) hb);have n5_ := qs (qw (g := Qb) (o := .cells #[.string Qp,.int .i64 Qq] 23 (0,0)) (by (with_reducible repeat (first | refine qa ?_ _ | refine qb ?_ | refine qc ?_ _));exact Qg.out) hb);have n6_ := qs (qw (g := Qd) (o := .cells #[.slice none 0 0,.int .i64 0] 49 (0,0)) (by (with_reducible repeat (first | refine qa ?_ _ | refine qb ?_ | refine qc ?_ _));exact Ql.out) hb);have n7_ := qs (zf (by repeat (first | (with_reducible first | exact HB.out | apply qe | apply qf | apply qg | refine qd ?_ Qt.out | refine qd ?_ Qu.out | refine qd ?_ Zg.out) | exact HB.out)) hb);have n8_ := qs (hbox);have n9_ := qs ((by rw [hg];exact (below_size (by repeat (first | (with_reducible first | exact HB.out | apply qe | apply qf | apply qg | refine qd ?_ Qt.out | refine qd ?_ Qu.out | refine qd ?_ Zg.out) | exact HB.out))) : w.heap.size ≤ Qe));have Zw := qs ((by rw [hg];exact (below_size (by repeat (first | (with_reducible first | exact HB.out | apply qe | apply qf | apply qg | refine qd ?_ Qt.out | refine qd ?_ Qu.out | refine qd ?_ Zg.out) | exact HB.out))) : w.heap.size ≤ Qe));have Z0 := qs ((by rw [hg];exact za (blk_lt (g := Qa) (o := .cells #[.slice Q3 Qj.length Q1,.int .i64 Qk] 49 (0,0)) (by (with_reducible repeat (first | refine qa ?_ _ | refine qb ?_ | refine qc ?_ _));exact Qc.out)) : Qa ≠ Qe));have Z2 := qs ((by rw [hg];exact zb (blk_lt (g := Qa) (o := .cells #[.slice Q3 Qj.length Q1,.int .i64 Qk] 49 (0,0)) (by (with_reducible repeat (first | refine qa ?_ _ | refine qb ?_ | refine qc ?_ _));exact Qc.out)) : Qe ≠ Qa));have Z6 := qs ((by rw [hg];exact za (blk_lt (g := Qb) (o := .cells #[.string Qp,.int .i64 Qq] 23 (0,0)) (by (with_reducible repeat (first | refine qa ?_ _ | refine qb ?_ | refine qc ?_ _));exact Qg.out)) : Qb ≠ Qe));have Xb := qs ((by rw [hg];exact zb (blk_lt (g := Qb) (o := .cells #[.string Qp,.int .i64 Qq] 23 (0,0)) (by (with_reducible repeat (first | refine qa ?_ _ | refine qb ?_ | refine qc ?_ _));exact Qg.out)) : Qe ≠ Qb));have Xc := qs ((by rw [hg];exact za (blk_lt (g := Qd) (o := .cells #[.slice none 0 0,.int .i64 0] 49 (0,0)) (by (with_reducible repeat (first | refine qa ?_ _ | refine qb ?_ | refine qc ?_ _));exact Ql.out)) : Qd ≠ Qe));have Xd := qs ((by rw [hg];exact zb (blk_lt (g := Qd) (o := .cells #[.slice none 0 0,.int .i64 0] 49 (0,0)) (by (with_reducible repeat (first | refine qa ?_ _ | refine qb ?_ | refine qc ?_ _));exact Ql.out)) : Qe ≠ Qd));clear Qo;clear Qr;clear Qv;clear Qw;clear Qc;clear Qg;clear Ql;clear HB;have Qo := n0_;have Qr := n1_;have Qv := n2_;have Qw := n3_;have Qc := n4_;have Qg := n5_;have Ql := n6_;have HB := n7_;have Qm := n8_;have Wq := n9_;have Zj := Zw;have Xu := Z0;have Yb := Z2;have Xv := Z6;have Yc := Xb;have Xm := Xc;have Xn := Xd;clear n0_ n1_ n2_ n3_ n4_ n5_ n6_ n7_ n8_ n9_ Zw Z0 Z2 Z6 Xb Xc Xd;clear hb hbox hg;obtain ⟨Zi,Zh,Lt⟩ := Kd.V_slice Qw.out;subst Lt;have Wr := Yt.out;have Ws := X0.out;have Wt := Yx.out;have Wu := Ya.out;have Wv := Xm.out;have Ww := Xn.out;have Mb : w37.cell? ⟨Qd,0,none⟩ = some (.slice none 0 0) := (qx Ql.out 0).trans rfl;have Mc : w37.cell? ⟨Qd,1,none⟩ = some (.int .i64 0) := (qx Ql.out 1).trans rfl;have Md := qz Ql.out 0;have Me := qz Ql.out 1;have Wx := Yb.out;have Wy := Xu.out;have Wz := Yc.out;have W0 := Xv.out;have Mf : w37.cell? ⟨Qe,0,none⟩ = some (.string (⟨#[]⟩ : ByteArray)) := (qx Qm.out 0).trans rfl;have Mg : w37.cell? ⟨Qe,1,none⟩ = some (.int .i64 0) := (qx Qm.out 1).trans rfl;have Mh := qz Qm.out 0;have Mi := qz Qm.out 1))
      have n0_ : Aside0 (Kd.V (Kd.int .i64) 3 ((((w37.setCell ⟨Qd,0,none⟩ (.slice Zi Qs.length Zh)).setCell ⟨Qd,1,none⟩ (.int .i64 Q0)).setCell ⟨Qe,0,none⟩ (.string Q7)).setCell ⟨Qe,1,none⟩ (.int .i64 Q9)) w.heap.size (fun k_ => some k_ ≠ (Ze : Value).ownBlock ∧ k_ ≠ Qa ∧ k_ ≠ Qb ∧ k_ ≠ Qd ∧ k_ ≠ Qe) (.slice Q3 Qj.length Q1) Qj) := ⟨by (with_reducible repeat (first | apply qh | apply qi | apply qj));exact qp (qn (p := ⟨Qe,1,none⟩) (qn (p := ⟨Qe,0,none⟩) (qn (p := ⟨Qd,1,none⟩) (qn (p := ⟨Qd,0,none⟩) (qp (qp Qo.out (fun k_ hk => (⟨hk,hk.1.2⟩ : _ ∧ k_ ≠ Qd))) (fun k_ hk => (⟨hk,hk.1.2⟩ : _ ∧ k_ ≠ Qe))) (fun _ hk => hk.1.2) (.slice Zi Qs.length Zh)) (fun _ hk => hk.1.2) (.int .i64 Q0)) (fun _ hk => hk.2) (.string Q7)) (fun _ hk => hk.2) (.int .i64 Q9)) (fun _ hk => ⟨hk.1.1.1.1.2,⟨hk.1.1.1.1.1.1,⟨hk.1.1.1.1.1.2,⟨hk.1.1.1.2,hk.1.1.2⟩⟩⟩⟩)⟩
      have n1_ : Aside0 (Kd.V (Kd.int .i64) 3 ((((w37.setCell ⟨Qd,0,none⟩ (.slice Zi Qs.length Zh)).setCell ⟨Qd,1,none⟩ (.int .i64 Q0)).setCell ⟨Qe,0,none⟩ (.string Q7)).setCell ⟨Qe,1,none⟩ (.int .i64 Q9)) w.heap.size (fun k_ => some k_ ≠ (Ze : Value).ownBlock ∧ k_ ≠ Qa ∧ k_ ≠ Qb ∧ k_ ≠ Qd ∧ k_ ≠ Qe) (.slice X7 Zv.length X8) Zv) := ⟨by (with_reducible repeat (first | apply qh | apply qi | apply qj));exact qp (qn (p := ⟨Qe,1,none⟩) (qn (p := ⟨Qe,0,none⟩) (qn (p := ⟨Qd,1,none⟩) (qn (p := ⟨Qd,0,none⟩) (qp (qp Qr.out (fun k_ hk => (⟨hk,hk.1.2⟩ : _ ∧ k_ ≠ Qd))) (fun k_ hk => (⟨hk,hk.1.2⟩ : _ ∧ k_ ≠ Qe))) (fun _ hk => hk.1.2) (.slice Zi Qs.length Zh)) (fun _ hk => hk.1.2) (.int .i64 Q0)) (fun _ hk => hk.2) (.string Q7)) (fun _ hk => hk.2) (.int .i64 Q9)) (fun _ hk => ⟨hk.1.1.1.1.2,⟨hk.1.1.1.1.1.1,⟨hk.1.1.1.1.1.2,⟨hk.1.1.1.2,hk.1.1.2⟩⟩⟩⟩)⟩
      have n2_ : Aside0 (Kd.R (Kd.int .i64) 3 ((((w37.setCell ⟨Qd,0,none⟩ (.slice Zi Qs.length Zh)).setCell ⟨Qd,1,none⟩ (.int .i64 Q0)).setCell ⟨Qe,0,none⟩ (.string Q7)).setCell ⟨Qe,1,none⟩ (.int .i64 Q9)) w.heap.size (fun _ => True) Ze X4) := ⟨by (with_reducible repeat (first | apply qk | apply ql | apply qm));exact Kd.R_mono (qo (p := ⟨Qe,1,none⟩) (qo (p := ⟨Qe,0,none⟩) (qo (p := ⟨Qd,1,none⟩) (qo (p := ⟨Qd,0,none⟩) (Kd.R_types (Kd.R_types Qv.out Ql.out (by decide)) Qm.out (by decide)) (fun _ hk => hk.1.2) (.slice Zi Qs.length Zh)) (fun _ hk => hk.1.2) (.int .i64 Q0)) (fun _ hk => hk.2) (.string Q7)) (fun _ hk => hk.2) (.int .i64 Q9)) (fun _ hk => trivial)⟩
      have n3_ : Aside0 (Kd.V (Kd.int .i64) 3 ((((w37.setCell ⟨Qd,0,none⟩ (.slice Zi Qs.length Zh)).setCell ⟨Qd,1,none⟩ (.int .i64 Q0)).setCell ⟨Qe,0,none⟩ (.string Q7)).setCell ⟨Qe,1,none⟩ (.int .i64 Q9)) w.heap.size (fun k_ => some k_ ≠ (Ze : Value).ownBlock ∧ k_ ≠ Qa ∧ k_ ≠ Qb ∧ k_ ≠ Qd ∧ k_ ≠ Qe) (.slice Zi Qs.length Zh) Qs) := ⟨by (with_reducible repeat (first | apply qh | apply qi | apply qj));exact qp (qn (p := ⟨Qe,1,none⟩) (qn (p := ⟨Qe,0,none⟩) (qn (p := ⟨Qd,1,none⟩) (qn (p := ⟨Qd,0,none⟩) (qp (qp Qw.out (fun k_ hk => (⟨hk,hk.1.2⟩ : _ ∧ k_ ≠ Qd))) (fun k_ hk => (⟨hk,hk.1.2⟩ : _ ∧ k_ ≠ Qe))) (fun _ hk => hk.1.2) (.slice Zi Qs.length Zh)) (fun _ hk => hk.1.2) (.int .i64 Q0)) (fun _ hk => hk.2) (.string Q7)) (fun _ hk => hk.2) (.int .i64 Q9)) (fun _ hk => ⟨hk.1.1.1.1.1,⟨hk.1.1.1.1.2.1,⟨hk.1.1.1.1.2.2,⟨hk.1.1.1.2,hk.1.1.2⟩⟩⟩⟩)⟩
      have n4_ : Aside0 (((((w37.setCell ⟨Qd,0,none⟩ (.slice Zi Qs.length Zh)).setCell ⟨Qd,1,none⟩ (.int .i64 Q0)).setCell ⟨Qe,0,none⟩ (.string Q7)).setCell ⟨Qe,1,none⟩ (.int .i64 Q9)).heap[Qa]? = some (.cells #[.slice Q3 Qj.length Q1,.int .i64 Qk] 49 (0,0))) := ⟨by (with_reducible repeat (first | refine qa ?_ _ | refine qb ?_ | refine qc ?_ _));refine qy ?_ Xu.out _;(with_reducible repeat (first | refine qa ?_ _ | refine qb ?_ | refine qc ?_ _));refine qy ?_ Xu.out _;(with_reducible repeat (first | refine qa ?_ _ | refine qb ?_ | refine qc ?_ _));refine qy ?_ X0.out _;(with_reducible repeat (first | refine qa ?_ _ | refine qb ?_ | refine qc ?_ _));refine qy ?_ X0.out _;(with_reducible repeat (first | refine qa ?_ _ | refine qb ?_ | refine qc ?_ _));exact Qc.out⟩
      have n5_ : Aside0 (((((w37.setCell ⟨Qd,0,none⟩ (.slice Zi Qs.length Zh)).setCell ⟨Qd,1,none⟩ (.int .i64 Q0)).setCell ⟨Qe,0,none⟩ (.string Q7)).setCell ⟨Qe,1,none⟩ (.int .i64 Q9)).heap[Qb]? = some (.cells #[.string Qp,.int .i64 Qq] 23 (0,0))) := ⟨by (with_reducible repeat (first | refine qa ?_ _ | refine qb ?_ | refine qc ?_ _));refine qy ?_ Xv.out _;(with_reducible repeat (first | refine qa ?_ _ | refine qb ?_ | refine qc ?_ _));refine qy ?_ Xv.out _;(with_reducible repeat (first | refine qa ?_ _ | refine qb ?_ | refine qc ?_ _));refine qy ?_ Ya.out _;(with_reducible repeat (first | refine qa ?_ _ | refine qb ?_ | refine qc ?_ _));refine qy ?_ Ya.out _;(with_reducible repeat (first | refine qa ?_ _ | refine qb ?_ | refine qc ?_ _));exact Qg.out⟩
      have n6_ : Aside0 (((((w37.setCell ⟨Qd,0,none⟩ (.slice Zi Qs.length Zh)).setCell ⟨Qd,1,none⟩ (.int .i64 Q0)).setCell ⟨Qe,0,none⟩ (.string Q7)).setCell ⟨Qe,1,none⟩ (.int .i64 Q9)).heap[Qd]? = some (.cells #[.slice Zi Qs.length Zh,.int .i64 Q0] 49 (0,0))) := ⟨by (with_reducible repeat (first | refine qa ?_ _ | refine qb ?_ | refine qc ?_ _));refine qy ?_ Xm.out _;(with_reducible repeat (first | refine qa ?_ _ | refine qb ?_ | refine qc ?_ _));refine qy ?_ Xm.out _;(with_reducible repeat (first | refine qa ?_ _ | refine qb ?_ | refine qc ?_ _));refine blk_put (cs := #[.slice Zi Qs.length Zh,.int .i64 0]) ?_ 1 _ rfl;(with_reducible repeat (first | refine qa ?_ _ | refine qb ?_ | refine qc ?_ _));refine blk_put (cs := #[.slice none 0 0,.int .i64 0]) ?_ 0 _ rfl;(with_reducible repeat (first | refine qa ?_ _ | refine qb ?_ | refine qc ?_ _));exact Ql.out⟩
      have n7_ : Aside0 (((((w37.setCell ⟨Qd,0,none⟩ (.slice Zi Qs.length Zh)).setCell ⟨Qd,1,none⟩ (.int .i64 Q0)).setCell ⟨Qe,0,none⟩ (.string Q7)).setCell ⟨Qe,1,none⟩ (.int .i64 Q9)).heap[Qe]? = some (.cells #[.string Q7,.int .i64 Q9] 23 (0,0))) := ⟨by (with_reducible repeat (first | refine qa ?_ _ | refine qb ?_ | refine qc ?_ _));refine blk_put (cs := #[.string Q7,.int .i64 0]) ?_ 1 _ rfl;(with_reducible repeat (first | refine qa ?_ _ | refine qb ?_ | refine qc ?_ _));refine blk_put (cs := #[.string (⟨#[]⟩ : ByteArray),.int .i64 0]) ?_ 0 _ rfl;(with_reducible repeat (first | refine qa ?_ _ | refine qb ?_ | refine qc ?_ _));refine qy ?_ Xn.out _;(with_reducible repeat (first | refine qa ?_ _ | refine qb ?_ | refine qc ?_ _));refine qy ?_ Xn.out _;(with_reducible repeat (first | refine qa ?_ _ | refine qb ?_ | refine qc ?_ _));exact Qm.out⟩
      have n8_ : Aside0 (Below w.heap.size w ((((w37.setCell ⟨Qd,0,none⟩ (.slice Zi Qs.length Zh)).setCell ⟨Qd,1,none⟩ (.int .i64 Q0)).setCell ⟨Qe,0,none⟩ (.string Q7)).setCell ⟨Qe,1,none⟩ (.int .i64 Q9))) := ⟨by repeat (first | (with_reducible first | exact HB.out | apply qe | apply qf | apply qg | refine qd ?_ Qt.out | refine qd ?_ Qu.out | refine qd ?_ Zg.out | refine qd ?_ Zj.out) | exact HB.out)⟩
      (try clear Qo)
      (try clear Qr)
      (try clear Qv)
      (try clear Qw)
      (try clear Qc)
      (try clear Qg)
      (try clear Ql)
      (try clear Qm)
      (try clear HB)
      generalize ((((w37.setCell ⟨Qd,0,none⟩ (.slice Zi Qs.length Zh)).setCell ⟨Qd,1,none⟩ (.int .i64 Q0)).setCell ⟨Qe,0,none⟩ (.string Q7)).setCell ⟨Qe,1,none⟩ (.int .i64 Q9)) = w46 at n0_ n1_ n2_ n3_ n4_ n5_ n6_ n7_ n8_ ⊢
      have Qo := n0_
      have Qr := n1_
      have Qv := n2_
      have Qw := n3_
      have Qc := n4_
      have Qg := n5_
      have Ql := n6_
      have Qm := n7_
      have HB := n8_
      clear n0_ n1_ n2_ n3_ n4_ n5_ n6_ n7_ n8_
      have n0_ := qs (qj Qo.out)
      have n1_ := qs (qj Qr.out)
      have n2_ := qs (qm Qv.out)
      have n3_ := qs (qj Qw.out)
      have n4_ := qs (qb Qc.out)
      have n5_ := qs (qb Qg.out)
      have n6_ := qs (qb Ql.out)
      have n7_ := qs (qb Qm.out)
      have n8_ := qs (qg HB.out)
      clear Qo
      clear Qr
      clear Qv
      clear Qw
      clear Qc
      clear Qg
      clear Ql
      clear Qm
      clear HB
      have Qo := n0_
      have Qr := n1_
      have Qv := n2_
      have Qw := n3_
      have Qc := n4_
      have Qg := n5_
      have Ql := n6_
      have Qm := n7_
      have HB := n8_
      clear n0_ n1_ n2_ n3_ n4_ n5_ n6_ n7_ n8_
      have q48 : (Qk : Int) ≤ ((Qj.length : Int) : Int) := of_decide_eq_true (by first | (with_reducible assumption) | assumption)
      obtain ⟨T4,Dt,_,Du,_⟩ := info_parts info3
      have Y1 : Qj.length ≤ Q1 := (Kd.V_reads' Qo.out).2.1
      have Ga : Kd.F (Kd.int .i64) _ _ Q3 Qj.length Qj := (Kd.V_at (base := w.heap.size) Qo.out).2.2
      have Lu : (0 : Int) ≤ (Qk : Int) := of_decide_eq_true (by first | (with_reducible assumption) | assumption)
      have D3 := cut_from (P := Try.prog) 24 3 .i64 Try.underlying24 Dt 1 Du Q3 Qj.length Q1 Qk Lu q48
      have Jp := Kd.F_cut (m := (Qk : Int).toNat) (c := Q1) Ga (by omega) Y1
      obtain ⟨A48,Vo⟩ : ∃ A1,A1 = (if Q1 = (Qk : Int).toNat then Q3 else (Q3 : Option Addr).map (·.add ((Qk : Int).toNat * 1))) := ⟨_,rfl⟩
      obtain ⟨c48,Vp⟩ : ∃ c1,c1 = Q1 - (Qk : Int).toNat := ⟨_,rfl⟩
      have Jq : Z8.length = Qj.length - (Qk : Int).toNat := (by rw [Ds.out,zg] <;> omega)
      rw [show (Qj).drop (Qk : Int).toNat = Z8 from Ds.out.symm] at Jp
      replace Jp : Kd.F (Kd.int .i64) _ _ A48 Z8.length Z8 := (by rw [Vo];exact Jp)
      rw [← Jq,← Vo,← Vp] at D3
      have Zf := qs (show Kd.V (Kd.int .i64) 3 _ w.heap.size _ (.slice A48 Z8.length c48) Z8 from Kd.V_mk (by rw [Jq,Vp];exact Nat.sub_le_sub_right Y1 _) Jp)
      have W1 := qs (show Z8.length ≤ c48 from by rw [Jq,Vp];exact Nat.sub_le_sub_right Y1 _)
      clear Jp Ga Y1 Dt Du Vp
      have T5 := qs Jq
      have T7 := qs Vo
      clear Jq Vo
      replace q48 := eq_true q48
      refine start_ (n := 20) (S := fun w' => w'.cell? ⟨Qa,0,none⟩ = some (.slice Q3 Qj.length Q1) ∧ w'.cell? ⟨Qa,1,none⟩ = some (.int .i64 Qk) ∧ w'.cell? ⟨Qb,0,none⟩ = some (.string Qp) ∧ w'.cell? ⟨Qb,1,none⟩ = some (.int .i64 Qq)) (ds := []) #[false,false,false,false,false,false,false,false,false,false,false,false,false,false,false,false,false,false,false,false] (by kernel_rfl) rfl rfl ⟨(qx Qc.out 0).trans rfl,(qx Qc.out 1).trans rfl,(qx Qg.out 0).trans rfl,(qx Qg.out 1).trans rfl⟩ (fun hHeld => ?_);refine with_tabW tattlelaw08_TurnStays.tab6 tattlelaw08_TurnStays.bits6 (fun HT_ HW_ => ?_)
      generalize w46.drew = w47 at Qo Qr Qv Qw Qc Qg Ql Qm HB Zf hHeld ⊢
      refine zl (i := 0) (N := some 42) (v := ?_) (a' := ?_) #[true,false,false,false,false,false,false,false,false,false,false,false,false,false,false,false,false,false,false,false] rfl rfl (any_of HT_.out (by kernel_rfl)) (fun _ _ _ h => h) (Or.inl ⟨by rfl,?_⟩) ?_ ?_
      rotate_left
      ·intro w'
       go_simp
       with_reducible rfl
      rotate_left
      ·simp only [Act.put,qt,qu,qv,i64_w,i32_w]
       rfl
      refine zl (i := 2) (N := some 44) (v := ?_) (a' := ?_) #[true,false,true,false,false,false,false,false,false,false,false,false,false,false,false,false,false,false,false,false] rfl rfl (any_of HT_.out (by kernel_rfl)) (fun _ _ _ h => h) (Or.inl ⟨by rfl,?_⟩) ?_ ?_
      rotate_left
      ·intro w'
       go_simp
       with_reducible rfl
      rotate_left
      ·simp only [Act.put,qt,qu,qv,i64_w,i32_w]
       rfl
      refine zl (i := 7) (N := some 49) (v := ?_) (a' := ?_) #[true,false,true,false,false,false,false,true,false,false,false,false,false,false,false,false,false,false,false,false] rfl rfl (any_of HT_.out (by kernel_rfl)) (fun _ _ _ h => h) (Or.inl ⟨by rfl,?_⟩) ?_ ?_
      rotate_left
      ·intro w'
       go_simp
       with_reducible rfl
      rotate_left
      ·simp only [Act.put,qt,qu,qv,i64_w,i32_w]
       rfl
      refine take_ (i := 1) (N := some 43) (v := ?_) (a' := ?_) #[true,true,true,false,false,false,false,true,false,false,false,false,false,false,false,false,false,false,false,false] rfl rfl (take_ofW HT_.out HW_.out (by kernel_rfl)) (fun _ _ _ h => h) (Or.inl ⟨by rfl,?_⟩) hHeld ?_ ?_
      rotate_left
      ·rintro w' ⟨s0,s1,s2,s3⟩
       go_simp
       with_reducible rfl
      rotate_left
      ·simp only [Act.put,qt,qu,qv,i64_w,i32_w]
       rfl
      refine take_ (i := 3) (N := some 45) (v := ?_) (a' := ?_) #[true,true,true,true,false,false,false,true,false,false,false,false,false,false,false,false,false,false,false,false] rfl rfl (take_ofW HT_.out HW_.out (by kernel_rfl)) (fun _ _ _ h => h) (Or.inl ⟨by rfl,?_⟩) hHeld ?_ ?_
      rotate_left
      ·rintro w' ⟨s0,s1,s2,s3⟩
       go_simp
       with_reducible rfl
      rotate_left
      ·simp only [Act.put,qt,qu,qv,i64_w,i32_w]
       rfl
      refine zl (i := 4) (N := some 46) (v := ?_) (a' := ?_) #[true,true,true,true,true,false,false,true,false,false,false,false,false,false,false,false,false,false,false,false] rfl rfl (any_of HT_.out (by kernel_rfl)) (fun _ _ _ h => h) (Or.inl ⟨by rfl,?_⟩) ?_ ?_
      rotate_left
      ·intro w'
       go_simp
       with_reducible rfl
      rotate_left
      ·simp only [Act.put,qt,qu,qv,i64_w,i32_w]
       rfl
      refine zl (i := 5) (N := some 47) (v := ?_) (a' := ?_) #[true,true,true,true,true,true,false,true,false,false,false,false,false,false,false,false,false,false,false,false] rfl rfl (any_of HT_.out (by kernel_rfl)) (fun _ _ _ h => h) (Or.inl ⟨by rfl,?_⟩) ?_ ?_
      rotate_left
      ·intro w'
       go_simp
       with_reducible rfl
      rotate_left
      ·simp only [Act.put,qt,qu,qv,i64_w,i32_w]
       rfl
      refine take_ (i := 6) (N := some 48) (v := ?_) (a' := ?_) #[true,true,true,true,true,true,true,true,false,false,false,false,false,false,false,false,false,false,false,false] rfl rfl (take_ofW HT_.out HW_.out (by kernel_rfl)) (fun _ _ _ h => h) (Or.inl ⟨by rfl,?_⟩) hHeld ?_ ?_
      rotate_left
      ·rintro w' ⟨s0,s1,s2,s3⟩
       go_simp
       with_reducible rfl
      rotate_left
      ·simp only [Act.put,qt,qu,qv,i64_w,i32_w]
       rfl
      refine join_ (σ := Value × Nat × Nat) 4 #[true,true,true,true,true,true,true,true,true,true,true,true,true,true,true,true,false,false,false,false] (fun s_ => [(50,.tuple #[.int .i64 X5,.agg #[s_.1,.int .i64 Z7],.agg #[.string Z9,.int .i64 Xi],.int .i64 X6]),(13,.pointer (some ⟨s_.2.1,0,none⟩)),(14,.pointer (some ⟨s_.2.2,0,none⟩)),(41,.tuple #[.int .i64 X5,.agg #[s_.1,.int .i64 Z7],.agg #[.string Z9,.int .i64 Xi],.int .i64 X6]),(51,.int .i64 X5),(52,.agg #[s_.1,.int .i64 Z7]),(53,.agg #[.string Z9,.int .i64 Xi]),(54,.int .i64 X6)]) (fun s_ w' => (w'.cell? ⟨Qa,0,none⟩ = some (.slice Q3 Qj.length Q1) ∧ w'.cell? ⟨Qa,1,none⟩ = some (.int .i64 Qk) ∧ w'.cell? ⟨Qb,0,none⟩ = some (.string Qp) ∧ w'.cell? ⟨Qb,1,none⟩ = some (.int .i64 Qq)) ∧ (Kd.V (Kd.int .i64) 3 w' w.heap.size (fun k_ => some k_ ≠ (Ze : Value).ownBlock ∧ k_ ≠ Qa ∧ k_ ≠ Qb ∧ k_ ≠ Qd ∧ k_ ≠ Qe ∧ k_ ≠ s_.2.1 ∧ k_ ≠ s_.2.2) (.slice Q3 Qj.length Q1) Qj) ∧ (Kd.V (Kd.int .i64) 3 w' w.heap.size (fun k_ => some k_ ≠ (Ze : Value).ownBlock ∧ k_ ≠ Qa ∧ k_ ≠ Qb ∧ k_ ≠ Qd ∧ k_ ≠ Qe ∧ k_ ≠ s_.2.1 ∧ k_ ≠ s_.2.2) (.slice X7 Zv.length X8) Zv) ∧ (Kd.R (Kd.int .i64) 3 w' w.heap.size (fun _ => True) Ze X4) ∧ (Kd.V (Kd.int .i64) 3 w' w.heap.size (fun k_ => some k_ ≠ (Ze : Value).ownBlock ∧ k_ ≠ Qa ∧ k_ ≠ Qb ∧ k_ ≠ Qd ∧ k_ ≠ Qe ∧ k_ ≠ s_.2.1 ∧ k_ ≠ s_.2.2) (.slice Zi Qs.length Zh) Qs) ∧ (Kd.V (Kd.int .i64) 3 w' w.heap.size (fun k_ => some k_ ≠ (Ze : Value).ownBlock ∧ k_ ≠ Qa ∧ k_ ≠ Qb ∧ k_ ≠ Qd ∧ k_ ≠ Qe ∧ k_ ≠ s_.2.1 ∧ k_ ≠ s_.2.2) (.slice A48 Z8.length c48) Z8) ∧ (Kd.V (Kd.int .i64) 3 w' w.heap.size (fun k_ => some k_ ≠ (Ze : Value).ownBlock ∧ k_ ≠ Qa ∧ k_ ≠ Qb ∧ k_ ≠ Qd ∧ k_ ≠ Qe ∧ k_ ≠ s_.2.1 ∧ k_ ≠ s_.2.2) s_.1 Z4) ∧ (w'.heap[Qa]? = some (.cells #[.slice Q3 Qj.length Q1,.int .i64 Qk] 49 (0,0))) ∧ (w'.heap[Qb]? = some (.cells #[.string Qp,.int .i64 Qq] 23 (0,0))) ∧ (w'.heap[Qd]? = some (.cells #[.slice Zi Qs.length Zh,.int .i64 Q0] 49 (0,0))) ∧ (w'.heap[Qe]? = some (.cells #[.string Q7,.int .i64 Q9] 23 (0,0))) ∧ (w'.heap[s_.2.1]? = some (.cells #[.slice none 0 0,.int .i64 0] 49 (0,0))) ∧ (w'.heap[s_.2.2]? = some (.cells #[.string (⟨#[]⟩ : ByteArray),.int .i64 0] 23 (0,0))) ∧ (w.heap.size ≤ s_.2.1) ∧ (w.heap.size ≤ s_.2.1) ∧ (Qa ≠ s_.2.1) ∧ (s_.2.1 ≠ Qa) ∧ (Qb ≠ s_.2.1) ∧ (s_.2.1 ≠ Qb) ∧ (Qd ≠ s_.2.1) ∧ (s_.2.1 ≠ Qd) ∧ (Qe ≠ s_.2.1) ∧ (s_.2.1 ≠ Qe) ∧ (s_.2.2 ≠ s_.2.1) ∧ (s_.2.1 ≠ s_.2.2) ∧ (w.heap.size ≤ s_.2.2) ∧ (w.heap.size ≤ s_.2.2) ∧ (Qa ≠ s_.2.2) ∧ (s_.2.2 ≠ Qa) ∧ (Qb ≠ s_.2.2) ∧ (s_.2.2 ≠ Qb) ∧ (Qd ≠ s_.2.2) ∧ (s_.2.2 ≠ Qd) ∧ (Qe ≠ s_.2.2) ∧ (s_.2.2 ≠ Qe) ∧ (Below w.heap.size w w')) ?_ ?_
      rotate_left
      ·intro Yy
       refine join_ (σ := Value × Nat) 5 #[true,true,true,true,true,true,true,true,true,true,true,true,true,true,true,false,false,false,false,false] (fun s_ => [(50,.tuple #[.int .i64 X5,.agg #[s_.1,.int .i64 Z7],.agg #[.string Z9,.int .i64 Xi],.int .i64 X6]),(13,.pointer (some ⟨s_.2,0,none⟩)),(41,.tuple #[.int .i64 X5,.agg #[s_.1,.int .i64 Z7],.agg #[.string Z9,.int .i64 Xi],.int .i64 X6]),(51,.int .i64 X5),(52,.agg #[s_.1,.int .i64 Z7]),(53,.agg #[.string Z9,.int .i64 Xi]),(54,.int .i64 X6)]) (fun s_ w' => (w'.cell? ⟨Qa,0,none⟩ = some (.slice Q3 Qj.length Q1) ∧ w'.cell? ⟨Qa,1,none⟩ = some (.int .i64 Qk) ∧ w'.cell? ⟨Qb,0,none⟩ = some (.string Qp) ∧ w'.cell? ⟨Qb,1,none⟩ = some (.int .i64 Qq)) ∧ (Kd.V (Kd.int .i64) 3 w' w.heap.size (fun k_ => some k_ ≠ (Ze : Value).ownBlock ∧ k_ ≠ Qa ∧ k_ ≠ Qb ∧ k_ ≠ Qd ∧ k_ ≠ Qe ∧ k_ ≠ s_.2) (.slice Q3 Qj.length Q1) Qj) ∧ (Kd.V (Kd.int .i64) 3 w' w.heap.size (fun k_ => some k_ ≠ (Ze : Value).ownBlock ∧ k_ ≠ Qa ∧ k_ ≠ Qb ∧ k_ ≠ Qd ∧ k_ ≠ Qe ∧ k_ ≠ s_.2) (.slice X7 Zv.length X8) Zv) ∧ (Kd.R (Kd.int .i64) 3 w' w.heap.size (fun _ => True) Ze X4) ∧ (Kd.V (Kd.int .i64) 3 w' w.heap.size (fun k_ => some k_ ≠ (Ze : Value).ownBlock ∧ k_ ≠ Qa ∧ k_ ≠ Qb ∧ k_ ≠ Qd ∧ k_ ≠ Qe ∧ k_ ≠ s_.2) (.slice Zi Qs.length Zh) Qs) ∧ (Kd.V (Kd.int .i64) 3 w' w.heap.size (fun k_ => some k_ ≠ (Ze : Value).ownBlock ∧ k_ ≠ Qa ∧ k_ ≠ Qb ∧ k_ ≠ Qd ∧ k_ ≠ Qe ∧ k_ ≠ s_.2) (.slice A48 Z8.length c48) Z8) ∧ (Kd.V (Kd.int .i64) 3 w' w.heap.size (fun k_ => some k_ ≠ (Ze : Value).ownBlock ∧ k_ ≠ Qa ∧ k_ ≠ Qb ∧ k_ ≠ Qd ∧ k_ ≠ Qe ∧ k_ ≠ s_.2) s_.1 Z4) ∧ (w'.heap[Qa]? = some (.cells #[.slice Q3 Qj.length Q1,.int .i64 Qk] 49 (0,0))) ∧ (w'.heap[Qb]? = some (.cells #[.string Qp,.int .i64 Qq] 23 (0,0))) ∧ (w'.heap[Qd]? = some (.cells #[.slice Zi Qs.length Zh,.int .i64 Q0] 49 (0,0))) ∧ (w'.heap[Qe]? = some (.cells #[.string Q7,.int .i64 Q9] 23 (0,0))) ∧ (w'.heap[s_.2]? = some (.cells #[.slice none 0 0,.int .i64 0] 49 (0,0))) ∧ (w.heap.size ≤ s_.2) ∧ (w.heap.size ≤ s_.2) ∧ (Qa ≠ s_.2) ∧ (s_.2 ≠ Qa) ∧ (Qb ≠ s_.2) ∧ (s_.2 ≠ Qb) ∧ (Qd ≠ s_.2) ∧ (s_.2 ≠ Qd) ∧ (Qe ≠ s_.2) ∧ (s_.2 ≠ Qe) ∧ (Below w.heap.size w w')) ?_ ?_
       rotate_left
       ·intro Jr
        refine join_ (σ := Value × Nat) 5 #[true,true,true,true,true,true,true,true,true,true,true,true,true,true,false,true,false,false,false,false] (fun s_ => [(50,.tuple #[.int .i64 X5,.agg #[s_.1,.int .i64 Z7],.agg #[.string Z9,.int .i64 Xi],.int .i64 X6]),(14,.pointer (some ⟨s_.2,0,none⟩)),(41,.tuple #[.int .i64 X5,.agg #[s_.1,.int .i64 Z7],.agg #[.string Z9,.int .i64 Xi],.int .i64 X6]),(51,.int .i64 X5),(52,.agg #[s_.1,.int .i64 Z7]),(53,.agg #[.string Z9,.int .i64 Xi]),(54,.int .i64 X6)]) (fun s_ w' => (w'.cell? ⟨Qa,0,none⟩ = some (.slice Q3 Qj.length Q1) ∧ w'.cell? ⟨Qa,1,none⟩ = some (.int .i64 Qk) ∧ w'.cell? ⟨Qb,0,none⟩ = some (.string Qp) ∧ w'.cell? ⟨Qb,1,none⟩ = some (.int .i64 Qq)) ∧ (Kd.V (Kd.int .i64) 3 w' w.heap.size (fun k_ => some k_ ≠ (Ze : Value).ownBlock ∧ k_ ≠ Qa ∧ k_ ≠ Qb ∧ k_ ≠ Qd ∧ k_ ≠ Qe ∧ k_ ≠ s_.2) (.slice Q3 Qj.length Q1) Qj) ∧ (Kd.V (Kd.int .i64) 3 w' w.heap.size (fun k_ => some k_ ≠ (Ze : Value).ownBlock ∧ k_ ≠ Qa ∧ k_ ≠ Qb ∧ k_ ≠ Qd ∧ k_ ≠ Qe ∧ k_ ≠ s_.2) (.slice X7 Zv.length X8) Zv) ∧ (Kd.R (Kd.int .i64) 3 w' w.heap.size (fun _ => True) Ze X4) ∧ (Kd.V (Kd.int .i64) 3 w' w.heap.size (fun k_ => some k_ ≠ (Ze : Value).ownBlock ∧ k_ ≠ Qa ∧ k_ ≠ Qb ∧ k_ ≠ Qd ∧ k_ ≠ Qe ∧ k_ ≠ s_.2) (.slice Zi Qs.length Zh) Qs) ∧ (Kd.V (Kd.int .i64) 3 w' w.heap.size (fun k_ => some k_ ≠ (Ze : Value).ownBlock ∧ k_ ≠ Qa ∧ k_ ≠ Qb ∧ k_ ≠ Qd ∧ k_ ≠ Qe ∧ k_ ≠ s_.2) (.slice A48 Z8.length c48) Z8) ∧ (Kd.V (Kd.int .i64) 3 w' w.heap.size (fun k_ => some k_ ≠ (Ze : Value).ownBlock ∧ k_ ≠ Qa ∧ k_ ≠ Qb ∧ k_ ≠ Qd ∧ k_ ≠ Qe ∧ k_ ≠ s_.2) s_.1 Z4) ∧ (w'.heap[Qa]? = some (.cells #[.slice Q3 Qj.length Q1,.int .i64 Qk] 49 (0,0))) ∧ (w'.heap[Qb]? = some (.cells #[.string Qp,.int .i64 Qq] 23 (0,0))) ∧ (w'.heap[Qd]? = some (.cells #[.slice Zi Qs.length Zh,.int .i64 Q0] 49 (0,0))) ∧ (w'.heap[Qe]? = some (.cells #[.string Q7,.int .i64 Q9] 23 (0,0))) ∧ (w'.heap[s_.2]? = some (.cells #[.string (⟨#[]⟩ : ByteArray),.int .i64 0] 23 (0,0))) ∧ (w.heap.size ≤ s_.2) ∧ (w.heap.size ≤ s_.2) ∧ (Qa ≠ s_.2) ∧ (s_.2 ≠ Qa) ∧ (Qb ≠ s_.2) ∧ (s_.2 ≠ Qb) ∧ (Qd ≠ s_.2) ∧ (s_.2 ≠ Qd) ∧ (Qe ≠ s_.2) ∧ (s_.2 ≠ Qe) ∧ (Below w.heap.size w w')) ?_ ?_
        rotate_left
        ·intro Js
         refine join_ (σ := Nat × Nat) 10 #[true,true,true,true,true,true,true,true,false,false,false,false,false,false,true,true,false,false,false,false] (fun s_ => [(13,.pointer (some ⟨s_.1,0,none⟩)),(14,.pointer (some ⟨s_.2,0,none⟩))]) (fun s_ w' => (w'.cell? ⟨Qa,0,none⟩ = some (.slice Q3 Qj.length Q1) ∧ w'.cell? ⟨Qa,1,none⟩ = some (.int .i64 Qk) ∧ w'.cell? ⟨Qb,0,none⟩ = some (.string Qp) ∧ w'.cell? ⟨Qb,1,none⟩ = some (.int .i64 Qq)) ∧ (Kd.V (Kd.int .i64) 3 w' w.heap.size (fun k_ => some k_ ≠ (Ze : Value).ownBlock ∧ k_ ≠ Qa ∧ k_ ≠ Qb ∧ k_ ≠ Qd ∧ k_ ≠ Qe ∧ k_ ≠ s_.1 ∧ k_ ≠ s_.2) (.slice Q3 Qj.length Q1) Qj) ∧ (Kd.V (Kd.int .i64) 3 w' w.heap.size (fun k_ => some k_ ≠ (Ze : Value).ownBlock ∧ k_ ≠ Qa ∧ k_ ≠ Qb ∧ k_ ≠ Qd ∧ k_ ≠ Qe ∧ k_ ≠ s_.1 ∧ k_ ≠ s_.2) (.slice X7 Zv.length X8) Zv) ∧ (Kd.R (Kd.int .i64) 3 w' w.heap.size (fun _ => True) Ze X4) ∧ (Kd.V (Kd.int .i64) 3 w' w.heap.size (fun k_ => some k_ ≠ (Ze : Value).ownBlock ∧ k_ ≠ Qa ∧ k_ ≠ Qb ∧ k_ ≠ Qd ∧ k_ ≠ Qe ∧ k_ ≠ s_.1 ∧ k_ ≠ s_.2) (.slice Zi Qs.length Zh) Qs) ∧ (Kd.V (Kd.int .i64) 3 w' w.heap.size (fun k_ => some k_ ≠ (Ze : Value).ownBlock ∧ k_ ≠ Qa ∧ k_ ≠ Qb ∧ k_ ≠ Qd ∧ k_ ≠ Qe ∧ k_ ≠ s_.1 ∧ k_ ≠ s_.2) (.slice A48 Z8.length c48) Z8) ∧ (w'.heap[Qa]? = some (.cells #[.slice Q3 Qj.length Q1,.int .i64 Qk] 49 (0,0))) ∧ (w'.heap[Qb]? = some (.cells #[.string Qp,.int .i64 Qq] 23 (0,0))) ∧ (w'.heap[Qd]? = some (.cells #[.slice Zi Qs.length Zh,.int .i64 Q0] 49 (0,0))) ∧ (w'.heap[Qe]? = some (.cells #[.string Q7,.int .i64 Q9] 23 (0,0))) ∧ (w'.heap[s_.1]? = some (.cells #[.slice none 0 0,.int .i64 0] 49 (0,0))) ∧ (w'.heap[s_.2]? = some (.cells #[.string (⟨#[]⟩ : ByteArray),.int .i64 0] 23 (0,0))) ∧ (w.heap.size ≤ s_.1) ∧ (w.heap.size ≤ s_.1) ∧ (Qa ≠ s_.1) ∧ (s_.1 ≠ Qa) ∧ (Qb ≠ s_.1) ∧ (s_.1 ≠ Qb) ∧ (Qd ≠ s_.1) ∧ (s_.1 ≠ Qd) ∧ (Qe ≠ s_.1) ∧ (s_.1 ≠ Qe) ∧ (s_.2 ≠ s_.1) ∧ (s_.1 ≠ s_.2) ∧ (w.heap.size ≤ s_.2) ∧ (w.heap.size ≤ s_.2) ∧ (Qa ≠ s_.2) ∧ (s_.2 ≠ Qa) ∧ (Qb ≠ s_.2) ∧ (s_.2 ≠ Qb) ∧ (Qd ≠ s_.2) ∧ (s_.2 ≠ Qd) ∧ (Qe ≠ s_.2) ∧ (s_.2 ≠ Qe) ∧ (Below w.heap.size w w')) ?_ ?_
         rotate_left
         ·intro Jl
          refine join_ (σ := Value) 6 #[true,true,true,true,true,true,true,true,true,true,true,true,true,true,false,false,false,false,false,false] (fun s_ => [(50,.tuple #[.int .i64 X5,.agg #[s_,.int .i64 Z7],.agg #[.string Z9,.int .i64 Xi],.int .i64 X6]),(41,.tuple #[.int .i64 X5,.agg #[s_,.int .i64 Z7],.agg #[.string Z9,.int .i64 Xi],.int .i64 X6]),(51,.int .i64 X5),(52,.agg #[s_,.int .i64 Z7]),(53,.agg #[.string Z9,.int .i64 Xi]),(54,.int .i64 X6)]) (fun s_ w' => (w'.cell? ⟨Qa,0,none⟩ = some (.slice Q3 Qj.length Q1) ∧ w'.cell? ⟨Qa,1,none⟩ = some (.int .i64 Qk) ∧ w'.cell? ⟨Qb,0,none⟩ = some (.string Qp) ∧ w'.cell? ⟨Qb,1,none⟩ = some (.int .i64 Qq)) ∧ (Kd.V (Kd.int .i64) 3 w' w.heap.size (fun k_ => some k_ ≠ (Ze : Value).ownBlock ∧ k_ ≠ Qa ∧ k_ ≠ Qb ∧ k_ ≠ Qd ∧ k_ ≠ Qe) (.slice Q3 Qj.length Q1) Qj) ∧ (Kd.V (Kd.int .i64) 3 w' w.heap.size (fun k_ => some k_ ≠ (Ze : Value).ownBlock ∧ k_ ≠ Qa ∧ k_ ≠ Qb ∧ k_ ≠ Qd ∧ k_ ≠ Qe) (.slice X7 Zv.length X8) Zv) ∧ (Kd.R (Kd.int .i64) 3 w' w.heap.size (fun _ => True) Ze X4) ∧ (Kd.V (Kd.int .i64) 3 w' w.heap.size (fun k_ => some k_ ≠ (Ze : Value).ownBlock ∧ k_ ≠ Qa ∧ k_ ≠ Qb ∧ k_ ≠ Qd ∧ k_ ≠ Qe) (.slice Zi Qs.length Zh) Qs) ∧ (Kd.V (Kd.int .i64) 3 w' w.heap.size (fun k_ => some k_ ≠ (Ze : Value).ownBlock ∧ k_ ≠ Qa ∧ k_ ≠ Qb ∧ k_ ≠ Qd ∧ k_ ≠ Qe) (.slice A48 Z8.length c48) Z8) ∧ (Kd.V (Kd.int .i64) 3 w' w.heap.size (fun k_ => some k_ ≠ (Ze : Value).ownBlock ∧ k_ ≠ Qa ∧ k_ ≠ Qb ∧ k_ ≠ Qd ∧ k_ ≠ Qe) s_ Z4) ∧ (w'.heap[Qa]? = some (.cells #[.slice Q3 Qj.length Q1,.int .i64 Qk] 49 (0,0))) ∧ (w'.heap[Qb]? = some (.cells #[.string Qp,.int .i64 Qq] 23 (0,0))) ∧ (w'.heap[Qd]? = some (.cells #[.slice Zi Qs.length Zh,.int .i64 Q0] 49 (0,0))) ∧ (w'.heap[Qe]? = some (.cells #[.string Q7,.int .i64 Q9] 23 (0,0))) ∧ (Below w.heap.size w w')) ?_ ?_
          rotate_left
          ·intro hJ8
           refine join_ (σ := Nat) 11 #[true,true,true,true,true,true,true,true,false,false,false,false,false,false,true,false,false,false,false,false] (fun s_ => [(13,.pointer (some ⟨s_,0,none⟩))]) (fun s_ w' => (w'.cell? ⟨Qa,0,none⟩ = some (.slice Q3 Qj.length Q1) ∧ w'.cell? ⟨Qa,1,none⟩ = some (.int .i64 Qk) ∧ w'.cell? ⟨Qb,0,none⟩ = some (.string Qp) ∧ w'.cell? ⟨Qb,1,none⟩ = some (.int .i64 Qq)) ∧ (Kd.V (Kd.int .i64) 3 w' w.heap.size (fun k_ => some k_ ≠ (Ze : Value).ownBlock ∧ k_ ≠ Qa ∧ k_ ≠ Qb ∧ k_ ≠ Qd ∧ k_ ≠ Qe ∧ k_ ≠ s_) (.slice Q3 Qj.length Q1) Qj) ∧ (Kd.V (Kd.int .i64) 3 w' w.heap.size (fun k_ => some k_ ≠ (Ze : Value).ownBlock ∧ k_ ≠ Qa ∧ k_ ≠ Qb ∧ k_ ≠ Qd ∧ k_ ≠ Qe ∧ k_ ≠ s_) (.slice X7 Zv.length X8) Zv) ∧ (Kd.R (Kd.int .i64) 3 w' w.heap.size (fun _ => True) Ze X4) ∧ (Kd.V (Kd.int .i64) 3 w' w.heap.size (fun k_ => some k_ ≠ (Ze : Value).ownBlock ∧ k_ ≠ Qa ∧ k_ ≠ Qb ∧ k_ ≠ Qd ∧ k_ ≠ Qe ∧ k_ ≠ s_) (.slice Zi Qs.length Zh) Qs) ∧ (Kd.V (Kd.int .i64) 3 w' w.heap.size (fun k_ => some k_ ≠ (Ze : Value).ownBlock ∧ k_ ≠ Qa ∧ k_ ≠ Qb ∧ k_ ≠ Qd ∧ k_ ≠ Qe ∧ k_ ≠ s_) (.slice A48 Z8.length c48) Z8) ∧ (w'.heap[Qa]? = some (.cells #[.slice Q3 Qj.length Q1,.int .i64 Qk] 49 (0,0))) ∧ (w'.heap[Qb]? = some (.cells #[.string Qp,.int .i64 Qq] 23 (0,0))) ∧ (w'.heap[Qd]? = some (.cells #[.slice Zi Qs.length Zh,.int .i64 Q0] 49 (0,0))) ∧ (w'.heap[Qe]? = some (.cells #[.string Q7,.int .i64 Q9] 23 (0,0))) ∧ (w'.heap[s_]? = some (.cells #[.slice none 0 0,.int .i64 0] 49 (0,0))) ∧ (w.heap.size ≤ s_) ∧ (w.heap.size ≤ s_) ∧ (Qa ≠ s_) ∧ (s_ ≠ Qa) ∧ (Qb ≠ s_) ∧ (s_ ≠ Qb) ∧ (Qd ≠ s_) ∧ (s_ ≠ Qd) ∧ (Qe ≠ s_) ∧ (s_ ≠ Qe) ∧ (Below w.heap.size w w')) ?_ ?_
           rotate_left
           ·intro Lv
            refine join_ (σ := Nat) 11 #[true,true,true,true,true,true,true,true,false,false,false,false,false,false,false,true,false,false,false,false] (fun s_ => [(14,.pointer (some ⟨s_,0,none⟩))]) (fun s_ w' => (w'.cell? ⟨Qa,0,none⟩ = some (.slice Q3 Qj.length Q1) ∧ w'.cell? ⟨Qa,1,none⟩ = some (.int .i64 Qk) ∧ w'.cell? ⟨Qb,0,none⟩ = some (.string Qp) ∧ w'.cell? ⟨Qb,1,none⟩ = some (.int .i64 Qq)) ∧ (Kd.V (Kd.int .i64) 3 w' w.heap.size (fun k_ => some k_ ≠ (Ze : Value).ownBlock ∧ k_ ≠ Qa ∧ k_ ≠ Qb ∧ k_ ≠ Qd ∧ k_ ≠ Qe ∧ k_ ≠ s_) (.slice Q3 Qj.length Q1) Qj) ∧ (Kd.V (Kd.int .i64) 3 w' w.heap.size (fun k_ => some k_ ≠ (Ze : Value).ownBlock ∧ k_ ≠ Qa ∧ k_ ≠ Qb ∧ k_ ≠ Qd ∧ k_ ≠ Qe ∧ k_ ≠ s_) (.slice X7 Zv.length X8) Zv) ∧ (Kd.R (Kd.int .i64) 3 w' w.heap.size (fun _ => True) Ze X4) ∧ (Kd.V (Kd.int .i64) 3 w' w.heap.size (fun k_ => some k_ ≠ (Ze : Value).ownBlock ∧ k_ ≠ Qa ∧ k_ ≠ Qb ∧ k_ ≠ Qd ∧ k_ ≠ Qe ∧ k_ ≠ s_) (.slice Zi Qs.length Zh) Qs) ∧ (Kd.V (Kd.int .i64) 3 w' w.heap.size (fun k_ => some k_ ≠ (Ze : Value).ownBlock ∧ k_ ≠ Qa ∧ k_ ≠ Qb ∧ k_ ≠ Qd ∧ k_ ≠ Qe ∧ k_ ≠ s_) (.slice A48 Z8.length c48) Z8) ∧ (w'.heap[Qa]? = some (.cells #[.slice Q3 Qj.length Q1,.int .i64 Qk] 49 (0,0))) ∧ (w'.heap[Qb]? = some (.cells #[.string Qp,.int .i64 Qq] 23 (0,0))) ∧ (w'.heap[Qd]? = some (.cells #[.slice Zi Qs.length Zh,.int .i64 Q0] 49 (0,0))) ∧ (w'.heap[Qe]? = some (.cells #[.string Q7,.int .i64 Q9] 23 (0,0))) ∧ (w'.heap[s_]? = some (.cells #[.string (⟨#[]⟩ : ByteArray),.int .i64 0] 23 (0,0))) ∧ (w.heap.size ≤ s_) ∧ (w.heap.size ≤ s_) ∧ (Qa ≠ s_) ∧ (s_ ≠ Qa) ∧ (Qb ≠ s_) ∧ (s_ ≠ Qb) ∧ (Qd ≠ s_) ∧ (s_ ≠ Qd) ∧ (Qe ≠ s_) ∧ (s_ ≠ Qe) ∧ (Below w.heap.size w w')) ?_ ?_
            rotate_left
            ·intro Lw
             refine three_ (i := 8) (j := 14) (k := 15) (Ni := some 50) (Nj := some 13) (Nk := some 14) #[true,true,true,true,true,true,true,true,true,false,false,false,false,false,false,false,false,false,false,false] #[true,true,true,true,true,true,true,true,false,false,false,false,false,false,true,false,false,false,false,false] #[true,true,true,true,true,true,true,true,false,false,false,false,false,false,false,true,false,false,false,false] rfl rfl rfl rfl rfl rfl (three_of HT_.out (by kernel_rfl)) (by decide) (by decide) (by decide) (fun K hK => ?_) (fun K hK => ?_) (fun K hK => ?_)
             ·skip
              refine zt Try.func31 (by kernel_rfl) rfl #[.agg #[.slice A48 Z8.length c48,.int .i64 0],.agg #[.string Qp,.int .i64 Qq],.slice X7 Zv.length X8] (by rfl) rfl rfl (by (try simp only [zi,zj,zk]);first | done | rfl | (simp only [zg,zh];rfl)) ?_
              with_reducible refine (turn_Next.calls k (fun k_ => (some k_ ≠ (Ze : Value).ownBlock ∧ (k_ ≠ Qa ∧ (k_ ≠ Qb ∧ (k_ ≠ Qd ∧ k_ ≠ Qe))))) _ _ Z8 0 Qp Qq _ _ Zv X5 Z4 Z7 Z9 Xi X6 _ ?Xa ?Xl ?X9 A13.out).mono ?_
              (case Xa => exact Zf.out)
              (case Xl => repeat (first | exact (Kd.V_reads' Qr.out).2.2 | (with_reducible refine zp ?_ _) | (with_reducible refine zq ?_ _) | (with_reducible refine zr ?_)))
              (case X9 => exact (Kd.V_reads' Qr.out).2.1)
              rintro e w49 ⟨Yf,rfl,ho0,hb⟩
              refine ⟨_,rfl,?_⟩
              have n0_ := qs (qq (by (with_reducible repeat (first | apply qh | apply qi | apply qj));exact Qo.out) hb)
              have n1_ := qs (qq (by (with_reducible repeat (first | apply qh | apply qi | apply qj));exact Qr.out) hb)
              have n2_ := qs (qr (by (with_reducible repeat (first | apply qk | apply ql | apply qm));exact Qv.out) hb)
              have n3_ := qs (qq (by (with_reducible repeat (first | apply qh | apply qi | apply qj));exact Qw.out) hb)
              have n4_ := qs (qq (by (with_reducible repeat (first | apply qh | apply qi | apply qj));exact Zf.out) hb)
              have n5_ := qs (zo (qp (ok' := fun k_ => some k_ ≠ (Ze : Value).ownBlock ∧ k_ ≠ Qa ∧ k_ ≠ Qb ∧ k_ ≠ Qd ∧ k_ ≠ Qe) ho0 (fun k_ hk_ => ⟨Or.elim hk_ (fun hs_ => hs_.1) (fun hn_ => (Kd.fresh' (Kd.R_lt (by (with_reducible repeat (first | apply qk | apply ql | apply qm));exact Qv.out)) k_ hn_)),Or.elim hk_ (fun hs_ => hs_.2.1) (fun hn_ => (Kd.freshB (g := Qa) (o := .cells #[.slice Q3 Qj.length Q1,.int .i64 Qk] 49 (0,0)) (by (with_reducible repeat (first | refine qa ?_ _ | refine qb ?_ | refine qc ?_ _));exact Qc.out) k_ hn_)),Or.elim hk_ (fun hs_ => hs_.2.2.1) (fun hn_ => (Kd.freshB (g := Qb) (o := .cells #[.string Qp,.int .i64 Qq] 23 (0,0)) (by (with_reducible repeat (first | refine qa ?_ _ | refine qb ?_ | refine qc ?_ _));exact Qg.out) k_ hn_)),Or.elim hk_ (fun hs_ => hs_.2.2.2.1) (fun hn_ => (Kd.freshB (g := Qd) (o := .cells #[.slice Zi Qs.length Zh,.int .i64 Q0] 49 (0,0)) (by (with_reducible repeat (first | refine qa ?_ _ | refine qb ?_ | refine qc ?_ _));exact Ql.out) k_ hn_)),Or.elim hk_ (fun hs_ => hs_.2.2.2.2) (fun hn_ => (Kd.freshB (g := Qe) (o := .cells #[.string Q7,.int .i64 Q9] 23 (0,0)) (by (with_reducible repeat (first | refine qa ?_ _ | refine qb ?_ | refine qc ?_ _));exact Qm.out) k_ hn_))⟩)) (below_size (by repeat (first | (with_reducible first | exact HB.out | apply qe | apply qf | apply qg | refine qd ?_ Qt.out | refine qd ?_ Qu.out | refine qd ?_ Zg.out | refine qd ?_ Zj.out) | exact HB.out))))
              have n6_ := qs (qw (g := Qa) (o := .cells #[.slice Q3 Qj.length Q1,.int .i64 Qk] 49 (0,0)) (by (with_reducible repeat (first | refine qa ?_ _ | refine qb ?_ | refine qc ?_ _));exact Qc.out) hb)
              have n7_ := qs (qw (g := Qb) (o := .cells #[.string Qp,.int .i64 Qq] 23 (0,0)) (by (with_reducible repeat (first | refine qa ?_ _ | refine qb ?_ | refine qc ?_ _));exact Qg.out) hb)
              have n8_ := qs (qw (g := Qd) (o := .cells #[.slice Zi Qs.length Zh,.int .i64 Q0] 49 (0,0)) (by (with_reducible repeat (first | refine qa ?_ _ | refine qb ?_ | refine qc ?_ _));exact Ql.out) hb)
              have n9_ := qs (qw (g := Qe) (o := .cells #[.string Q7,.int .i64 Q9] 23 (0,0)) (by (with_reducible repeat (first | refine qa ?_ _ | refine qb ?_ | refine qc ?_ _));exact Qm.out) hb)
              have Zw := qs (zf (by repeat (first | (with_reducible first | exact HB.out | apply qe | apply qf | apply qg | refine qd ?_ Qt.out | refine qd ?_ Qu.out | refine qd ?_ Zg.out | refine qd ?_ Zj.out) | exact HB.out)) hb)
              clear Qo
              clear Qr
              clear Qv
              clear Qw
              clear Zf
              clear Qc
              clear Qg
              clear Ql
              clear Qm
              clear HB
              have Qo := n0_
              have Qr := n1_
              have Qv := n2_
              have Qw := n3_
              have Zf := n4_
              have Z3 := n5_
              have Qc := n6_
              have Qg := n7_
              have Ql := n8_
              have Qm := n9_
              have HB := Zw
              clear n0_ n1_ n2_ n3_ n4_ n5_ n6_ n7_ n8_ n9_ Zw
              (try clear hb)
              (try clear hb2)
              (try clear hk)
              (try clear hi)
              (try clear ho0)
              refine hK.out _ _ ⟨(qx Qc.out 0).trans rfl,(qx Qc.out 1).trans rfl,(qx Qg.out 0).trans rfl,(qx Qg.out 1).trans rfl⟩ (fun hHeld => ?_)
              clear hK K
              refine zm (a' := ?_) ?_ ?_
              rotate_left
              ·show Act.put _ (some 50) _ = _
               simp only [Act.put,qt,qu,qv,i64_w,i32_w]
               rfl
              refine zl (i := 9) (N := some 41) (v := ?_) (a' := ?_) #[true,true,true,true,true,true,true,true,true,true,false,false,false,false,false,false,false,false,false,false] rfl rfl (any_of HT_.out (by kernel_rfl)) (fun _ _ _ h => h) (Or.inl ⟨by rfl,?_⟩) ?_ ?_
              rotate_left
              ·intro w'
               go_simp
               with_reducible rfl
              rotate_left
              ·simp only [Act.put,qt,qu,qv,i64_w,i32_w]
               rfl
              refine zl (i := 10) (N := some 51) (v := ?_) (a' := ?_) #[true,true,true,true,true,true,true,true,true,true,true,false,false,false,false,false,false,false,false,false] rfl rfl (any_of HT_.out (by kernel_rfl)) (fun _ _ _ h => h) (Or.inl ⟨by rfl,?_⟩) ?_ ?_
              rotate_left
              ·intro w'
               go_simp
               with_reducible rfl
              rotate_left
              ·simp only [Act.put,qt,qu,qv,i64_w,i32_w]
               rfl
              refine zl (i := 11) (N := some 52) (v := ?_) (a' := ?_) #[true,true,true,true,true,true,true,true,true,true,true,true,false,false,false,false,false,false,false,false] rfl rfl (any_of HT_.out (by kernel_rfl)) (fun _ _ _ h => h) (Or.inl ⟨by rfl,?_⟩) ?_ ?_
              rotate_left
              ·intro w'
               go_simp
               with_reducible rfl
              rotate_left
              ·simp only [Act.put,qt,qu,qv,i64_w,i32_w]
               rfl
              refine zl (i := 12) (N := some 53) (v := ?_) (a' := ?_) #[true,true,true,true,true,true,true,true,true,true,true,true,true,false,false,false,false,false,false,false] rfl rfl (any_of HT_.out (by kernel_rfl)) (fun _ _ _ h => h) (Or.inl ⟨by rfl,?_⟩) ?_ ?_
              rotate_left
              ·intro w'
               go_simp
               with_reducible rfl
              rotate_left
              ·simp only [Act.put,qt,qu,qv,i64_w,i32_w]
               rfl
              refine zl (i := 13) (N := some 54) (v := ?_) (a' := ?_) #[true,true,true,true,true,true,true,true,true,true,true,true,true,true,false,false,false,false,false,false] rfl rfl (any_of HT_.out (by kernel_rfl)) (fun _ _ _ h => h) (Or.inl ⟨by rfl,?_⟩) ?_ ?_
              rotate_left
              ·intro w'
               go_simp
               with_reducible rfl
              rotate_left
              ·simp only [Act.put,qt,qu,qv,i64_w,i32_w]
               rfl
              exact zm (by first | (simp only [putAll,Act.put,qt,qu,qv];done) | (simp only [putAll,Act.put,qt,qu,qv];rfl)) (hJ8 (Yf) _ ⟨hHeld,(by (with_reducible repeat (first | apply qh | apply qi | apply qj));exact Qo.out),(by (with_reducible repeat (first | apply qh | apply qi | apply qj));exact Qr.out),(by (with_reducible repeat (first | apply qk | apply ql | apply qm));exact Qv.out),(by (with_reducible repeat (first | apply qh | apply qi | apply qj));exact Qw.out),(by (with_reducible repeat (first | apply qh | apply qi | apply qj));exact Zf.out),(by (with_reducible repeat (first | apply qh | apply qi | apply qj));exact Z3.out),(by (with_reducible repeat (first | refine qa ?_ _ | refine qb ?_ | refine qc ?_ _));exact Qc.out),(by (with_reducible repeat (first | refine qa ?_ _ | refine qb ?_ | refine qc ?_ _));exact Qg.out),(by (with_reducible repeat (first | refine qa ?_ _ | refine qb ?_ | refine qc ?_ _));exact Ql.out),(by (with_reducible repeat (first | refine qa ?_ _ | refine qb ?_ | refine qc ?_ _));exact Qm.out),(by repeat (first | (with_reducible first | exact HB.out | apply qe | apply qf | apply qg | refine qd ?_ Qt.out | refine qd ?_ Qu.out | refine qd ?_ Zg.out | refine qd ?_ Zj.out) | exact HB.out))⟩)
             ·skip
              refine box_step ?hg (N := 13) ?hd (cs := #[.slice none 0 0,.int .i64 0]) (t := 49) ?hr ?_;(case hd => rfl);(case hg => rfl);(case hr => first | (go_simp;done) | (go_simp;rfl))
              intro Qi hg w49 hbox hb
              have n0_ := qs (qq (Kd.V_elderB (by (with_reducible repeat (first | apply qh | apply qi | apply qj));exact Qo.out) Qi (zc hg.symm)) hb)
              have n1_ := qs (qq (Kd.V_elderB (by (with_reducible repeat (first | apply qh | apply qi | apply qj));exact Qr.out) Qi (zc hg.symm)) hb)
              have n2_ := qs (qr (by (with_reducible repeat (first | apply qk | apply ql | apply qm));exact Qv.out) hb)
              have n3_ := qs (qq (Kd.V_elderB (by (with_reducible repeat (first | apply qh | apply qi | apply qj));exact Qw.out) Qi (zc hg.symm)) hb)
              have n4_ := qs (qq (Kd.V_elderB (by (with_reducible repeat (first | apply qh | apply qi | apply qj));exact Zf.out) Qi (zc hg.symm)) hb)
              have n5_ := qs (qw (g := Qa) (o := .cells #[.slice Q3 Qj.length Q1,.int .i64 Qk] 49 (0,0)) (by (with_reducible repeat (first | refine qa ?_ _ | refine qb ?_ | refine qc ?_ _));exact Qc.out) hb)
              have n6_ := qs (qw (g := Qb) (o := .cells #[.string Qp,.int .i64 Qq] 23 (0,0)) (by (with_reducible repeat (first | refine qa ?_ _ | refine qb ?_ | refine qc ?_ _));exact Qg.out) hb)
              have n7_ := qs (qw (g := Qd) (o := .cells #[.slice Zi Qs.length Zh,.int .i64 Q0] 49 (0,0)) (by (with_reducible repeat (first | refine qa ?_ _ | refine qb ?_ | refine qc ?_ _));exact Ql.out) hb)
              have n8_ := qs (qw (g := Qe) (o := .cells #[.string Q7,.int .i64 Q9] 23 (0,0)) (by (with_reducible repeat (first | refine qa ?_ _ | refine qb ?_ | refine qc ?_ _));exact Qm.out) hb)
              have n9_ := qs (zf (by repeat (first | (with_reducible first | exact HB.out | apply qe | apply qf | apply qg | refine qd ?_ Qt.out | refine qd ?_ Qu.out | refine qd ?_ Zg.out | refine qd ?_ Zj.out) | exact HB.out)) hb)
              have Zw := qs (hbox)
              have Z0 := qs ((by rw [hg];exact (below_size (by repeat (first | (with_reducible first | exact HB.out | apply qe | apply qf | apply qg | refine qd ?_ Qt.out | refine qd ?_ Qu.out | refine qd ?_ Zg.out | refine qd ?_ Zj.out) | exact HB.out))) : w.heap.size ≤ Qi))
              have Z2 := qs ((by rw [hg];exact (below_size (by repeat (first | (with_reducible first | exact HB.out | apply qe | apply qf | apply qg | refine qd ?_ Qt.out | refine qd ?_ Qu.out | refine qd ?_ Zg.out | refine qd ?_ Zj.out) | exact HB.out))) : w.heap.size ≤ Qi))
              have Z6 := qs ((by rw [hg];exact za (blk_lt (g := Qa) (o := .cells #[.slice Q3 Qj.length Q1,.int .i64 Qk] 49 (0,0)) (by (with_reducible repeat (first | refine qa ?_ _ | refine qb ?_ | refine qc ?_ _));exact Qc.out)) : Qa ≠ Qi))
              have Xb := qs ((by rw [hg];exact zb (blk_lt (g := Qa) (o := .cells #[.slice Q3 Qj.length Q1,.int .i64 Qk] 49 (0,0)) (by (with_reducible repeat (first | refine qa ?_ _ | refine qb ?_ | refine qc ?_ _));exact Qc.out)) : Qi ≠ Qa))
              have Xc := qs ((by rw [hg];exact za (blk_lt (g := Qb) (o := .cells #[.string Qp,.int .i64 Qq] 23 (0,0)) (by (with_reducible repeat (first | refine qa ?_ _ | refine qb ?_ | refine qc ?_ _));exact Qg.out)) : Qb ≠ Qi))
              have Xd := qs ((by rw [hg];exact zb (blk_lt (g := Qb) (o := .cells #[.string Qp,.int .i64 Qq] 23 (0,0)) (by (with_reducible repeat (first | refine qa ?_ _ | refine qb ?_ | refine qc ?_ _));exact Qg.out)) : Qi ≠ Qb))
              have Xe := qs ((by rw [hg];exact za (blk_lt (g := Qd) (o := .cells #[.slice Zi Qs.length Zh,.int .i64 Q0] 49 (0,0)) (by (with_reducible repeat (first | refine qa ?_ _ | refine qb ?_ | refine qc ?_ _));exact Ql.out)) : Qd ≠ Qi))
              have Xf := qs ((by rw [hg];exact zb (blk_lt (g := Qd) (o := .cells #[.slice Zi Qs.length Zh,.int .i64 Q0] 49 (0,0)) (by (with_reducible repeat (first | refine qa ?_ _ | refine qb ?_ | refine qc ?_ _));exact Ql.out)) : Qi ≠ Qd))
              have Xg := qs ((by rw [hg];exact za (blk_lt (g := Qe) (o := .cells #[.string Q7,.int .i64 Q9] 23 (0,0)) (by (with_reducible repeat (first | refine qa ?_ _ | refine qb ?_ | refine qc ?_ _));exact Qm.out)) : Qe ≠ Qi))
              have Xh := qs ((by rw [hg];exact zb (blk_lt (g := Qe) (o := .cells #[.string Q7,.int .i64 Q9] 23 (0,0)) (by (with_reducible repeat (first | refine qa ?_ _ | refine qb ?_ | refine qc ?_ _));exact Qm.out)) : Qi ≠ Qe))
              clear Qo
              clear Qr
              clear Qv
              clear Qw
              clear Zf
              clear Qc
              clear Qg
              clear Ql
              clear Qm
              clear HB
              have Qo := n0_
              have Qr := n1_
              have Qv := n2_
              have Qw := n3_
              have Zf := n4_
              have Qc := n5_
              have Qg := n6_
              have Ql := n7_
              have Qm := n8_
              have HB := n9_
              have Zb := Zw
              have X2 := Z0
              have Zt := Z2
              have Qz := Z6
              have Zp := Xb
              have Q2 := Xc
              have Zr := Xd
              have Za := Xe
              have Zs := Xf
              have Q4 := Xg
              have Zk := Xh
              clear n0_ n1_ n2_ n3_ n4_ n5_ n6_ n7_ n8_ n9_ Zw Z0 Z2 Z6 Xb Xc Xd Xe Xf Xg Xh
              clear hb hbox hg
              refine hK.out _ _ ⟨(qx Qc.out 0).trans rfl,(qx Qc.out 1).trans rfl,(qx Qg.out 0).trans rfl,(qx Qg.out 1).trans rfl⟩ (fun hHeld => ?_)
              clear hK K
              refine zm (a' := ?_) ?_ ?_
              rotate_left
              ·show Act.put _ (some 13) _ = _
               simp only [Act.put,qt,qu,qv,i64_w,i32_w]
               rfl
              exact zm (by first | (simp only [putAll,Act.put,qt,qu,qv];done) | (simp only [putAll,Act.put,qt,qu,qv];rfl)) (Lv (Qi) _ ⟨hHeld,(by (with_reducible repeat (first | apply qh | apply qi | apply qj));exact qp Qo.out (fun _ hk => ⟨hk.1.1,⟨hk.1.2.1,⟨hk.1.2.2.1,⟨hk.1.2.2.2.1,⟨hk.1.2.2.2.2,hk.2⟩⟩⟩⟩⟩)),(by (with_reducible repeat (first | apply qh | apply qi | apply qj));exact qp Qr.out (fun _ hk => ⟨hk.1.1,⟨hk.1.2.1,⟨hk.1.2.2.1,⟨hk.1.2.2.2.1,⟨hk.1.2.2.2.2,hk.2⟩⟩⟩⟩⟩)),(by (with_reducible repeat (first | apply qk | apply ql | apply qm));exact Qv.out),(by (with_reducible repeat (first | apply qh | apply qi | apply qj));exact qp Qw.out (fun _ hk => ⟨hk.1.1,⟨hk.1.2.1,⟨hk.1.2.2.1,⟨hk.1.2.2.2.1,⟨hk.1.2.2.2.2,hk.2⟩⟩⟩⟩⟩)),(by (with_reducible repeat (first | apply qh | apply qi | apply qj));exact qp Zf.out (fun _ hk => ⟨hk.1.1,⟨hk.1.2.1,⟨hk.1.2.2.1,⟨hk.1.2.2.2.1,⟨hk.1.2.2.2.2,hk.2⟩⟩⟩⟩⟩)),(by (with_reducible repeat (first | refine qa ?_ _ | refine qb ?_ | refine qc ?_ _));exact Qc.out),(by (with_reducible repeat (first | refine qa ?_ _ | refine qb ?_ | refine qc ?_ _));exact Qg.out),(by (with_reducible repeat (first | refine qa ?_ _ | refine qb ?_ | refine qc ?_ _));exact Ql.out),(by (with_reducible repeat (first | refine qa ?_ _ | refine qb ?_ | refine qc ?_ _));exact Qm.out),(by (with_reducible repeat (first | refine qa ?_ _ | refine qb ?_ | refine qc ?_ _));exact Zb.out),X2.out,Zt.out,Qz.out,Zp.out,Q2.out,Zr.out,Za.out,Zs.out,Q4.out,Zk.out,(by repeat (first | (with_reducible first | exact HB.out | apply qe | apply qf | apply qg | refine qd ?_ Qt.out | refine qd ?_ Qu.out | refine qd ?_ Zg.out | refine qd ?_ Zj.out | refine qd ?_ Zt.out) | exact HB.out))⟩)
             ·skip
              refine box_step ?hg (N := 14) ?hd (cs := #[.string (⟨#[]⟩ : ByteArray),.int .i64 0]) (t := 23) ?hr ?_;(case hd => rfl);(case hg => rfl);(case hr => first | (go_simp;done) | (go_simp;rfl))
              intro Qh hg w49 hbox hb
              have n0_ := qs (qq (Kd.V_elderB (by (with_reducible repeat (first | apply qh | apply qi | apply qj));exact Qo.out) Qh (zc hg.symm)) hb)
              have n1_ := qs (qq (Kd.V_elderB (by (with_reducible repeat (first | apply qh | apply qi | apply qj));exact Qr.out) Qh (zc hg.symm)) hb)
              have n2_ := qs (qr (by (with_reducible repeat (first | apply qk | apply ql | apply qm));exact Qv.out) hb)
              have n3_ := qs (qq (Kd.V_elderB (by (with_reducible repeat (first | apply qh | apply qi | apply qj));exact Qw.out) Qh (zc hg.symm)) hb)
              have n4_ := qs (qq (Kd.V_elderB (by (with_reducible repeat (first | apply qh | apply qi | apply qj));exact Zf.out) Qh (zc hg.symm)) hb)
              have n5_ := qs (qw (g := Qa) (o := .cells #[.slice Q3 Qj.length Q1,.int .i64 Qk] 49 (0,0)) (by (with_reducible repeat (first | refine qa ?_ _ | refine qb ?_ | refine qc ?_ _));exact Qc.out) hb)
              have n6_ := qs (qw (g := Qb) (o := .cells #[.string Qp,.int .i64 Qq] 23 (0,0)) (by (with_reducible repeat (first | refine qa ?_ _ | refine qb ?_ | refine qc ?_ _));exact Qg.out) hb)
              have n7_ := qs (qw (g := Qd) (o := .cells #[.slice Zi Qs.length Zh,.int .i64 Q0] 49 (0,0)) (by (with_reducible repeat (first | refine qa ?_ _ | refine qb ?_ | refine qc ?_ _));exact Ql.out) hb)
              have n8_ := qs (qw (g := Qe) (o := .cells #[.string Q7,.int .i64 Q9] 23 (0,0)) (by (with_reducible repeat (first | refine qa ?_ _ | refine qb ?_ | refine qc ?_ _));exact Qm.out) hb)
              have n9_ := qs (zf (by repeat (first | (with_reducible first | exact HB.out | apply qe | apply qf | apply qg | refine qd ?_ Qt.out | refine qd ?_ Qu.out | refine qd ?_ Zg.out | refine qd ?_ Zj.out) | exact HB.out)) hb)
              have Zw := qs (hbox)
              have Z0 := qs ((by rw [hg];exact (below_size (by repeat (first | (with_reducible first | exact HB.out | apply qe | apply qf | apply qg | refine qd ?_ Qt.out | refine qd ?_ Qu.out | refine qd ?_ Zg.out | refine qd ?_ Zj.out) | exact HB.out))) : w.heap.size ≤ Qh))
              have Z2 := qs ((by rw [hg];exact (below_size (by repeat (first | (with_reducible first | exact HB.out | apply qe | apply qf | apply qg | refine qd ?_ Qt.out | refine qd ?_ Qu.out | refine qd ?_ Zg.out | refine qd ?_ Zj.out) | exact HB.out))) : w.heap.size ≤ Qh))
              have Z6 := qs ((by rw [hg];exact za (blk_lt (g := Qa) (o := .cells #[.slice Q3 Qj.length Q1,.int .i64 Qk] 49 (0,0)) (by (with_reducible repeat (first | refine qa ?_ _ | refine qb ?_ | refine qc ?_ _));exact Qc.out)) : Qa ≠ Qh))
              have Xb := qs ((by rw [hg];exact zb (blk_lt (g := Qa) (o := .cells #[.slice Q3 Qj.length Q1,.int .i64 Qk] 49 (0,0)) (by (with_reducible repeat (first | refine qa ?_ _ | refine qb ?_ | refine qc ?_ _));exact Qc.out)) : Qh ≠ Qa))
              have Xc := qs ((by rw [hg];exact za (blk_lt (g := Qb) (o := .cells #[.string Qp,.int .i64 Qq] 23 (0,0)) (by (with_reducible repeat (first | refine qa ?_ _ | refine qb ?_ | refine qc ?_ _));exact Qg.out)) : Qb ≠ Qh))
              have Xd := qs ((by rw [hg];exact zb (blk_lt (g := Qb) (o := .cells #[.string Qp,.int .i64 Qq] 23 (0,0)) (by (with_reducible repeat (first | refine qa ?_ _ | refine qb ?_ | refine qc ?_ _));exact Qg.out)) : Qh ≠ Qb))
              have Xe := qs ((by rw [hg];exact za (blk_lt (g := Qd) (o := .cells #[.slice Zi Qs.length Zh,.int .i64 Q0] 49 (0,0)) (by (with_reducible repeat (first | refine qa ?_ _ | refine qb ?_ | refine qc ?_ _));exact Ql.out)) : Qd ≠ Qh))
              have Xf := qs ((by rw [hg];exact zb (blk_lt (g := Qd) (o := .cells #[.slice Zi Qs.length Zh,.int .i64 Q0] 49 (0,0)) (by (with_reducible repeat (first | refine qa ?_ _ | refine qb ?_ | refine qc ?_ _));exact Ql.out)) : Qh ≠ Qd))
              have Xg := qs ((by rw [hg];exact za (blk_lt (g := Qe) (o := .cells #[.string Q7,.int .i64 Q9] 23 (0,0)) (by (with_reducible repeat (first | refine qa ?_ _ | refine qb ?_ | refine qc ?_ _));exact Qm.out)) : Qe ≠ Qh))
              have Xh := qs ((by rw [hg];exact zb (blk_lt (g := Qe) (o := .cells #[.string Q7,.int .i64 Q9] 23 (0,0)) (by (with_reducible repeat (first | refine qa ?_ _ | refine qb ?_ | refine qc ?_ _));exact Qm.out)) : Qh ≠ Qe))
              clear Qo
              clear Qr
              clear Qv
              clear Qw
              clear Zf
              clear Qc
              clear Qg
              clear Ql
              clear Qm
              clear HB
              have Qo := n0_
              have Qr := n1_
              have Qv := n2_
              have Qw := n3_
              have Zf := n4_
              have Qc := n5_
              have Qg := n6_
              have Ql := n7_
              have Qm := n8_
              have HB := n9_
              have Q6 := Zw
              have X3 := Z0
              have Zu := Z2
              have Qx := Z6
              have Zm := Xb
              have Qy := Xc
              have Zn := Xd
              have Q5 := Xe
              have Zl := Xf
              have Q8 := Xg
              have Zo := Xh
              clear n0_ n1_ n2_ n3_ n4_ n5_ n6_ n7_ n8_ n9_ Zw Z0 Z2 Z6 Xb Xc Xd Xe Xf Xg Xh
              clear hb hbox hg
              refine hK.out _ _ ⟨(qx Qc.out 0).trans rfl,(qx Qc.out 1).trans rfl,(qx Qg.out 0).trans rfl,(qx Qg.out 1).trans rfl⟩ (fun hHeld => ?_)
              clear hK K
              refine zm (a' := ?_) ?_ ?_
              rotate_left
              ·show Act.put _ (some 14) _ = _
               simp only [Act.put,qt,qu,qv,i64_w,i32_w]
               rfl
              exact zm (by first | (simp only [putAll,Act.put,qt,qu,qv];done) | (simp only [putAll,Act.put,qt,qu,qv];rfl)) (Lw (Qh) _ ⟨hHeld,(by (with_reducible repeat (first | apply qh | apply qi | apply qj));exact qp Qo.out (fun _ hk => ⟨hk.1.1,⟨hk.1.2.1,⟨hk.1.2.2.1,⟨hk.1.2.2.2.1,⟨hk.1.2.2.2.2,hk.2⟩⟩⟩⟩⟩)),(by (with_reducible repeat (first | apply qh | apply qi | apply qj));exact qp Qr.out (fun _ hk => ⟨hk.1.1,⟨hk.1.2.1,⟨hk.1.2.2.1,⟨hk.1.2.2.2.1,⟨hk.1.2.2.2.2,hk.2⟩⟩⟩⟩⟩)),(by (with_reducible repeat (first | apply qk | apply ql | apply qm));exact Qv.out),(by (with_reducible repeat (first | apply qh | apply qi | apply qj));exact qp Qw.out (fun _ hk => ⟨hk.1.1,⟨hk.1.2.1,⟨hk.1.2.2.1,⟨hk.1.2.2.2.1,⟨hk.1.2.2.2.2,hk.2⟩⟩⟩⟩⟩)),(by (with_reducible repeat (first | apply qh | apply qi | apply qj));exact qp Zf.out (fun _ hk => ⟨hk.1.1,⟨hk.1.2.1,⟨hk.1.2.2.1,⟨hk.1.2.2.2.1,⟨hk.1.2.2.2.2,hk.2⟩⟩⟩⟩⟩)),(by (with_reducible repeat (first | refine qa ?_ _ | refine qb ?_ | refine qc ?_ _));exact Qc.out),(by (with_reducible repeat (first | refine qa ?_ _ | refine qb ?_ | refine qc ?_ _));exact Qg.out),(by (with_reducible repeat (first | refine qa ?_ _ | refine qb ?_ | refine qc ?_ _));exact Ql.out),(by (with_reducible repeat (first | refine qa ?_ _ | refine qb ?_ | refine qc ?_ _));exact Qm.out),(by (with_reducible repeat (first | refine qa ?_ _ | refine qb ?_ | refine qc ?_ _));exact Q6.out),X3.out,Zu.out,Qx.out,Zm.out,Qy.out,Zn.out,Q5.out,Zl.out,Q8.out,Zo.out,(by repeat (first | (with_reducible first | exact HB.out | apply qe | apply qf | apply qg | refine qd ?_ Qt.out | refine qd ?_ Qu.out | refine qd ?_ Zg.out | refine qd ?_ Zj.out | refine qd ?_ Zu.out) | exact HB.out))⟩)
            ·skip
             rintro Qh w50 ⟨hS_,h0_,h1_,h2_,h3_,h4_,h5_,h6_,h7_,h8_,h9_,Yd,Yh,Yi,Yj,Yk,Yl,Ym,Yn,Yo,Yp,Yq⟩
             have n0_ : Aside0 (Kd.V (Kd.int .i64) 3 w50 w.heap.size (fun k_ => some k_ ≠ (Ze : Value).ownBlock ∧ k_ ≠ Qa ∧ k_ ≠ Qb ∧ k_ ≠ Qd ∧ k_ ≠ Qe ∧ k_ ≠ Qh) (.slice Q3 Qj.length Q1) Qj) := ⟨h0_⟩
             have n1_ : Aside0 (Kd.V (Kd.int .i64) 3 w50 w.heap.size (fun k_ => some k_ ≠ (Ze : Value).ownBlock ∧ k_ ≠ Qa ∧ k_ ≠ Qb ∧ k_ ≠ Qd ∧ k_ ≠ Qe ∧ k_ ≠ Qh) (.slice X7 Zv.length X8) Zv) := ⟨h1_⟩
             have n2_ : Aside0 (Kd.R (Kd.int .i64) 3 w50 w.heap.size (fun _ => True) Ze X4) := ⟨h2_⟩
             have n3_ : Aside0 (Kd.V (Kd.int .i64) 3 w50 w.heap.size (fun k_ => some k_ ≠ (Ze : Value).ownBlock ∧ k_ ≠ Qa ∧ k_ ≠ Qb ∧ k_ ≠ Qd ∧ k_ ≠ Qe ∧ k_ ≠ Qh) (.slice Zi Qs.length Zh) Qs) := ⟨h3_⟩
             have n4_ : Aside0 (Kd.V (Kd.int .i64) 3 w50 w.heap.size (fun k_ => some k_ ≠ (Ze : Value).ownBlock ∧ k_ ≠ Qa ∧ k_ ≠ Qb ∧ k_ ≠ Qd ∧ k_ ≠ Qe ∧ k_ ≠ Qh) (.slice A48 Z8.length c48) Z8) := ⟨h4_⟩
             have n5_ : Aside0 (w50.heap[Qa]? = some (.cells #[.slice Q3 Qj.length Q1,.int .i64 Qk] 49 (0,0))) := ⟨h5_⟩
             have n6_ : Aside0 (w50.heap[Qb]? = some (.cells #[.string Qp,.int .i64 Qq] 23 (0,0))) := ⟨h6_⟩
             have n7_ : Aside0 (w50.heap[Qd]? = some (.cells #[.slice Zi Qs.length Zh,.int .i64 Q0] 49 (0,0))) := ⟨h7_⟩
             have n8_ : Aside0 (w50.heap[Qe]? = some (.cells #[.string Q7,.int .i64 Q9] 23 (0,0))) := ⟨h8_⟩
             have n9_ : Aside0 (w50.heap[Qh]? = some (.cells #[.string (⟨#[]⟩ : ByteArray),.int .i64 0] 23 (0,0))) := ⟨h9_⟩
             have Zw : Aside0 (w.heap.size ≤ Qh) := ⟨Yd⟩
             have Z0 : Aside0 (w.heap.size ≤ Qh) := ⟨Yh⟩
             have Z2 : Aside0 (Qa ≠ Qh) := ⟨Yi⟩
             have Z6 : Aside0 (Qh ≠ Qa) := ⟨Yj⟩
             have Xb : Aside0 (Qb ≠ Qh) := ⟨Yk⟩
             have Xc : Aside0 (Qh ≠ Qb) := ⟨Yl⟩
             have Xd : Aside0 (Qd ≠ Qh) := ⟨Ym⟩
             have Xe : Aside0 (Qh ≠ Qd) := ⟨Yn⟩
             have Xf : Aside0 (Qe ≠ Qh) := ⟨Yo⟩
             have Xg : Aside0 (Qh ≠ Qe) := ⟨Yp⟩
             have Xh : Aside0 (Below w.heap.size w w50) := ⟨Yq⟩
             clear Qo
             clear Qr
             clear Qv
             clear Qw
             clear Qc
             clear Qg
             clear Ql
             clear Qm
             clear HB
             clear h0_ h1_ h2_ h3_ h4_ h5_ h6_ h7_ h8_ h9_ Yd Yh Yi Yj Yk Yl Ym Yn Yo Yp Yq
             have Qo := n0_
             have Qr := n1_
             have Qv := n2_
             have Qw := n3_
             have Zf := n4_
             have Qc := n5_
             have Qg := n6_
             have Ql := n7_
             have Qm := n8_
             have Q6 := n9_
             have X3 := Zw
             have Zu := Z0
             have Qx := Z2
             have Zm := Z6
             have Qy := Xb
             have Zn := Xc
             have Q5 := Xd
             have Zl := Xe
             have Q8 := Xf
             have Zo := Xg
             have HB := Xh
             clear n0_ n1_ n2_ n3_ n4_ n5_ n6_ n7_ n8_ n9_ Zw Z0 Z2 Z6 Xb Xc Xd Xe Xf Xg Xh
             have hHeld : w50.cell? ⟨Qa,0,none⟩ = some (.slice Q3 Qj.length Q1) ∧ w50.cell? ⟨Qa,1,none⟩ = some (.int .i64 Qk) ∧ w50.cell? ⟨Qb,0,none⟩ = some (.string Qp) ∧ w50.cell? ⟨Qb,1,none⟩ = some (.int .i64 Qq) := hS_
             refine zm (a' := ?_) ?_ ?_
             rotate_left
             ·simp only [putAll,Act.put,qt,qu,qv]
              rfl
             refine two_ (i := 8) (j := 14) (Ni := some 50) (Nj := some 13) #[true,true,true,true,true,true,true,true,true,false,false,false,false,false,false,true,false,false,false,false] #[true,true,true,true,true,true,true,true,false,false,false,false,false,false,true,true,false,false,false,false] rfl rfl rfl rfl (two_of HT_.out (by kernel_rfl)) (by decide) (by decide) (fun K hK => ?_) (fun K hK => ?_)
             ·skip
              refine zt Try.func31 (by kernel_rfl) rfl #[.agg #[.slice A48 Z8.length c48,.int .i64 0],.agg #[.string Qp,.int .i64 Qq],.slice X7 Zv.length X8] (by rfl) rfl rfl (by (try simp only [zi,zj,zk]);first | done | rfl | (simp only [zg,zh];rfl)) ?_
              with_reducible refine (turn_Next.calls k (fun k_ => (some k_ ≠ (Ze : Value).ownBlock ∧ (k_ ≠ Qa ∧ (k_ ≠ Qb ∧ (k_ ≠ Qd ∧ (k_ ≠ Qe ∧ k_ ≠ Qh)))))) _ _ Z8 0 Qp Qq _ _ Zv X5 Z4 Z7 Z9 Xi X6 _ ?Xa ?Xl ?X9 A13.out).mono ?_
              (case Xa => exact Zf.out)
              (case Xl => repeat (first | exact (Kd.V_reads' Qr.out).2.2 | (with_reducible refine zp ?_ _) | (with_reducible refine zq ?_ _) | (with_reducible refine zr ?_)))
              (case X9 => exact (Kd.V_reads' Qr.out).2.1)
              rintro e w51 ⟨Yf,rfl,ho0,hb⟩
              refine ⟨_,rfl,?_⟩
              have n0_ := qs (qq (by (with_reducible repeat (first | apply qh | apply qi | apply qj));exact Qo.out) hb)
              have n1_ := qs (qq (by (with_reducible repeat (first | apply qh | apply qi | apply qj));exact Qr.out) hb)
              have n2_ := qs (qr (by (with_reducible repeat (first | apply qk | apply ql | apply qm));exact Qv.out) hb)
              have n3_ := qs (qq (by (with_reducible repeat (first | apply qh | apply qi | apply qj));exact Qw.out) hb)
              have n4_ := qs (qq (by (with_reducible repeat (first | apply qh | apply qi | apply qj));exact Zf.out) hb)
              have n5_ := qs (zo (qp (ok' := fun k_ => some k_ ≠ (Ze : Value).ownBlock ∧ k_ ≠ Qa ∧ k_ ≠ Qb ∧ k_ ≠ Qd ∧ k_ ≠ Qe ∧ k_ ≠ Qh) ho0 (fun k_ hk_ => ⟨Or.elim hk_ (fun hs_ => hs_.1) (fun hn_ => (Kd.fresh' (Kd.R_lt (by (with_reducible repeat (first | apply qk | apply ql | apply qm));exact Qv.out)) k_ hn_)),Or.elim hk_ (fun hs_ => hs_.2.1) (fun hn_ => (Kd.freshB (g := Qa) (o := .cells #[.slice Q3 Qj.length Q1,.int .i64 Qk] 49 (0,0)) (by (with_reducible repeat (first | refine qa ?_ _ | refine qb ?_ | refine qc ?_ _));exact Qc.out) k_ hn_)),Or.elim hk_ (fun hs_ => hs_.2.2.1) (fun hn_ => (Kd.freshB (g := Qb) (o := .cells #[.string Qp,.int .i64 Qq] 23 (0,0)) (by (with_reducible repeat (first | refine qa ?_ _ | refine qb ?_ | refine qc ?_ _));exact Qg.out) k_ hn_)),Or.elim hk_ (fun hs_ => hs_.2.2.2.1) (fun hn_ => (Kd.freshB (g := Qd) (o := .cells #[.slice Zi Qs.length Zh,.int .i64 Q0] 49 (0,0)) (by (with_reducible repeat (first | refine qa ?_ _ | refine qb ?_ | refine qc ?_ _));exact Ql.out) k_ hn_)),Or.elim hk_ (fun hs_ => hs_.2.2.2.2.1) (fun hn_ => (Kd.freshB (g := Qe) (o := .cells #[.string Q7,.int .i64 Q9] 23 (0,0)) (by (with_reducible repeat (first | refine qa ?_ _ | refine qb ?_ | refine qc ?_ _));exact Qm.out) k_ hn_)),Or.elim hk_ (fun hs_ => hs_.2.2.2.2.2) (fun hn_ => (Kd.freshB (g := Qh) (o := .cells #[.string (⟨#[]⟩ : ByteArray),.int .i64 0] 23 (0,0)) (by (with_reducible repeat (first | refine qa ?_ _ | refine qb ?_ | refine qc ?_ _));exact Q6.out) k_ hn_))⟩)) (below_size (by repeat (first | (with_reducible first | exact HB.out | apply qe | apply qf | apply qg | refine qd ?_ Qt.out | refine qd ?_ Qu.out | refine qd ?_ Zg.out | refine qd ?_ Zj.out | refine qd ?_ Zu.out) | exact HB.out))))
              have n6_ := qs (qw (g := Qa) (o := .cells #[.slice Q3 Qj.length Q1,.int .i64 Qk] 49 (0,0)) (by (with_reducible repeat (first | refine qa ?_ _ | refine qb ?_ | refine qc ?_ _));exact Qc.out) hb)
              have n7_ := qs (qw (g := Qb) (o := .cells #[.string Qp,.int .i64 Qq] 23 (0,0)) (by (with_reducible repeat (first | refine qa ?_ _ | refine qb ?_ | refine qc ?_ _));exact Qg.out) hb)
              have n8_ := qs (qw (g := Qd) (o := .cells #[.slice Zi Qs.length Zh,.int .i64 Q0] 49 (0,0)) (by (with_reducible repeat (first | refine qa ?_ _ | refine qb ?_ | refine qc ?_ _));exact Ql.out) hb)
              have n9_ := qs (qw (g := Qe) (o := .cells #[.string Q7,.int .i64 Q9] 23 (0,0)) (by (with_reducible repeat (first | refine qa ?_ _ | refine qb ?_ | refine qc ?_ _));exact Qm.out) hb)
              have Zw := qs (qw (g := Qh) (o := .cells #[.string (⟨#[]⟩ : ByteArray),.int .i64 0] 23 (0,0)) (by (with_reducible repeat (first | refine qa ?_ _ | refine qb ?_ | refine qc ?_ _));exact Q6.out) hb)
              have Z0 := qs (zf (by repeat (first | (with_reducible first | exact HB.out | apply qe | apply qf | apply qg | refine qd ?_ Qt.out | refine qd ?_ Qu.out | refine qd ?_ Zg.out | refine qd ?_ Zj.out | refine qd ?_ Zu.out) | exact HB.out)) hb)
              clear Qo
              clear Qr
              clear Qv
              clear Qw
              clear Zf
              clear Qc
              clear Qg
              clear Ql
              clear Qm
              clear Q6
              clear HB
              have Qo := n0_
              have Qr := n1_
              have Qv := n2_
              have Qw := n3_
              have Zf := n4_
              have Z3 := n5_
              have Qc := n6_
              have Qg := n7_
              have Ql := n8_
              have Qm := n9_
              have Q6 := Zw
              have HB := Z0
              clear n0_ n1_ n2_ n3_ n4_ n5_ n6_ n7_ n8_ n9_ Zw Z0
              (try clear hb)
              (try clear hb2)
              (try clear hk)
              (try clear hi)
              (try clear ho0)
              refine hK.out _ _ ⟨(qx Qc.out 0).trans rfl,(qx Qc.out 1).trans rfl,(qx Qg.out 0).trans rfl,(qx Qg.out 1).trans rfl⟩ (fun hHeld => ?_)
              clear hK K
              refine zm (a' := ?_) ?_ ?_
              rotate_left
              ·show Act.put _ (some 50) _ = _
               simp only [Act.put,qt,qu,qv,i64_w,i32_w]
               rfl
              refine zl (i := 9) (N := some 41) (v := ?_) (a' := ?_) #[true,true,true,true,true,true,true,true,true,true,false,false,false,false,false,true,false,false,false,false] rfl rfl (any_of HT_.out (by kernel_rfl)) (fun _ _ _ h => h) (Or.inl ⟨by rfl,?_⟩) ?_ ?_
              rotate_left
              ·intro w'
               go_simp
               with_reducible rfl
              rotate_left
              ·simp only [Act.put,qt,qu,qv,i64_w,i32_w]
               rfl
              refine zl (i := 10) (N := some 51) (v := ?_) (a' := ?_) #[true,true,true,true,true,true,true,true,true,true,true,false,false,false,false,true,false,false,false,false] rfl rfl (any_of HT_.out (by kernel_rfl)) (fun _ _ _ h => h) (Or.inl ⟨by rfl,?_⟩) ?_ ?_
              rotate_left
              ·intro w'
               go_simp
               with_reducible rfl
              rotate_left
              ·simp only [Act.put,qt,qu,qv,i64_w,i32_w]
               rfl
              refine zl (i := 11) (N := some 52) (v := ?_) (a' := ?_) #[true,true,true,true,true,true,true,true,true,true,true,true,false,false,false,true,false,false,false,false] rfl rfl (any_of HT_.out (by kernel_rfl)) (fun _ _ _ h => h) (Or.inl ⟨by rfl,?_⟩) ?_ ?_
              rotate_left
              ·intro w'
               go_simp
               with_reducible rfl
              rotate_left
              ·simp only [Act.put,qt,qu,qv,i64_w,i32_w]
               rfl
              refine zl (i := 12) (N := some 53) (v := ?_) (a' := ?_) #[true,true,true,true,true,true,true,true,true,true,true,true,true,false,false,true,false,false,false,false] rfl rfl (any_of HT_.out (by kernel_rfl)) (fun _ _ _ h => h) (Or.inl ⟨by rfl,?_⟩) ?_ ?_
              rotate_left
              ·intro w'
               go_simp
               with_reducible rfl
              rotate_left
              ·simp only [Act.put,qt,qu,qv,i64_w,i32_w]
               rfl
              refine zl (i := 13) (N := some 54) (v := ?_) (a' := ?_) #[true,true,true,true,true,true,true,true,true,true,true,true,true,true,false,true,false,false,false,false] rfl rfl (any_of HT_.out (by kernel_rfl)) (fun _ _ _ h => h) (Or.inl ⟨by rfl,?_⟩) ?_ ?_
              rotate_left
              ·intro w'
               go_simp
               with_reducible rfl
              rotate_left
              ·simp only [Act.put,qt,qu,qv,i64_w,i32_w]
               rfl
              exact zm (by first | (simp only [putAll,Act.put,qt,qu,qv];done) | (simp only [putAll,Act.put,qt,qu,qv];rfl)) (Js (Yf,Qh) _ ⟨hHeld,(by (with_reducible repeat (first | apply qh | apply qi | apply qj));exact Qo.out),(by (with_reducible repeat (first | apply qh | apply qi | apply qj));exact Qr.out),(by (with_reducible repeat (first | apply qk | apply ql | apply qm));exact Qv.out),(by (with_reducible repeat (first | apply qh | apply qi | apply qj));exact Qw.out),(by (with_reducible repeat (first | apply qh | apply qi | apply qj));exact Zf.out),(by (with_reducible repeat (first | apply qh | apply qi | apply qj));exact Z3.out),(by (with_reducible repeat (first | refine qa ?_ _ | refine qb ?_ | refine qc ?_ _));exact Qc.out),(by (with_reducible repeat (first | refine qa ?_ _ | refine qb ?_ | refine qc ?_ _));exact Qg.out),(by (with_reducible repeat (first | refine qa ?_ _ | refine qb ?_ | refine qc ?_ _));exact Ql.out),(by (with_reducible repeat (first | refine qa ?_ _ | refine qb ?_ | refine qc ?_ _));exact Qm.out),(by (with_reducible repeat (first | refine qa ?_ _ | refine qb ?_ | refine qc ?_ _));exact Q6.out),X3.out,Zu.out,Qx.out,Zm.out,Qy.out,Zn.out,Q5.out,Zl.out,Q8.out,Zo.out,(by repeat (first | (with_reducible first | exact HB.out | apply qe | apply qf | apply qg | refine qd ?_ Qt.out | refine qd ?_ Qu.out | refine qd ?_ Zg.out | refine qd ?_ Zj.out | refine qd ?_ Zu.out) | exact HB.out))⟩)
             ·skip
              refine box_step ?hg (N := 13) ?hd (cs := #[.slice none 0 0,.int .i64 0]) (t := 49) ?hr ?_;(case hd => rfl);(case hg => rfl);(case hr => first | (go_simp;done) | (go_simp;rfl))
              intro Qi hg w51 hbox hb
              have n0_ := qs (qq (Kd.V_elderB (by (with_reducible repeat (first | apply qh | apply qi | apply qj));exact Qo.out) Qi (zc hg.symm)) hb)
              have n1_ := qs (qq (Kd.V_elderB (by (with_reducible repeat (first | apply qh | apply qi | apply qj));exact Qr.out) Qi (zc hg.symm)) hb)
              have n2_ := qs (qr (by (with_reducible repeat (first | apply qk | apply ql | apply qm));exact Qv.out) hb)
              have n3_ := qs (qq (Kd.V_elderB (by (with_reducible repeat (first | apply qh | apply qi | apply qj));exact Qw.out) Qi (zc hg.symm)) hb)
              have n4_ := qs (qq (Kd.V_elderB (by (with_reducible repeat (first | apply qh | apply qi | apply qj));exact Zf.out) Qi (zc hg.symm)) hb)
              have n5_ := qs (qw (g := Qa) (o := .cells #[.slice Q3 Qj.length Q1,.int .i64 Qk] 49 (0,0)) (by (with_reducible repeat (first | refine qa ?_ _ | refine qb ?_ | refine qc ?_ _));exact Qc.out) hb)
              have n6_ := qs (qw (g := Qb) (o := .cells #[.string Qp,.int .i64 Qq] 23 (0,0)) (by (with_reducible repeat (first | refine qa ?_ _ | refine qb ?_ | refine qc ?_ _));exact Qg.out) hb)
              have n7_ := qs (qw (g := Qd) (o := .cells #[.slice Zi Qs.length Zh,.int .i64 Q0] 49 (0,0)) (by (with_reducible repeat (first | refine qa ?_ _ | refine qb ?_ | refine qc ?_ _));exact Ql.out) hb)
              have n8_ := qs (qw (g := Qe) (o := .cells #[.string Q7,.int .i64 Q9] 23 (0,0)) (by (with_reducible repeat (first | refine qa ?_ _ | refine qb ?_ | refine qc ?_ _));exact Qm.out) hb)
              have n9_ := qs (qw (g := Qh) (o := .cells #[.string (⟨#[]⟩ : ByteArray),.int .i64 0] 23 (0,0)) (by (with_reducible repeat (first | refine qa ?_ _ | refine qb ?_ | refine qc ?_ _));exact Q6.out) hb)
              have Zw := qs (zf (by repeat (first | (with_reducible first | exact HB.out | apply qe | apply qf | apply qg | refine qd ?_ Qt.out | refine qd ?_ Qu.out | refine qd ?_ Zg.out | refine qd ?_ Zj.out | refine qd ?_ Zu.out) | exact HB.out)) hb)
              have Z0 := qs (hbox)
              have Z2 := qs ((by rw [hg];exact (below_size (by repeat (first | (with_reducible first | exact HB.out | apply qe | apply qf | apply qg | refine qd ?_ Qt.out | refine qd ?_ Qu.out | refine qd ?_ Zg.out | refine qd ?_ Zj.out | refine qd ?_ Zu.out) | exact HB.out))) : w.heap.size ≤ Qi))
              have Z6 := qs ((by rw [hg];exact (below_size (by repeat (first | (with_reducible first | exact HB.out | apply qe | apply qf | apply qg | refine qd ?_ Qt.out | refine qd ?_ Qu.out | refine qd ?_ Zg.out | refine qd ?_ Zj.out | refine qd ?_ Zu.out) | exact HB.out))) : w.heap.size ≤ Qi))
              have Xb := qs ((by rw [hg];exact za (blk_lt (g := Qa) (o := .cells #[.slice Q3 Qj.length Q1,.int .i64 Qk] 49 (0,0)) (by (with_reducible repeat (first | refine qa ?_ _ | refine qb ?_ | refine qc ?_ _));exact Qc.out)) : Qa ≠ Qi))
              have Xc := qs ((by rw [hg];exact zb (blk_lt (g := Qa) (o := .cells #[.slice Q3 Qj.length Q1,.int .i64 Qk] 49 (0,0)) (by (with_reducible repeat (first | refine qa ?_ _ | refine qb ?_ | refine qc ?_ _));exact Qc.out)) : Qi ≠ Qa))
              have Xd := qs ((by rw [hg];exact za (blk_lt (g := Qb) (o := .cells #[.string Qp,.int .i64 Qq] 23 (0,0)) (by (with_reducible repeat (first | refine qa ?_ _ | refine qb ?_ | refine qc ?_ _));exact Qg.out)) : Qb ≠ Qi))
              have Xe := qs ((by rw [hg];exact zb (blk_lt (g := Qb) (o := .cells #[.string Qp,.int .i64 Qq] 23 (0,0)) (by (with_reducible repeat (first | refine qa ?_ _ | refine qb ?_ | refine qc ?_ _));exact Qg.out)) : Qi ≠ Qb))
              have Xf := qs ((by rw [hg];exact za (blk_lt (g := Qd) (o := .cells #[.slice Zi Qs.length Zh,.int .i64 Q0] 49 (0,0)) (by (with_reducible repeat (first | refine qa ?_ _ | refine qb ?_ | refine qc ?_ _));exact Ql.out)) : Qd ≠ Qi))
              have Xg := qs ((by rw [hg];exact zb (blk_lt (g := Qd) (o := .cells #[.slice Zi Qs.length Zh,.int .i64 Q0] 49 (0,0)) (by (with_reducible repeat (first | refine qa ?_ _ | refine qb ?_ | refine qc ?_ _));exact Ql.out)) : Qi ≠ Qd))
              have Xh := qs ((by rw [hg];exact za (blk_lt (g := Qe) (o := .cells #[.string Q7,.int .i64 Q9] 23 (0,0)) (by (with_reducible repeat (first | refine qa ?_ _ | refine qb ?_ | refine qc ?_ _));exact Qm.out)) : Qe ≠ Qi))
              have Xs := qs ((by rw [hg];exact zb (blk_lt (g := Qe) (o := .cells #[.string Q7,.int .i64 Q9] 23 (0,0)) (by (with_reducible repeat (first | refine qa ?_ _ | refine qb ?_ | refine qc ?_ _));exact Qm.out)) : Qi ≠ Qe))
              have Yr := qs ((by rw [hg];exact za (blk_lt (g := Qh) (o := .cells #[.string (⟨#[]⟩ : ByteArray),.int .i64 0] 23 (0,0)) (by (with_reducible repeat (first | refine qa ?_ _ | refine qb ?_ | refine qc ?_ _));exact Q6.out)) : Qh ≠ Qi))
              have Ys := qs ((by rw [hg];exact zb (blk_lt (g := Qh) (o := .cells #[.string (⟨#[]⟩ : ByteArray),.int .i64 0] 23 (0,0)) (by (with_reducible repeat (first | refine qa ?_ _ | refine qb ?_ | refine qc ?_ _));exact Q6.out)) : Qi ≠ Qh))
              clear Qo
              clear Qr
              clear Qv
              clear Qw
              clear Zf
              clear Qc
              clear Qg
              clear Ql
              clear Qm
              clear Q6
              clear HB
              have Qo := n0_
              have Qr := n1_
              have Qv := n2_
              have Qw := n3_
              have Zf := n4_
              have Qc := n5_
              have Qg := n6_
              have Ql := n7_
              have Qm := n8_
              have Q6 := n9_
              have HB := Zw
              have Zb := Z0
              have X2 := Z2
              have Zt := Z6
              have Qz := Xb
              have Zp := Xc
              have Q2 := Xd
              have Zr := Xe
              have Za := Xf
              have Zs := Xg
              have Q4 := Xh
              have Zk := Xs
              have Zc := Yr
              have Zd := Ys
              clear n0_ n1_ n2_ n3_ n4_ n5_ n6_ n7_ n8_ n9_ Zw Z0 Z2 Z6 Xb Xc Xd Xe Xf Xg Xh Xs Yr Ys
              clear hb hbox hg
              refine hK.out _ _ ⟨(qx Qc.out 0).trans rfl,(qx Qc.out 1).trans rfl,(qx Qg.out 0).trans rfl,(qx Qg.out 1).trans rfl⟩ (fun hHeld => ?_)
              clear hK K
              refine zm (a' := ?_) ?_ ?_
              rotate_left
              ·show Act.put _ (some 13) _ = _
               simp only [Act.put,qt,qu,qv,i64_w,i32_w]
               rfl
              exact zm (by first | (simp only [putAll,Act.put,qt,qu,qv];done) | (simp only [putAll,Act.put,qt,qu,qv];rfl)) (Jl (Qi,Qh) _ ⟨hHeld,(by (with_reducible repeat (first | apply qh | apply qi | apply qj));exact qp Qo.out (fun _ hk => ⟨hk.1.1,⟨hk.1.2.1,⟨hk.1.2.2.1,⟨hk.1.2.2.2.1,⟨hk.1.2.2.2.2.1,⟨hk.2,hk.1.2.2.2.2.2⟩⟩⟩⟩⟩⟩)),(by (with_reducible repeat (first | apply qh | apply qi | apply qj));exact qp Qr.out (fun _ hk => ⟨hk.1.1,⟨hk.1.2.1,⟨hk.1.2.2.1,⟨hk.1.2.2.2.1,⟨hk.1.2.2.2.2.1,⟨hk.2,hk.1.2.2.2.2.2⟩⟩⟩⟩⟩⟩)),(by (with_reducible repeat (first | apply qk | apply ql | apply qm));exact Qv.out),(by (with_reducible repeat (first | apply qh | apply qi | apply qj));exact qp Qw.out (fun _ hk => ⟨hk.1.1,⟨hk.1.2.1,⟨hk.1.2.2.1,⟨hk.1.2.2.2.1,⟨hk.1.2.2.2.2.1,⟨hk.2,hk.1.2.2.2.2.2⟩⟩⟩⟩⟩⟩)),(by (with_reducible repeat (first | apply qh | apply qi | apply qj));exact qp Zf.out (fun _ hk => ⟨hk.1.1,⟨hk.1.2.1,⟨hk.1.2.2.1,⟨hk.1.2.2.2.1,⟨hk.1.2.2.2.2.1,⟨hk.2,hk.1.2.2.2.2.2⟩⟩⟩⟩⟩⟩)),(by (with_reducible repeat (first | refine qa ?_ _ | refine qb ?_ | refine qc ?_ _));exact Qc.out),(by (with_reducible repeat (first | refine qa ?_ _ | refine qb ?_ | refine qc ?_ _));exact Qg.out),(by (with_reducible repeat (first | refine qa ?_ _ | refine qb ?_ | refine qc ?_ _));exact Ql.out),(by (with_reducible repeat (first | refine qa ?_ _ | refine qb ?_ | refine qc ?_ _));exact Qm.out),(by (with_reducible repeat (first | refine qa ?_ _ | refine qb ?_ | refine qc ?_ _));exact Zb.out),(by (with_reducible repeat (first | refine qa ?_ _ | refine qb ?_ | refine qc ?_ _));exact Q6.out),X2.out,Zt.out,Qz.out,Zp.out,Q2.out,Zr.out,Za.out,Zs.out,Q4.out,Zk.out,Zc.out,Zd.out,X3.out,Zu.out,Qx.out,Zm.out,Qy.out,Zn.out,Q5.out,Zl.out,Q8.out,Zo.out,(by repeat (first | (with_reducible first | exact HB.out | apply qe | apply qf | apply qg | refine qd ?_ Qt.out | refine qd ?_ Qu.out | refine qd ?_ Zg.out | refine qd ?_ Zj.out | refine qd ?_ Zu.out | refine qd ?_ Zt.out) | exact HB.out))⟩)
           ·skip
            rintro Qi w50 ⟨hS_,h0_,h1_,h2_,h3_,h4_,h5_,h6_,h7_,h8_,h9_,Yd,Yh,Yi,Yj,Yk,Yl,Ym,Yn,Yo,Yp,Yq⟩
            have n0_ : Aside0 (Kd.V (Kd.int .i64) 3 w50 w.heap.size (fun k_ => some k_ ≠ (Ze : Value).ownBlock ∧ k_ ≠ Qa ∧ k_ ≠ Qb ∧ k_ ≠ Qd ∧ k_ ≠ Qe ∧ k_ ≠ Qi) (.slice Q3 Qj.length Q1) Qj) := ⟨h0_⟩
            have n1_ : Aside0 (Kd.V (Kd.int .i64) 3 w50 w.heap.size (fun k_ => some k_ ≠ (Ze : Value).ownBlock ∧ k_ ≠ Qa ∧ k_ ≠ Qb ∧ k_ ≠ Qd ∧ k_ ≠ Qe ∧ k_ ≠ Qi) (.slice X7 Zv.length X8) Zv) := ⟨h1_⟩
            have n2_ : Aside0 (Kd.R (Kd.int .i64) 3 w50 w.heap.size (fun _ => True) Ze X4) := ⟨h2_⟩
            have n3_ : Aside0 (Kd.V (Kd.int .i64) 3 w50 w.heap.size (fun k_ => some k_ ≠ (Ze : Value).ownBlock ∧ k_ ≠ Qa ∧ k_ ≠ Qb ∧ k_ ≠ Qd ∧ k_ ≠ Qe ∧ k_ ≠ Qi) (.slice Zi Qs.length Zh) Qs) := ⟨h3_⟩
            have n4_ : Aside0 (Kd.V (Kd.int .i64) 3 w50 w.heap.size (fun k_ => some k_ ≠ (Ze : Value).ownBlock ∧ k_ ≠ Qa ∧ k_ ≠ Qb ∧ k_ ≠ Qd ∧ k_ ≠ Qe ∧ k_ ≠ Qi) (.slice A48 Z8.length c48) Z8) := ⟨h4_⟩
            have n5_ : Aside0 (w50.heap[Qa]? = some (.cells #[.slice Q3 Qj.length Q1,.int .i64 Qk] 49 (0,0))) := ⟨h5_⟩
            have n6_ : Aside0 (w50.heap[Qb]? = some (.cells #[.string Qp,.int .i64 Qq] 23 (0,0))) := ⟨h6_⟩
            have n7_ : Aside0 (w50.heap[Qd]? = some (.cells #[.slice Zi Qs.length Zh,.int .i64 Q0] 49 (0,0))) := ⟨h7_⟩
            have n8_ : Aside0 (w50.heap[Qe]? = some (.cells #[.string Q7,.int .i64 Q9] 23 (0,0))) := ⟨h8_⟩
            have n9_ : Aside0 (w50.heap[Qi]? = some (.cells #[.slice none 0 0,.int .i64 0] 49 (0,0))) := ⟨h9_⟩
            have Zw : Aside0 (w.heap.size ≤ Qi) := ⟨Yd⟩
            have Z0 : Aside0 (w.heap.size ≤ Qi) := ⟨Yh⟩
            have Z2 : Aside0 (Qa ≠ Qi) := ⟨Yi⟩
            have Z6 : Aside0 (Qi ≠ Qa) := ⟨Yj⟩
            have Xb : Aside0 (Qb ≠ Qi) := ⟨Yk⟩
            have Xc : Aside0 (Qi ≠ Qb) := ⟨Yl⟩
            have Xd : Aside0 (Qd ≠ Qi) := ⟨Ym⟩
            have Xe : Aside0 (Qi ≠ Qd) := ⟨Yn⟩
            have Xf : Aside0 (Qe ≠ Qi) := ⟨Yo⟩
            have Xg : Aside0 (Qi ≠ Qe) := ⟨Yp⟩
            have Xh : Aside0 (Below w.heap.size w w50) := ⟨Yq⟩
            clear Qo
            clear Qr
            clear Qv
            clear Qw
            clear Qc
            clear Qg
            clear Ql
            clear Qm
            clear HB
            clear h0_ h1_ h2_ h3_ h4_ h5_ h6_ h7_ h8_ h9_ Yd Yh Yi Yj Yk Yl Ym Yn Yo Yp Yq
            have Qo := n0_
            have Qr := n1_
            have Qv := n2_
            have Qw := n3_
            have Zf := n4_
            have Qc := n5_
            have Qg := n6_
            have Ql := n7_
            have Qm := n8_
            have Zb := n9_
            have X2 := Zw
            have Zt := Z0
            have Qz := Z2
            have Zp := Z6
            have Q2 := Xb
            have Zr := Xc
            have Za := Xd
            have Zs := Xe
            have Q4 := Xf
            have Zk := Xg
            have HB := Xh
            clear n0_ n1_ n2_ n3_ n4_ n5_ n6_ n7_ n8_ n9_ Zw Z0 Z2 Z6 Xb Xc Xd Xe Xf Xg Xh
            have hHeld : w50.cell? ⟨Qa,0,none⟩ = some (.slice Q3 Qj.length Q1) ∧ w50.cell? ⟨Qa,1,none⟩ = some (.int .i64 Qk) ∧ w50.cell? ⟨Qb,0,none⟩ = some (.string Qp) ∧ w50.cell? ⟨Qb,1,none⟩ = some (.int .i64 Qq) := hS_
            refine zm (a' := ?_) ?_ ?_
            rotate_left
            ·simp only [putAll,Act.put,qt,qu,qv]
             rfl
            refine two_ (i := 8) (j := 15) (Ni := some 50) (Nj := some 14) #[true,true,true,true,true,true,true,true,true,false,false,false,false,false,true,false,false,false,false,false] #[true,true,true,true,true,true,true,true,false,false,false,false,false,false,true,true,false,false,false,false] rfl rfl rfl rfl (two_of HT_.out (by kernel_rfl)) (by decide) (by decide) (fun K hK => ?_) (fun K hK => ?_)
            ·skip
             refine zt Try.func31 (by kernel_rfl) rfl #[.agg #[.slice A48 Z8.length c48,.int .i64 0],.agg #[.string Qp,.int .i64 Qq],.slice X7 Zv.length X8] (by rfl) rfl rfl (by (try simp only [zi,zj,zk]);first | done | rfl | (simp only [zg,zh];rfl)) ?_
             with_reducible refine (turn_Next.calls k (fun k_ => (some k_ ≠ (Ze : Value).ownBlock ∧ (k_ ≠ Qa ∧ (k_ ≠ Qb ∧ (k_ ≠ Qd ∧ (k_ ≠ Qe ∧ k_ ≠ Qi)))))) _ _ Z8 0 Qp Qq _ _ Zv X5 Z4 Z7 Z9 Xi X6 _ ?Xa ?Xl ?X9 A13.out).mono ?_
             (case Xa => exact Zf.out)
             (case Xl => repeat (first | exact (Kd.V_reads' Qr.out).2.2 | (with_reducible refine zp ?_ _) | (with_reducible refine zq ?_ _) | (with_reducible refine zr ?_)))
             (case X9 => exact (Kd.V_reads' Qr.out).2.1)
             rintro e w51 ⟨Yf,rfl,ho0,hb⟩
             refine ⟨_,rfl,?_⟩
             have n0_ := qs (qq (by (with_reducible repeat (first | apply qh | apply qi | apply qj));exact Qo.out) hb)
             have n1_ := qs (qq (by (with_reducible repeat (first | apply qh | apply qi | apply qj));exact Qr.out) hb)
             have n2_ := qs (qr (by (with_reducible repeat (first | apply qk | apply ql | apply qm));exact Qv.out) hb)
             have n3_ := qs (qq (by (with_reducible repeat (first | apply qh | apply qi | apply qj));exact Qw.out) hb)
             have n4_ := qs (qq (by (with_reducible repeat (first | apply qh | apply qi | apply qj));exact Zf.out) hb)
             have n5_ := qs (zo (qp (ok' := fun k_ => some k_ ≠ (Ze : Value).ownBlock ∧ k_ ≠ Qa ∧ k_ ≠ Qb ∧ k_ ≠ Qd ∧ k_ ≠ Qe ∧ k_ ≠ Qi) ho0 (fun k_ hk_ => ⟨Or.elim hk_ (fun hs_ => hs_.1) (fun hn_ => (Kd.fresh' (Kd.R_lt (by (with_reducible repeat (first | apply qk | apply ql | apply qm));exact Qv.out)) k_ hn_)),Or.elim hk_ (fun hs_ => hs_.2.1) (fun hn_ => (Kd.freshB (g := Qa) (o := .cells #[.slice Q3 Qj.length Q1,.int .i64 Qk] 49 (0,0)) (by (with_reducible repeat (first | refine qa ?_ _ | refine qb ?_ | refine qc ?_ _));exact Qc.out) k_ hn_)),Or.elim hk_ (fun hs_ => hs_.2.2.1) (fun hn_ => (Kd.freshB (g := Qb) (o := .cells #[.string Qp,.int .i64 Qq] 23 (0,0)) (by (with_reducible repeat (first | refine qa ?_ _ | refine qb ?_ | refine qc ?_ _));exact Qg.out) k_ hn_)),Or.elim hk_ (fun hs_ => hs_.2.2.2.1) (fun hn_ => (Kd.freshB (g := Qd) (o := .cells #[.slice Zi Qs.length Zh,.int .i64 Q0] 49 (0,0)) (by (with_reducible repeat (first | refine qa ?_ _ | refine qb ?_ | refine qc ?_ _));exact Ql.out) k_ hn_)),Or.elim hk_ (fun hs_ => hs_.2.2.2.2.1) (fun hn_ => (Kd.freshB (g := Qe) (o := .cells #[.string Q7,.int .i64 Q9] 23 (0,0)) (by (with_reducible repeat (first | refine qa ?_ _ | refine qb ?_ | refine qc ?_ _));exact Qm.out) k_ hn_)),Or.elim hk_ (fun hs_ => hs_.2.2.2.2.2) (fun hn_ => (Kd.freshB (g := Qi) (o := .cells #[.slice none 0 0,.int .i64 0] 49 (0,0)) (by (with_reducible repeat (first | refine qa ?_ _ | refine qb ?_ | refine qc ?_ _));exact Zb.out) k_ hn_))⟩)) (below_size (by repeat (first | (with_reducible first | exact HB.out | apply qe | apply qf | apply qg | refine qd ?_ Qt.out | refine qd ?_ Qu.out | refine qd ?_ Zg.out | refine qd ?_ Zj.out | refine qd ?_ Zt.out) | exact HB.out))))
             have n6_ := qs (qw (g := Qa) (o := .cells #[.slice Q3 Qj.length Q1,.int .i64 Qk] 49 (0,0)) (by (with_reducible repeat (first | refine qa ?_ _ | refine qb ?_ | refine qc ?_ _));exact Qc.out) hb)
             have n7_ := qs (qw (g := Qb) (o := .cells #[.string Qp,.int .i64 Qq] 23 (0,0)) (by (with_reducible repeat (first | refine qa ?_ _ | refine qb ?_ | refine qc ?_ _));exact Qg.out) hb)
             have n8_ := qs (qw (g := Qd) (o := .cells #[.slice Zi Qs.length Zh,.int .i64 Q0] 49 (0,0)) (by (with_reducible repeat (first | refine qa ?_ _ | refine qb ?_ | refine qc ?_ _));exact Ql.out) hb)
             have n9_ := qs (qw (g := Qe) (o := .cells #[.string Q7,.int .i64 Q9] 23 (0,0)) (by (with_reducible repeat (first | refine qa ?_ _ | refine qb ?_ | refine qc ?_ _));exact Qm.out) hb)
             have Zw := qs (qw (g := Qi) (o := .cells #[.slice none 0 0,.int .i64 0] 49 (0,0)) (by (with_reducible repeat (first | refine qa ?_ _ | refine qb ?_ | refine qc ?_ _));exact Zb.out) hb)
             have Z0 := qs (zf (by repeat (first | (with_reducible first | exact HB.out | apply qe | apply qf | apply qg | refine qd ?_ Qt.out | refine qd ?_ Qu.out | refine qd ?_ Zg.out | refine qd ?_ Zj.out | refine qd ?_ Zt.out) | exact HB.out)) hb)
             clear Qo
             clear Qr
             clear Qv
             clear Qw
             clear Zf
             clear Qc
             clear Qg
             clear Ql
             clear Qm
             clear Zb
             clear HB
             have Qo := n0_
             have Qr := n1_
             have Qv := n2_
             have Qw := n3_
             have Zf := n4_
             have Z3 := n5_
             have Qc := n6_
             have Qg := n7_
             have Ql := n8_
             have Qm := n9_
             have Zb := Zw
             have HB := Z0
             clear n0_ n1_ n2_ n3_ n4_ n5_ n6_ n7_ n8_ n9_ Zw Z0
             (try clear hb)
             (try clear hb2)
             (try clear hk)
             (try clear hi)
             (try clear ho0)
             refine hK.out _ _ ⟨(qx Qc.out 0).trans rfl,(qx Qc.out 1).trans rfl,(qx Qg.out 0).trans rfl,(qx Qg.out 1).trans rfl⟩ (fun hHeld => ?_)
             clear hK K
             refine zm (a' := ?_) ?_ ?_
             rotate_left
             ·show Act.put _ (some 50) _ = _
              simp only [Act.put,qt,qu,qv,i64_w,i32_w]
              rfl
             refine zl (i := 9) (N := some 41) (v := ?_) (a' := ?_) #[true,true,true,true,true,true,true,true,true,true,false,false,false,false,true,false,false,false,false,false] rfl rfl (any_of HT_.out (by kernel_rfl)) (fun _ _ _ h => h) (Or.inl ⟨by rfl,?_⟩) ?_ ?_
             rotate_left
             ·intro w'
              go_simp
              with_reducible rfl
             rotate_left
             ·simp only [Act.put,qt,qu,qv,i64_w,i32_w]
              rfl
             refine zl (i := 10) (N := some 51) (v := ?_) (a' := ?_) #[true,true,true,true,true,true,true,true,true,true,true,false,false,false,true,false,false,false,false,false] rfl rfl (any_of HT_.out (by kernel_rfl)) (fun _ _ _ h => h) (Or.inl ⟨by rfl,?_⟩) ?_ ?_
             rotate_left
             ·intro w'
              go_simp
              with_reducible rfl
             rotate_left
             ·simp only [Act.put,qt,qu,qv,i64_w,i32_w]
              rfl
             refine zl (i := 11) (N := some 52) (v := ?_) (a' := ?_) #[true,true,true,true,true,true,true,true,true,true,true,true,false,false,true,false,false,false,false,false] rfl rfl (any_of HT_.out (by kernel_rfl)) (fun _ _ _ h => h) (Or.inl ⟨by rfl,?_⟩) ?_ ?_
             rotate_left
             ·intro w'
              go_simp
              with_reducible rfl
             rotate_left
             ·simp only [Act.put,qt,qu,qv,i64_w,i32_w]
              rfl
             refine zl (i := 12) (N := some 53) (v := ?_) (a' := ?_) #[true,true,true,true,true,true,true,true,true,true,true,true,true,false,true,false,false,false,false,false] rfl rfl (any_of HT_.out (by kernel_rfl)) (fun _ _ _ h => h) (Or.inl ⟨by rfl,?_⟩) ?_ ?_
             rotate_left
             ·intro w'
              go_simp
              with_reducible rfl
             rotate_left
             ·simp only [Act.put,qt,qu,qv,i64_w,i32_w]
              rfl
             refine zl (i := 13) (N := some 54) (v := ?_) (a' := ?_) #[true,true,true,true,true,true,true,true,true,true,true,true,true,true,true,false,false,false,false,false] rfl rfl (any_of HT_.out (by kernel_rfl)) (fun _ _ _ h => h) (Or.inl ⟨by rfl,?_⟩) ?_ ?_
             rotate_left
             ·intro w'
              go_simp
              with_reducible rfl
             rotate_left
             ·simp only [Act.put,qt,qu,qv,i64_w,i32_w]
              rfl
             exact zm (by first | (simp only [putAll,Act.put,qt,qu,qv];done) | (simp only [putAll,Act.put,qt,qu,qv];rfl)) (Jr (Yf,Qi) _ ⟨hHeld,(by (with_reducible repeat (first | apply qh | apply qi | apply qj));exact Qo.out),(by (with_reducible repeat (first | apply qh | apply qi | apply qj));exact Qr.out),(by (with_reducible repeat (first | apply qk | apply ql | apply qm));exact Qv.out),(by (with_reducible repeat (first | apply qh | apply qi | apply qj));exact Qw.out),(by (with_reducible repeat (first | apply qh | apply qi | apply qj));exact Zf.out),(by (with_reducible repeat (first | apply qh | apply qi | apply qj));exact Z3.out),(by (with_reducible repeat (first | refine qa ?_ _ | refine qb ?_ | refine qc ?_ _));exact Qc.out),(by (with_reducible repeat (first | refine qa ?_ _ | refine qb ?_ | refine qc ?_ _));exact Qg.out),(by (with_reducible repeat (first | refine qa ?_ _ | refine qb ?_ | refine qc ?_ _));exact Ql.out),(by (with_reducible repeat (first | refine qa ?_ _ | refine qb ?_ | refine qc ?_ _));exact Qm.out),(by (with_reducible repeat (first | refine qa ?_ _ | refine qb ?_ | refine qc ?_ _));exact Zb.out),X2.out,Zt.out,Qz.out,Zp.out,Q2.out,Zr.out,Za.out,Zs.out,Q4.out,Zk.out,(by repeat (first | (with_reducible first | exact HB.out | apply qe | apply qf | apply qg | refine qd ?_ Qt.out | refine qd ?_ Qu.out | refine qd ?_ Zg.out | refine qd ?_ Zj.out | refine qd ?_ Zt.out) | exact HB.out))⟩)
            ·skip
             refine box_step ?hg (N := 14) ?hd (cs := #[.string (⟨#[]⟩ : ByteArray),.int .i64 0]) (t := 23) ?hr ?_;(case hd => rfl);(case hg => rfl);(case hr => first | (go_simp;done) | (go_simp;rfl))
             intro Qh hg w51 hbox hb
             have n0_ := qs (qq (Kd.V_elderB (by (with_reducible repeat (first | apply qh | apply qi | apply qj));exact Qo.out) Qh (zc hg.symm)) hb)
             have n1_ := qs (qq (Kd.V_elderB (by (with_reducible repeat (first | apply qh | apply qi | apply qj));exact Qr.out) Qh (zc hg.symm)) hb)
             have n2_ := qs (qr (by (with_reducible repeat (first | apply qk | apply ql | apply qm));exact Qv.out) hb)
             have n3_ := qs (qq (Kd.V_elderB (by (with_reducible repeat (first | apply qh | apply qi | apply qj));exact Qw.out) Qh (zc hg.symm)) hb)
             have n4_ := qs (qq (Kd.V_elderB (by (with_reducible repeat (first | apply qh | apply qi | apply qj));exact Zf.out) Qh (zc hg.symm)) hb)
             have n5_ := qs (qw (g := Qa) (o := .cells #[.slice Q3 Qj.length Q1,.int .i64 Qk] 49 (0,0)) (by (with_reducible repeat (first | refine qa ?_ _ | refine qb ?_ | refine qc ?_ _));exact Qc.out) hb)
             have n6_ := qs (qw (g := Qb) (o := .cells #[.string Qp,.int .i64 Qq] 23 (0,0)) (by (with_reducible repeat (first | refine qa ?_ _ | refine qb ?_ | refine qc ?_ _));exact Qg.out) hb)
             have n7_ := qs (qw (g := Qd) (o := .cells #[.slice Zi Qs.length Zh,.int .i64 Q0] 49 (0,0)) (by (with_reducible repeat (first | refine qa ?_ _ | refine qb ?_ | refine qc ?_ _));exact Ql.out) hb)
             have n8_ := qs (qw (g := Qe) (o := .cells #[.string Q7,.int .i64 Q9] 23 (0,0)) (by (with_reducible repeat (first | refine qa ?_ _ | refine qb ?_ | refine qc ?_ _));exact Qm.out) hb)
             have n9_ := qs (qw (g := Qi) (o := .cells #[.slice none 0 0,.int .i64 0] 49 (0,0)) (by (with_reducible repeat (first | refine qa ?_ _ | refine qb ?_ | refine qc ?_ _));exact Zb.out) hb)
             have Zw := qs (zf (by repeat (first | (with_reducible first | exact HB.out | apply qe | apply qf | apply qg | refine qd ?_ Qt.out | refine qd ?_ Qu.out | refine qd ?_ Zg.out | refine qd ?_ Zj.out | refine qd ?_ Zt.out) | exact HB.out)) hb)
             have Z0 := qs (hbox)
             have Z2 := qs ((by rw [hg];exact (below_size (by repeat (first | (with_reducible first | exact HB.out | apply qe | apply qf | apply qg | refine qd ?_ Qt.out | refine qd ?_ Qu.out | refine qd ?_ Zg.out | refine qd ?_ Zj.out | refine qd ?_ Zt.out) | exact HB.out))) : w.heap.size ≤ Qh))
             have Z6 := qs ((by rw [hg];exact (below_size (by repeat (first | (with_reducible first | exact HB.out | apply qe | apply qf | apply qg | refine qd ?_ Qt.out | refine qd ?_ Qu.out | refine qd ?_ Zg.out | refine qd ?_ Zj.out | refine qd ?_ Zt.out) | exact HB.out))) : w.heap.size ≤ Qh))
             have Xb := qs ((by rw [hg];exact za (blk_lt (g := Qa) (o := .cells #[.slice Q3 Qj.length Q1,.int .i64 Qk] 49 (0,0)) (by (with_reducible repeat (first | refine qa ?_ _ | refine qb ?_ | refine qc ?_ _));exact Qc.out)) : Qa ≠ Qh))
             have Xc := qs ((by rw [hg];exact zb (blk_lt (g := Qa) (o := .cells #[.slice Q3 Qj.length Q1,.int .i64 Qk] 49 (0,0)) (by (with_reducible repeat (first | refine qa ?_ _ | refine qb ?_ | refine qc ?_ _));exact Qc.out)) : Qh ≠ Qa))
             have Xd := qs ((by rw [hg];exact za (blk_lt (g := Qb) (o := .cells #[.string Qp,.int .i64 Qq] 23 (0,0)) (by (with_reducible repeat (first | refine qa ?_ _ | refine qb ?_ | refine qc ?_ _));exact Qg.out)) : Qb ≠ Qh))
             have Xe := qs ((by rw [hg];exact zb (blk_lt (g := Qb) (o := .cells #[.string Qp,.int .i64 Qq] 23 (0,0)) (by (with_reducible repeat (first | refine qa ?_ _ | refine qb ?_ | refine qc ?_ _));exact Qg.out)) : Qh ≠ Qb))
             have Xf := qs ((by rw [hg];exact za (blk_lt (g := Qd) (o := .cells #[.slice Zi Qs.length Zh,.int .i64 Q0] 49 (0,0)) (by (with_reducible repeat (first | refine qa ?_ _ | refine qb ?_ | refine qc ?_ _));exact Ql.out)) : Qd ≠ Qh))
             have Xg := qs ((by rw [hg];exact zb (blk_lt (g := Qd) (o := .cells #[.slice Zi Qs.length Zh,.int .i64 Q0] 49 (0,0)) (by (with_reducible repeat (first | refine qa ?_ _ | refine qb ?_ | refine qc ?_ _));exact Ql.out)) : Qh ≠ Qd))
             have Xh := qs ((by rw [hg];exact za (blk_lt (g := Qe) (o := .cells #[.string Q7,.int .i64 Q9] 23 (0,0)) (by (with_reducible repeat (first | refine qa ?_ _ | refine qb ?_ | refine qc ?_ _));exact Qm.out)) : Qe ≠ Qh))
             have Xs := qs ((by rw [hg];exact zb (blk_lt (g := Qe) (o := .cells #[.string Q7,.int .i64 Q9] 23 (0,0)) (by (with_reducible repeat (first | refine qa ?_ _ | refine qb ?_ | refine qc ?_ _));exact Qm.out)) : Qh ≠ Qe))
             have Yr := qs ((by rw [hg];exact za (blk_lt (g := Qi) (o := .cells #[.slice none 0 0,.int .i64 0] 49 (0,0)) (by (with_reducible repeat (first | refine qa ?_ _ | refine qb ?_ | refine qc ?_ _));exact Zb.out)) : Qi ≠ Qh))
             have Ys := qs ((by rw [hg];exact zb (blk_lt (g := Qi) (o := .cells #[.slice none 0 0,.int .i64 0] 49 (0,0)) (by (with_reducible repeat (first | refine qa ?_ _ | refine qb ?_ | refine qc ?_ _));exact Zb.out)) : Qh ≠ Qi))
             clear Qo
             clear Qr
             clear Qv
             clear Qw
             clear Zf
             clear Qc
             clear Qg
             clear Ql
             clear Qm
             clear Zb
             clear HB
             have Qo := n0_
             have Qr := n1_
             have Qv := n2_
             have Qw := n3_
             have Zf := n4_
             have Qc := n5_
             have Qg := n6_
             have Ql := n7_
             have Qm := n8_
             have Zb := n9_
             have HB := Zw
             have Q6 := Z0
             have X3 := Z2
             have Zu := Z6
             have Qx := Xb
             have Zm := Xc
             have Qy := Xd
             have Zn := Xe
             have Q5 := Xf
             have Zl := Xg
             have Q8 := Xh
             have Zo := Xs
             have Zd := Yr
             have Zc := Ys
             clear n0_ n1_ n2_ n3_ n4_ n5_ n6_ n7_ n8_ n9_ Zw Z0 Z2 Z6 Xb Xc Xd Xe Xf Xg Xh Xs Yr Ys
             clear hb hbox hg
             refine hK.out _ _ ⟨(qx Qc.out 0).trans rfl,(qx Qc.out 1).trans rfl,(qx Qg.out 0).trans rfl,(qx Qg.out 1).trans rfl⟩ (fun hHeld => ?_)
             clear hK K
             refine zm (a' := ?_) ?_ ?_
             rotate_left
             ·show Act.put _ (some 14) _ = _
              simp only [Act.put,qt,qu,qv,i64_w,i32_w]
              rfl
             exact zm (by first | (simp only [putAll,Act.put,qt,qu,qv];done) | (simp only [putAll,Act.put,qt,qu,qv];rfl)) (Jl (Qi,Qh) _ ⟨hHeld,(by (with_reducible repeat (first | apply qh | apply qi | apply qj));exact qp Qo.out (fun _ hk => ⟨hk.1.1,⟨hk.1.2.1,⟨hk.1.2.2.1,⟨hk.1.2.2.2.1,⟨hk.1.2.2.2.2.1,⟨hk.1.2.2.2.2.2,hk.2⟩⟩⟩⟩⟩⟩)),(by (with_reducible repeat (first | apply qh | apply qi | apply qj));exact qp Qr.out (fun _ hk => ⟨hk.1.1,⟨hk.1.2.1,⟨hk.1.2.2.1,⟨hk.1.2.2.2.1,⟨hk.1.2.2.2.2.1,⟨hk.1.2.2.2.2.2,hk.2⟩⟩⟩⟩⟩⟩)),(by (with_reducible repeat (first | apply qk | apply ql | apply qm));exact Qv.out),(by (with_reducible repeat (first | apply qh | apply qi | apply qj));exact qp Qw.out (fun _ hk => ⟨hk.1.1,⟨hk.1.2.1,⟨hk.1.2.2.1,⟨hk.1.2.2.2.1,⟨hk.1.2.2.2.2.1,⟨hk.1.2.2.2.2.2,hk.2⟩⟩⟩⟩⟩⟩)),(by (with_reducible repeat (first | apply qh | apply qi | apply qj));exact qp Zf.out (fun _ hk => ⟨hk.1.1,⟨hk.1.2.1,⟨hk.1.2.2.1,⟨hk.1.2.2.2.1,⟨hk.1.2.2.2.2.1,⟨hk.1.2.2.2.2.2,hk.2⟩⟩⟩⟩⟩⟩)),(by (with_reducible repeat (first | refine qa ?_ _ | refine qb ?_ | refine qc ?_ _));exact Qc.out),(by (with_reducible repeat (first | refine qa ?_ _ | refine qb ?_ | refine qc ?_ _));exact Qg.out),(by (with_reducible repeat (first | refine qa ?_ _ | refine qb ?_ | refine qc ?_ _));exact Ql.out),(by (with_reducible repeat (first | refine qa ?_ _ | refine qb ?_ | refine qc ?_ _));exact Qm.out),(by (with_reducible repeat (first | refine qa ?_ _ | refine qb ?_ | refine qc ?_ _));exact Zb.out),(by (with_reducible repeat (first | refine qa ?_ _ | refine qb ?_ | refine qc ?_ _));exact Q6.out),X2.out,Zt.out,Qz.out,Zp.out,Q2.out,Zr.out,Za.out,Zs.out,Q4.out,Zk.out,Zc.out,Zd.out,X3.out,Zu.out,Qx.out,Zm.out,Qy.out,Zn.out,Q5.out,Zl.out,Q8.out,Zo.out,(by repeat (first | (with_reducible first | exact HB.out | apply qe | apply qf | apply qg | refine qd ?_ Qt.out | refine qd ?_ Qu.out | refine qd ?_ Zg.out | refine qd ?_ Zj.out | refine qd ?_ Zt.out | refine qd ?_ Zu.out) | exact HB.out))⟩)
          ·skip
           rintro Yf w50 ⟨hS_,h0_,h1_,h2_,h3_,h4_,h5_,h6_,h7_,h8_,h9_,Yd⟩
           have n0_ : Aside0 (Kd.V (Kd.int .i64) 3 w50 w.heap.size (fun k_ => some k_ ≠ (Ze : Value).ownBlock ∧ k_ ≠ Qa ∧ k_ ≠ Qb ∧ k_ ≠ Qd ∧ k_ ≠ Qe) (.slice Q3 Qj.length Q1) Qj) := ⟨h0_⟩
           have n1_ : Aside0 (Kd.V (Kd.int .i64) 3 w50 w.heap.size (fun k_ => some k_ ≠ (Ze : Value).ownBlock ∧ k_ ≠ Qa ∧ k_ ≠ Qb ∧ k_ ≠ Qd ∧ k_ ≠ Qe) (.slice X7 Zv.length X8) Zv) := ⟨h1_⟩
           have n2_ : Aside0 (Kd.R (Kd.int .i64) 3 w50 w.heap.size (fun _ => True) Ze X4) := ⟨h2_⟩
           have n3_ : Aside0 (Kd.V (Kd.int .i64) 3 w50 w.heap.size (fun k_ => some k_ ≠ (Ze : Value).ownBlock ∧ k_ ≠ Qa ∧ k_ ≠ Qb ∧ k_ ≠ Qd ∧ k_ ≠ Qe) (.slice Zi Qs.length Zh) Qs) := ⟨h3_⟩
           have n4_ : Aside0 (Kd.V (Kd.int .i64) 3 w50 w.heap.size (fun k_ => some k_ ≠ (Ze : Value).ownBlock ∧ k_ ≠ Qa ∧ k_ ≠ Qb ∧ k_ ≠ Qd ∧ k_ ≠ Qe) (.slice A48 Z8.length c48) Z8) := ⟨h4_⟩
           have n5_ : Aside0 (Kd.V (Kd.int .i64) 3 w50 w.heap.size (fun k_ => some k_ ≠ (Ze : Value).ownBlock ∧ k_ ≠ Qa ∧ k_ ≠ Qb ∧ k_ ≠ Qd ∧ k_ ≠ Qe) Yf Z4) := ⟨h5_⟩
           have n6_ : Aside0 (w50.heap[Qa]? = some (.cells #[.slice Q3 Qj.length Q1,.int .i64 Qk] 49 (0,0))) := ⟨h6_⟩
           have n7_ : Aside0 (w50.heap[Qb]? = some (.cells #[.string Qp,.int .i64 Qq] 23 (0,0))) := ⟨h7_⟩
           have n8_ : Aside0 (w50.heap[Qd]? = some (.cells #[.slice Zi Qs.length Zh,.int .i64 Q0] 49 (0,0))) := ⟨h8_⟩
           have n9_ : Aside0 (w50.heap[Qe]? = some (.cells #[.string Q7,.int .i64 Q9] 23 (0,0))) := ⟨h9_⟩
           have Zw : Aside0 (Below w.heap.size w w50) := ⟨Yd⟩
           clear Qo
           clear Qr
           clear Qv
           clear Qw
           clear Qc
           clear Qg
           clear Ql
           clear Qm
           clear HB
           clear h0_ h1_ h2_ h3_ h4_ h5_ h6_ h7_ h8_ h9_ Yd
           have Qo := n0_
           have Qr := n1_
           have Qv := n2_
           have Qw := n3_
           have Zf := n4_
           have Z3 := n5_
           have Qc := n6_
           have Qg := n7_
           have Ql := n8_
           have Qm := n9_
           have HB := Zw
           clear n0_ n1_ n2_ n3_ n4_ n5_ n6_ n7_ n8_ n9_ Zw
           have hHeld : w50.cell? ⟨Qa,0,none⟩ = some (.slice Q3 Qj.length Q1) ∧ w50.cell? ⟨Qa,1,none⟩ = some (.int .i64 Qk) ∧ w50.cell? ⟨Qb,0,none⟩ = some (.string Qp) ∧ w50.cell? ⟨Qb,1,none⟩ = some (.int .i64 Qq) := hS_
           refine zm (a' := ?_) ?_ ?_
           rotate_left
           ·simp only [putAll,Act.put,qt,qu,qv]
            rfl
           refine two_ (i := 14) (j := 15) (Ni := some 13) (Nj := some 14) #[true,true,true,true,true,true,true,true,true,true,true,true,true,true,true,false,false,false,false,false] #[true,true,true,true,true,true,true,true,true,true,true,true,true,true,false,true,false,false,false,false] rfl rfl rfl rfl (two_of HT_.out (by kernel_rfl)) (by decide) (by decide) (fun K hK => ?_) (fun K hK => ?_)
           ·skip
            refine box_step ?hg (N := 13) ?hd (cs := #[.slice none 0 0,.int .i64 0]) (t := 49) ?hr ?_;(case hd => rfl);(case hg => rfl);(case hr => first | (go_simp;done) | (go_simp;rfl))
            intro Qi hg w51 hbox hb
            have n0_ := qs (qq (Kd.V_elderB (by (with_reducible repeat (first | apply qh | apply qi | apply qj));exact Qo.out) Qi (zc hg.symm)) hb)
            have n1_ := qs (qq (Kd.V_elderB (by (with_reducible repeat (first | apply qh | apply qi | apply qj));exact Qr.out) Qi (zc hg.symm)) hb)
            have n2_ := qs (qr (by (with_reducible repeat (first | apply qk | apply ql | apply qm));exact Qv.out) hb)
            have n3_ := qs (qq (Kd.V_elderB (by (with_reducible repeat (first | apply qh | apply qi | apply qj));exact Qw.out) Qi (zc hg.symm)) hb)
            have n4_ := qs (qq (Kd.V_elderB (by (with_reducible repeat (first | apply qh | apply qi | apply qj));exact Zf.out) Qi (zc hg.symm)) hb)
            have n5_ := qs (qq (Kd.V_elderB (by (with_reducible repeat (first | apply qh | apply qi | apply qj));exact Z3.out) Qi (zc hg.symm)) hb)
            have n6_ := qs (qw (g := Qa) (o := .cells #[.slice Q3 Qj.length Q1,.int .i64 Qk] 49 (0,0)) (by (with_reducible repeat (first | refine qa ?_ _ | refine qb ?_ | refine qc ?_ _));exact Qc.out) hb)
            have n7_ := qs (qw (g := Qb) (o := .cells #[.string Qp,.int .i64 Qq] 23 (0,0)) (by (with_reducible repeat (first | refine qa ?_ _ | refine qb ?_ | refine qc ?_ _));exact Qg.out) hb)
            have n8_ := qs (qw (g := Qd) (o := .cells #[.slice Zi Qs.length Zh,.int .i64 Q0] 49 (0,0)) (by (with_reducible repeat (first | refine qa ?_ _ | refine qb ?_ | refine qc ?_ _));exact Ql.out) hb)
            have n9_ := qs (qw (g := Qe) (o := .cells #[.string Q7,.int .i64 Q9] 23 (0,0)) (by (with_reducible repeat (first | refine qa ?_ _ | refine qb ?_ | refine qc ?_ _));exact Qm.out) hb)
            have Zw := qs (zf (by repeat (first | (with_reducible first | exact HB.out | apply qe | apply qf | apply qg | refine qd ?_ Qt.out | refine qd ?_ Qu.out | refine qd ?_ Zg.out | refine qd ?_ Zj.out) | exact HB.out)) hb)
            have Z0 := qs (hbox)
            have Z2 := qs ((by rw [hg];exact (below_size (by repeat (first | (with_reducible first | exact HB.out | apply qe | apply qf | apply qg | refine qd ?_ Qt.out | refine qd ?_ Qu.out | refine qd ?_ Zg.out | refine qd ?_ Zj.out) | exact HB.out))) : w.heap.size ≤ Qi))
            have Z6 := qs ((by rw [hg];exact (below_size (by repeat (first | (with_reducible first | exact HB.out | apply qe | apply qf | apply qg | refine qd ?_ Qt.out | refine qd ?_ Qu.out | refine qd ?_ Zg.out | refine qd ?_ Zj.out) | exact HB.out))) : w.heap.size ≤ Qi))
            have Xb := qs ((by rw [hg];exact za (blk_lt (g := Qa) (o := .cells #[.slice Q3 Qj.length Q1,.int .i64 Qk] 49 (0,0)) (by (with_reducible repeat (first | refine qa ?_ _ | refine qb ?_ | refine qc ?_ _));exact Qc.out)) : Qa ≠ Qi))
            have Xc := qs ((by rw [hg];exact zb (blk_lt (g := Qa) (o := .cells #[.slice Q3 Qj.length Q1,.int .i64 Qk] 49 (0,0)) (by (with_reducible repeat (first | refine qa ?_ _ | refine qb ?_ | refine qc ?_ _));exact Qc.out)) : Qi ≠ Qa))
            have Xd := qs ((by rw [hg];exact za (blk_lt (g := Qb) (o := .cells #[.string Qp,.int .i64 Qq] 23 (0,0)) (by (with_reducible repeat (first | refine qa ?_ _ | refine qb ?_ | refine qc ?_ _));exact Qg.out)) : Qb ≠ Qi))
            have Xe := qs ((by rw [hg];exact zb (blk_lt (g := Qb) (o := .cells #[.string Qp,.int .i64 Qq] 23 (0,0)) (by (with_reducible repeat (first | refine qa ?_ _ | refine qb ?_ | refine qc ?_ _));exact Qg.out)) : Qi ≠ Qb))
            have Xf := qs ((by rw [hg];exact za (blk_lt (g := Qd) (o := .cells #[.slice Zi Qs.length Zh,.int .i64 Q0] 49 (0,0)) (by (with_reducible repeat (first | refine qa ?_ _ | refine qb ?_ | refine qc ?_ _));exact Ql.out)) : Qd ≠ Qi))
            have Xg := qs ((by rw [hg];exact zb (blk_lt (g := Qd) (o := .cells #[.slice Zi Qs.length Zh,.int .i64 Q0] 49 (0,0)) (by (with_reducible repeat (first | refine qa ?_ _ | refine qb ?_ | refine qc ?_ _));exact Ql.out)) : Qi ≠ Qd))
            have Xh := qs ((by rw [hg];exact za (blk_lt (g := Qe) (o := .cells #[.string Q7,.int .i64 Q9] 23 (0,0)) (by (with_reducible repeat (first | refine qa ?_ _ | refine qb ?_ | refine qc ?_ _));exact Qm.out)) : Qe ≠ Qi))
            have Xs := qs ((by rw [hg];exact zb (blk_lt (g := Qe) (o := .cells #[.string Q7,.int .i64 Q9] 23 (0,0)) (by (with_reducible repeat (first | refine qa ?_ _ | refine qb ?_ | refine qc ?_ _));exact Qm.out)) : Qi ≠ Qe))
            clear Qo
            clear Qr
            clear Qv
            clear Qw
            clear Zf
            clear Z3
            clear Qc
            clear Qg
            clear Ql
            clear Qm
            clear HB
            have Qo := n0_
            have Qr := n1_
            have Qv := n2_
            have Qw := n3_
            have Zf := n4_
            have Z3 := n5_
            have Qc := n6_
            have Qg := n7_
            have Ql := n8_
            have Qm := n9_
            have HB := Zw
            have Zb := Z0
            have X2 := Z2
            have Zt := Z6
            have Qz := Xb
            have Zp := Xc
            have Q2 := Xd
            have Zr := Xe
            have Za := Xf
            have Zs := Xg
            have Q4 := Xh
            have Zk := Xs
            clear n0_ n1_ n2_ n3_ n4_ n5_ n6_ n7_ n8_ n9_ Zw Z0 Z2 Z6 Xb Xc Xd Xe Xf Xg Xh Xs
            clear hb hbox hg
            refine hK.out _ _ ⟨(qx Qc.out 0).trans rfl,(qx Qc.out 1).trans rfl,(qx Qg.out 0).trans rfl,(qx Qg.out 1).trans rfl⟩ (fun hHeld => ?_)
            clear hK K
            refine zm (a' := ?_) ?_ ?_
            rotate_left
            ·show Act.put _ (some 13) _ = _
             simp only [Act.put,qt,qu,qv,i64_w,i32_w]
             rfl
            exact zm (by first | (simp only [putAll,Act.put,qt,qu,qv];done) | (simp only [putAll,Act.put,qt,qu,qv];rfl)) (Jr (Yf,Qi) _ ⟨hHeld,(by (with_reducible repeat (first | apply qh | apply qi | apply qj));exact qp Qo.out (fun _ hk => ⟨hk.1.1,⟨hk.1.2.1,⟨hk.1.2.2.1,⟨hk.1.2.2.2.1,⟨hk.1.2.2.2.2,hk.2⟩⟩⟩⟩⟩)),(by (with_reducible repeat (first | apply qh | apply qi | apply qj));exact qp Qr.out (fun _ hk => ⟨hk.1.1,⟨hk.1.2.1,⟨hk.1.2.2.1,⟨hk.1.2.2.2.1,⟨hk.1.2.2.2.2,hk.2⟩⟩⟩⟩⟩)),(by (with_reducible repeat (first | apply qk | apply ql | apply qm));exact Qv.out),(by (with_reducible repeat (first | apply qh | apply qi | apply qj));exact qp Qw.out (fun _ hk => ⟨hk.1.1,⟨hk.1.2.1,⟨hk.1.2.2.1,⟨hk.1.2.2.2.1,⟨hk.1.2.2.2.2,hk.2⟩⟩⟩⟩⟩)),(by (with_reducible repeat (first | apply qh | apply qi | apply qj));exact qp Zf.out (fun _ hk => ⟨hk.1.1,⟨hk.1.2.1,⟨hk.1.2.2.1,⟨hk.1.2.2.2.1,⟨hk.1.2.2.2.2,hk.2⟩⟩⟩⟩⟩)),(by (with_reducible repeat (first | apply qh | apply qi | apply qj));exact qp Z3.out (fun _ hk => ⟨hk.1.1,⟨hk.1.2.1,⟨hk.1.2.2.1,⟨hk.1.2.2.2.1,⟨hk.1.2.2.2.2,hk.2⟩⟩⟩⟩⟩)),(by (with_reducible repeat (first | refine qa ?_ _ | refine qb ?_ | refine qc ?_ _));exact Qc.out),(by (with_reducible repeat (first | refine qa ?_ _ | refine qb ?_ | refine qc ?_ _));exact Qg.out),(by (with_reducible repeat (first | refine qa ?_ _ | refine qb ?_ | refine qc ?_ _));exact Ql.out),(by (with_reducible repeat (first | refine qa ?_ _ | refine qb ?_ | refine qc ?_ _));exact Qm.out),(by (with_reducible repeat (first | refine qa ?_ _ | refine qb ?_ | refine qc ?_ _));exact Zb.out),X2.out,Zt.out,Qz.out,Zp.out,Q2.out,Zr.out,Za.out,Zs.out,Q4.out,Zk.out,(by repeat (first | (with_reducible first | exact HB.out | apply qe | apply qf | apply qg | refine qd ?_ Qt.out | refine qd ?_ Qu.out | refine qd ?_ Zg.out | refine qd ?_ Zj.out | refine qd ?_ Zt.out) | exact HB.out))⟩)
           ·skip
            refine box_step ?hg (N := 14) ?hd (cs := #[.string (⟨#[]⟩ : ByteArray),.int .i64 0]) (t := 23) ?hr ?_;(case hd => rfl);(case hg => rfl);(case hr => first | (go_simp;done) | (go_simp;rfl))
            intro Qh hg w51 hbox hb
            have n0_ := qs (qq (Kd.V_elderB (by (with_reducible repeat (first | apply qh | apply qi | apply qj));exact Qo.out) Qh (zc hg.symm)) hb)
            have n1_ := qs (qq (Kd.V_elderB (by (with_reducible repeat (first | apply qh | apply qi | apply qj));exact Qr.out) Qh (zc hg.symm)) hb)
            have n2_ := qs (qr (by (with_reducible repeat (first | apply qk | apply ql | apply qm));exact Qv.out) hb)
            have n3_ := qs (qq (Kd.V_elderB (by (with_reducible repeat (first | apply qh | apply qi | apply qj));exact Qw.out) Qh (zc hg.symm)) hb)
            have n4_ := qs (qq (Kd.V_elderB (by (with_reducible repeat (first | apply qh | apply qi | apply qj));exact Zf.out) Qh (zc hg.symm)) hb)
            have n5_ := qs (qq (Kd.V_elderB (by (with_reducible repeat (first | apply qh | apply qi | apply qj));exact Z3.out) Qh (zc hg.symm)) hb)
            have n6_ := qs (qw (g := Qa) (o := .cells #[.slice Q3 Qj.length Q1,.int .i64 Qk] 49 (0,0)) (by (with_reducible repeat (first | refine qa ?_ _ | refine qb ?_ | refine qc ?_ _));exact Qc.out) hb)
            have n7_ := qs (qw (g := Qb) (o := .cells #[.string Qp,.int .i64 Qq] 23 (0,0)) (by (with_reducible repeat (first | refine qa ?_ _ | refine qb ?_ | refine qc ?_ _));exact Qg.out) hb)
            have n8_ := qs (qw (g := Qd) (o := .cells #[.slice Zi Qs.length Zh,.int .i64 Q0] 49 (0,0)) (by (with_reducible repeat (first | refine qa ?_ _ | refine qb ?_ | refine qc ?_ _));exact Ql.out) hb)
            have n9_ := qs (qw (g := Qe) (o := .cells #[.string Q7,.int .i64 Q9] 23 (0,0)) (by (with_reducible repeat (first | refine qa ?_ _ | refine qb ?_ | refine qc ?_ _));exact Qm.out) hb)
            have Zw := qs (zf (by repeat (first | (with_reducible first | exact HB.out | apply qe | apply qf | apply qg | refine qd ?_ Qt.out | refine qd ?_ Qu.out | refine qd ?_ Zg.out | refine qd ?_ Zj.out) | exact HB.out)) hb)
            have Z0 := qs (hbox)
            have Z2 := qs ((by rw [hg];exact (below_size (by repeat (first | (with_reducible first | exact HB.out | apply qe | apply qf | apply qg | refine qd ?_ Qt.out | refine qd ?_ Qu.out | refine qd ?_ Zg.out | refine qd ?_ Zj.out) | exact HB.out))) : w.heap.size ≤ Qh))
            have Z6 := qs ((by rw [hg];exact (below_size (by repeat (first | (with_reducible first | exact HB.out | apply qe | apply qf | apply qg | refine qd ?_ Qt.out | refine qd ?_ Qu.out | refine qd ?_ Zg.out | refine qd ?_ Zj.out) | exact HB.out))) : w.heap.size ≤ Qh))
            have Xb := qs ((by rw [hg];exact za (blk_lt (g := Qa) (o := .cells #[.slice Q3 Qj.length Q1,.int .i64 Qk] 49 (0,0)) (by (with_reducible repeat (first | refine qa ?_ _ | refine qb ?_ | refine qc ?_ _));exact Qc.out)) : Qa ≠ Qh))
            have Xc := qs ((by rw [hg];exact zb (blk_lt (g := Qa) (o := .cells #[.slice Q3 Qj.length Q1,.int .i64 Qk] 49 (0,0)) (by (with_reducible repeat (first | refine qa ?_ _ | refine qb ?_ | refine qc ?_ _));exact Qc.out)) : Qh ≠ Qa))
            have Xd := qs ((by rw [hg];exact za (blk_lt (g := Qb) (o := .cells #[.string Qp,.int .i64 Qq] 23 (0,0)) (by (with_reducible repeat (first | refine qa ?_ _ | refine qb ?_ | refine qc ?_ _));exact Qg.out)) : Qb ≠ Qh))
            have Xe := qs ((by rw [hg];exact zb (blk_lt (g := Qb) (o := .cells #[.string Qp,.int .i64 Qq] 23 (0,0)) (by (with_reducible repeat (first | refine qa ?_ _ | refine qb ?_ | refine qc ?_ _));exact Qg.out)) : Qh ≠ Qb))
            have Xf := qs ((by rw [hg];exact za (blk_lt (g := Qd) (o := .cells #[.slice Zi Qs.length Zh,.int .i64 Q0] 49 (0,0)) (by (with_reducible repeat (first | refine qa ?_ _ | refine qb ?_ | refine qc ?_ _));exact Ql.out)) : Qd ≠ Qh))
            have Xg := qs ((by rw [hg];exact zb (blk_lt (g := Qd) (o := .cells #[.slice Zi Qs.length Zh,.int .i64 Q0] 49 (0,0)) (by (with_reducible repeat (first | refine qa ?_ _ | refine qb ?_ | refine qc ?_ _));exact Ql.out)) : Qh ≠ Qd))
            have Xh := qs ((by rw [hg];exact za (blk_lt (g := Qe) (o := .cells #[.string Q7,.int .i64 Q9] 23 (0,0)) (by (with_reducible repeat (first | refine qa ?_ _ | refine qb ?_ | refine qc ?_ _));exact Qm.out)) : Qe ≠ Qh))
            have Xs := qs ((by rw [hg];exact zb (blk_lt (g := Qe) (o := .cells #[.string Q7,.int .i64 Q9] 23 (0,0)) (by (with_reducible repeat (first | refine qa ?_ _ | refine qb ?_ | refine qc ?_ _));exact Qm.out)) : Qh ≠ Qe))
            clear Qo
            clear Qr
            clear Qv
            clear Qw
            clear Zf
            clear Z3
            clear Qc
            clear Qg
            clear Ql
            clear Qm
            clear HB
            have Qo := n0_
            have Qr := n1_
            have Qv := n2_
            have Qw := n3_
            have Zf := n4_
            have Z3 := n5_
            have Qc := n6_
            have Qg := n7_
            have Ql := n8_
            have Qm := n9_
            have HB := Zw
            have Q6 := Z0
            have X3 := Z2
            have Zu := Z6
            have Qx := Xb
            have Zm := Xc
            have Qy := Xd
            have Zn := Xe
            have Q5 := Xf
            have Zl := Xg
            have Q8 := Xh
            have Zo := Xs
            clear n0_ n1_ n2_ n3_ n4_ n5_ n6_ n7_ n8_ n9_ Zw Z0 Z2 Z6 Xb Xc Xd Xe Xf Xg Xh Xs
            clear hb hbox hg
            refine hK.out _ _ ⟨(qx Qc.out 0).trans rfl,(qx Qc.out 1).trans rfl,(qx Qg.out 0).trans rfl,(qx Qg.out 1).trans rfl⟩ (fun hHeld => ?_)
            clear hK K
            refine zm (a' := ?_) ?_ ?_
            rotate_left
            ·show Act.put _ (some 14) _ = _
             simp only [Act.put,qt,qu,qv,i64_w,i32_w]
             rfl
            exact zm (by first | (simp only [putAll,Act.put,qt,qu,qv];done) | (simp only [putAll,Act.put,qt,qu,qv];rfl)) (Js (Yf,Qh) _ ⟨hHeld,(by (with_reducible repeat (first | apply qh | apply qi | apply qj));exact qp Qo.out (fun _ hk => ⟨hk.1.1,⟨hk.1.2.1,⟨hk.1.2.2.1,⟨hk.1.2.2.2.1,⟨hk.1.2.2.2.2,hk.2⟩⟩⟩⟩⟩)),(by (with_reducible repeat (first | apply qh | apply qi | apply qj));exact qp Qr.out (fun _ hk => ⟨hk.1.1,⟨hk.1.2.1,⟨hk.1.2.2.1,⟨hk.1.2.2.2.1,⟨hk.1.2.2.2.2,hk.2⟩⟩⟩⟩⟩)),(by (with_reducible repeat (first | apply qk | apply ql | apply qm));exact Qv.out),(by (with_reducible repeat (first | apply qh | apply qi | apply qj));exact qp Qw.out (fun _ hk => ⟨hk.1.1,⟨hk.1.2.1,⟨hk.1.2.2.1,⟨hk.1.2.2.2.1,⟨hk.1.2.2.2.2,hk.2⟩⟩⟩⟩⟩)),(by (with_reducible repeat (first | apply qh | apply qi | apply qj));exact qp Zf.out (fun _ hk => ⟨hk.1.1,⟨hk.1.2.1,⟨hk.1.2.2.1,⟨hk.1.2.2.2.1,⟨hk.1.2.2.2.2,hk.2⟩⟩⟩⟩⟩)),(by (with_reducible repeat (first | apply qh | apply qi | apply qj));exact qp Z3.out (fun _ hk => ⟨hk.1.1,⟨hk.1.2.1,⟨hk.1.2.2.1,⟨hk.1.2.2.2.1,⟨hk.1.2.2.2.2,hk.2⟩⟩⟩⟩⟩)),(by (with_reducible repeat (first | refine qa ?_ _ | refine qb ?_ | refine qc ?_ _));exact Qc.out),(by (with_reducible repeat (first | refine qa ?_ _ | refine qb ?_ | refine qc ?_ _));exact Qg.out),(by (with_reducible repeat (first | refine qa ?_ _ | refine qb ?_ | refine qc ?_ _));exact Ql.out),(by (with_reducible repeat (first | refine qa ?_ _ | refine qb ?_ | refine qc ?_ _));exact Qm.out),(by (with_reducible repeat (first | refine qa ?_ _ | refine qb ?_ | refine qc ?_ _));exact Q6.out),X3.out,Zu.out,Qx.out,Zm.out,Qy.out,Zn.out,Q5.out,Zl.out,Q8.out,Zo.out,(by repeat (first | (with_reducible first | exact HB.out | apply qe | apply qf | apply qg | refine qd ?_ Qt.out | refine qd ?_ Qu.out | refine qd ?_ Zg.out | refine qd ?_ Zj.out | refine qd ?_ Zu.out) | exact HB.out))⟩)
         ·skip
          rintro ⟨Qi,Qh⟩ w51 ⟨hS_,h0_,h1_,h2_,h3_,h4_,h5_,h6_,h7_,h8_,h9_,Yd,Yh,Yi,Yj,Yk,Yl,Ym,Yn,Yo,Yp,Yq,Y3,Jt,Ju,Jv,Jw,Jx,Jy,Jz,J0,J1,J2,J3,J4⟩
          have n0_ : Aside0 (Kd.V (Kd.int .i64) 3 w51 w.heap.size (fun k_ => some k_ ≠ (Ze : Value).ownBlock ∧ k_ ≠ Qa ∧ k_ ≠ Qb ∧ k_ ≠ Qd ∧ k_ ≠ Qe ∧ k_ ≠ Qi ∧ k_ ≠ Qh) (.slice Q3 Qj.length Q1) Qj) := ⟨h0_⟩
          have n1_ : Aside0 (Kd.V (Kd.int .i64) 3 w51 w.heap.size (fun k_ => some k_ ≠ (Ze : Value).ownBlock ∧ k_ ≠ Qa ∧ k_ ≠ Qb ∧ k_ ≠ Qd ∧ k_ ≠ Qe ∧ k_ ≠ Qi ∧ k_ ≠ Qh) (.slice X7 Zv.length X8) Zv) := ⟨h1_⟩
          have n2_ : Aside0 (Kd.R (Kd.int .i64) 3 w51 w.heap.size (fun _ => True) Ze X4) := ⟨h2_⟩
          have n3_ : Aside0 (Kd.V (Kd.int .i64) 3 w51 w.heap.size (fun k_ => some k_ ≠ (Ze : Value).ownBlock ∧ k_ ≠ Qa ∧ k_ ≠ Qb ∧ k_ ≠ Qd ∧ k_ ≠ Qe ∧ k_ ≠ Qi ∧ k_ ≠ Qh) (.slice Zi Qs.length Zh) Qs) := ⟨h3_⟩
          have n4_ : Aside0 (Kd.V (Kd.int .i64) 3 w51 w.heap.size (fun k_ => some k_ ≠ (Ze : Value).ownBlock ∧ k_ ≠ Qa ∧ k_ ≠ Qb ∧ k_ ≠ Qd ∧ k_ ≠ Qe ∧ k_ ≠ Qi ∧ k_ ≠ Qh) (.slice A48 Z8.length c48) Z8) := ⟨h4_⟩
          have n5_ : Aside0 (w51.heap[Qa]? = some (.cells #[.slice Q3 Qj.length Q1,.int .i64 Qk] 49 (0,0))) := ⟨h5_⟩
          have n6_ : Aside0 (w51.heap[Qb]? = some (.cells #[.string Qp,.int .i64 Qq] 23 (0,0))) := ⟨h6_⟩
          have n7_ : Aside0 (w51.heap[Qd]? = some (.cells #[.slice Zi Qs.length Zh,.int .i64 Q0] 49 (0,0))) := ⟨h7_⟩
          have n8_ : Aside0 (w51.heap[Qe]? = some (.cells #[.string Q7,.int .i64 Q9] 23 (0,0))) := ⟨h8_⟩
          have n9_ : Aside0 (w51.heap[Qi]? = some (.cells #[.slice none 0 0,.int .i64 0] 49 (0,0))) := ⟨h9_⟩
          have Zw : Aside0 (w51.heap[Qh]? = some (.cells #[.string (⟨#[]⟩ : ByteArray),.int .i64 0] 23 (0,0))) := ⟨Yd⟩
          have Z0 : Aside0 (w.heap.size ≤ Qi) := ⟨Yh⟩
          have Z2 : Aside0 (w.heap.size ≤ Qi) := ⟨Yi⟩
          have Z6 : Aside0 (Qa ≠ Qi) := ⟨Yj⟩
          have Xb : Aside0 (Qi ≠ Qa) := ⟨Yk⟩
          have Xc : Aside0 (Qb ≠ Qi) := ⟨Yl⟩
          have Xd : Aside0 (Qi ≠ Qb) := ⟨Ym⟩
          have Xe : Aside0 (Qd ≠ Qi) := ⟨Yn⟩
          have Xf : Aside0 (Qi ≠ Qd) := ⟨Yo⟩
          have Xg : Aside0 (Qe ≠ Qi) := ⟨Yp⟩
          have Xh : Aside0 (Qi ≠ Qe) := ⟨Yq⟩
          have Xs : Aside0 (Qh ≠ Qi) := ⟨Y3⟩
          have Yr : Aside0 (Qi ≠ Qh) := ⟨Jt⟩
          have Ys : Aside0 (w.heap.size ≤ Qh) := ⟨Ju⟩
          have Y4 : Aside0 (w.heap.size ≤ Qh) := ⟨Jv⟩
          have J5 : Aside0 (Qa ≠ Qh) := ⟨Jw⟩
          have J6 : Aside0 (Qh ≠ Qa) := ⟨Jx⟩
          have J7 : Aside0 (Qb ≠ Qh) := ⟨Jy⟩
          have J8 : Aside0 (Qh ≠ Qb) := ⟨Jz⟩
          have J9 : Aside0 (Qd ≠ Qh) := ⟨J0⟩
          have Va : Aside0 (Qh ≠ Qd) := ⟨J1⟩
          have Vb : Aside0 (Qe ≠ Qh) := ⟨J2⟩
          have Vc : Aside0 (Qh ≠ Qe) := ⟨J3⟩
          have Vd : Aside0 (Below w.heap.size w w51) := ⟨J4⟩
          clear Qo
          clear Qr
          clear Qv
          clear Qw
          clear Qc
          clear Qg
          clear Ql
          clear Qm
          clear HB
          clear h0_ h1_ h2_ h3_ h4_ h5_ h6_ h7_ h8_ h9_ Yd Yh Yi Yj Yk Yl Ym Yn Yo Yp Yq Y3 Jt Ju Jv Jw Jx Jy Jz J0 J1 J2 J3 J4
          have Qo := n0_
          have Qr := n1_
          have Qv := n2_
          have Qw := n3_
          have Zf := n4_
          have Qc := n5_
          have Qg := n6_
          have Ql := n7_
          have Qm := n8_
          have Zb := n9_
          have Q6 := Zw
          have X2 := Z0
          have Zt := Z2
          have Qz := Z6
          have Zp := Xb
          have Q2 := Xc
          have Zr := Xd
          have Za := Xe
          have Zs := Xf
          have Q4 := Xg
          have Zk := Xh
          have Zc := Xs
          have Zd := Yr
          have X3 := Ys
          have Zu := Y4
          have Qx := J5
          have Zm := J6
          have Qy := J7
          have Zn := J8
          have Q5 := J9
          have Zl := Va
          have Q8 := Vb
          have Zo := Vc
          have HB := Vd
          clear n0_ n1_ n2_ n3_ n4_ n5_ n6_ n7_ n8_ n9_ Zw Z0 Z2 Z6 Xb Xc Xd Xe Xf Xg Xh Xs Yr Ys Y4 J5 J6 J7 J8 J9 Va Vb Vc Vd
          have hHeld : w51.cell? ⟨Qa,0,none⟩ = some (.slice Q3 Qj.length Q1) ∧ w51.cell? ⟨Qa,1,none⟩ = some (.int .i64 Qk) ∧ w51.cell? ⟨Qb,0,none⟩ = some (.string Qp) ∧ w51.cell? ⟨Qb,1,none⟩ = some (.int .i64 Qq) := hS_
          refine zm (a' := ?_) ?_ ?_
          rotate_left
          ·simp only [putAll,Act.put,qt,qu,qv]
           rfl
          refine one_ (i := 8) (N := some 50) #[true,true,true,true,true,true,true,true,true,false,false,false,false,false,true,true,false,false,false,false] rfl rfl (one_of HT_.out (by kernel_rfl)) (by decide) (fun K hK => ?_)
          refine zt Try.func31 (by kernel_rfl) rfl #[.agg #[.slice A48 Z8.length c48,.int .i64 0],.agg #[.string Qp,.int .i64 Qq],.slice X7 Zv.length X8] (by rfl) rfl rfl (by (try simp only [zi,zj,zk]);first | done | rfl | (simp only [zg,zh];rfl)) ?_
          with_reducible refine (turn_Next.calls k (fun k_ => (some k_ ≠ (Ze : Value).ownBlock ∧ (k_ ≠ Qa ∧ (k_ ≠ Qb ∧ (k_ ≠ Qd ∧ (k_ ≠ Qe ∧ (k_ ≠ Qi ∧ k_ ≠ Qh))))))) _ _ Z8 0 Qp Qq _ _ Zv X5 Z4 Z7 Z9 Xi X6 _ ?Xa ?Xl ?X9 A13.out).mono ?_
          (case Xa => exact Zf.out)
          (case Xl => repeat (first | exact (Kd.V_reads' Qr.out).2.2 | (with_reducible refine zp ?_ _) | (with_reducible refine zq ?_ _) | (with_reducible refine zr ?_)))
          (case X9 => exact (Kd.V_reads' Qr.out).2.1)
          rintro e w52 ⟨Yf,rfl,ho0,hb⟩
          refine ⟨_,rfl,?_⟩
          have n0_ := qs (qq (by (with_reducible repeat (first | apply qh | apply qi | apply qj));exact Qo.out) hb)
          have n1_ := qs (qq (by (with_reducible repeat (first | apply qh | apply qi | apply qj));exact Qr.out) hb)
          have n2_ := qs (qr (by (with_reducible repeat (first | apply qk | apply ql | apply qm));exact Qv.out) hb)
          have n3_ := qs (qq (by (with_reducible repeat (first | apply qh | apply qi | apply qj));exact Qw.out) hb)
          have n4_ := qs (qq (by (with_reducible repeat (first | apply qh | apply qi | apply qj));exact Zf.out) hb)
          have n5_ := qs (zo (qp (ok' := fun k_ => some k_ ≠ (Ze : Value).ownBlock ∧ k_ ≠ Qa ∧ k_ ≠ Qb ∧ k_ ≠ Qd ∧ k_ ≠ Qe ∧ k_ ≠ Qi ∧ k_ ≠ Qh) ho0 (fun k_ hk_ => ⟨Or.elim hk_ (fun hs_ => hs_.1) (fun hn_ => (Kd.fresh' (Kd.R_lt (by (with_reducible repeat (first | apply qk | apply ql | apply qm));exact Qv.out)) k_ hn_)),Or.elim hk_ (fun hs_ => hs_.2.1) (fun hn_ => (Kd.freshB (g := Qa) (o := .cells #[.slice Q3 Qj.length Q1,.int .i64 Qk] 49 (0,0)) (by (with_reducible repeat (first | refine qa ?_ _ | refine qb ?_ | refine qc ?_ _));exact Qc.out) k_ hn_)),Or.elim hk_ (fun hs_ => hs_.2.2.1) (fun hn_ => (Kd.freshB (g := Qb) (o := .cells #[.string Qp,.int .i64 Qq] 23 (0,0)) (by (with_reducible repeat (first | refine qa ?_ _ | refine qb ?_ | refine qc ?_ _));exact Qg.out) k_ hn_)),Or.elim hk_ (fun hs_ => hs_.2.2.2.1) (fun hn_ => (Kd.freshB (g := Qd) (o := .cells #[.slice Zi Qs.length Zh,.int .i64 Q0] 49 (0,0)) (by (with_reducible repeat (first | refine qa ?_ _ | refine qb ?_ | refine qc ?_ _));exact Ql.out) k_ hn_)),Or.elim hk_ (fun hs_ => hs_.2.2.2.2.1) (fun hn_ => (Kd.freshB (g := Qe) (o := .cells #[.string Q7,.int .i64 Q9] 23 (0,0)) (by (with_reducible repeat (first | refine qa ?_ _ | refine qb ?_ | refine qc ?_ _));exact Qm.out) k_ hn_)),Or.elim hk_ (fun hs_ => hs_.2.2.2.2.2.1) (fun hn_ => (Kd.freshB (g := Qi) (o := .cells #[.slice none 0 0,.int .i64 0] 49 (0,0)) (by (with_reducible repeat (first | refine qa ?_ _ | refine qb ?_ | refine qc ?_ _));exact Zb.out) k_ hn_)),Or.elim hk_ (fun hs_ => hs_.2.2.2.2.2.2) (fun hn_ => (Kd.freshB (g := Qh) (o := .cells #[.string (⟨#[]⟩ : ByteArray),.int .i64 0] 23 (0,0)) (by (with_reducible repeat (first | refine qa ?_ _ | refine qb ?_ | refine qc ?_ _));exact Q6.out) k_ hn_))⟩)) (below_size (by repeat (first | (with_reducible first | exact HB.out | apply qe | apply qf | apply qg | refine qd ?_ Qt.out | refine qd ?_ Qu.out | refine qd ?_ Zg.out | refine qd ?_ Zj.out | refine qd ?_ Zt.out | refine qd ?_ Zu.out) | exact HB.out))))
          have n6_ := qs (qw (g := Qa) (o := .cells #[.slice Q3 Qj.length Q1,.int .i64 Qk] 49 (0,0)) (by (with_reducible repeat (first | refine qa ?_ _ | refine qb ?_ | refine qc ?_ _));exact Qc.out) hb)
          have n7_ := qs (qw (g := Qb) (o := .cells #[.string Qp,.int .i64 Qq] 23 (0,0)) (by (with_reducible repeat (first | refine qa ?_ _ | refine qb ?_ | refine qc ?_ _));exact Qg.out) hb)
          have n8_ := qs (qw (g := Qd) (o := .cells #[.slice Zi Qs.length Zh,.int .i64 Q0] 49 (0,0)) (by (with_reducible repeat (first | refine qa ?_ _ | refine qb ?_ | refine qc ?_ _));exact Ql.out) hb)
          have n9_ := qs (qw (g := Qe) (o := .cells #[.string Q7,.int .i64 Q9] 23 (0,0)) (by (with_reducible repeat (first | refine qa ?_ _ | refine qb ?_ | refine qc ?_ _));exact Qm.out) hb)
          have Zw := qs (qw (g := Qi) (o := .cells #[.slice none 0 0,.int .i64 0] 49 (0,0)) (by (with_reducible repeat (first | refine qa ?_ _ | refine qb ?_ | refine qc ?_ _));exact Zb.out) hb)
          have Z0 := qs (qw (g := Qh) (o := .cells #[.string (⟨#[]⟩ : ByteArray),.int .i64 0] 23 (0,0)) (by (with_reducible repeat (first | refine qa ?_ _ | refine qb ?_ | refine qc ?_ _));exact Q6.out) hb)
          have Z2 := qs (zf (by repeat (first | (with_reducible first | exact HB.out | apply qe | apply qf | apply qg | refine qd ?_ Qt.out | refine qd ?_ Qu.out | refine qd ?_ Zg.out | refine qd ?_ Zj.out | refine qd ?_ Zt.out | refine qd ?_ Zu.out) | exact HB.out)) hb)
          clear Qo
          clear Qr
          clear Qv
          clear Qw
          clear Zf
          clear Qc
          clear Qg
          clear Ql
          clear Qm
          clear Zb
          clear Q6
          clear HB
          have Qo := n0_
          have Qr := n1_
          have Qv := n2_
          have Qw := n3_
          have Zf := n4_
          have Z3 := n5_
          have Qc := n6_
          have Qg := n7_
          have Ql := n8_
          have Qm := n9_
          have Zb := Zw
          have Q6 := Z0
          have HB := Z2
          clear n0_ n1_ n2_ n3_ n4_ n5_ n6_ n7_ n8_ n9_ Zw Z0 Z2
          (try clear hb)
          (try clear hb2)
          (try clear hk)
          (try clear hi)
          (try clear ho0)
          refine hK.out _ _ ⟨(qx Qc.out 0).trans rfl,(qx Qc.out 1).trans rfl,(qx Qg.out 0).trans rfl,(qx Qg.out 1).trans rfl⟩ (fun hHeld => ?_)
          clear hK K
          refine zm (a' := ?_) ?_ ?_
          rotate_left
          ·show Act.put _ (some 50) _ = _
           simp only [Act.put,qt,qu,qv,i64_w,i32_w]
           rfl
          refine zl (i := 9) (N := some 41) (v := ?_) (a' := ?_) #[true,true,true,true,true,true,true,true,true,true,false,false,false,false,true,true,false,false,false,false] rfl rfl (any_of HT_.out (by kernel_rfl)) (fun _ _ _ h => h) (Or.inl ⟨by rfl,?_⟩) ?_ ?_
          rotate_left
          ·intro w'
           go_simp
           with_reducible rfl
          rotate_left
          ·simp only [Act.put,qt,qu,qv,i64_w,i32_w]
           rfl
          refine zl (i := 10) (N := some 51) (v := ?_) (a' := ?_) #[true,true,true,true,true,true,true,true,true,true,true,false,false,false,true,true,false,false,false,false] rfl rfl (any_of HT_.out (by kernel_rfl)) (fun _ _ _ h => h) (Or.inl ⟨by rfl,?_⟩) ?_ ?_
          rotate_left
          ·intro w'
           go_simp
           with_reducible rfl
          rotate_left
          ·simp only [Act.put,qt,qu,qv,i64_w,i32_w]
           rfl
          refine zl (i := 11) (N := some 52) (v := ?_) (a' := ?_) #[true,true,true,true,true,true,true,true,true,true,true,true,false,false,true,true,false,false,false,false] rfl rfl (any_of HT_.out (by kernel_rfl)) (fun _ _ _ h => h) (Or.inl ⟨by rfl,?_⟩) ?_ ?_
          rotate_left
          ·intro w'
           go_simp
           with_reducible rfl
          rotate_left
          ·simp only [Act.put,qt,qu,qv,i64_w,i32_w]
           rfl
          refine zl (i := 12) (N := some 53) (v := ?_) (a' := ?_) #[true,true,true,true,true,true,true,true,true,true,true,true,true,false,true,true,false,false,false,false] rfl rfl (any_of HT_.out (by kernel_rfl)) (fun _ _ _ h => h) (Or.inl ⟨by rfl,?_⟩) ?_ ?_
          rotate_left
          ·intro w'
           go_simp
           with_reducible rfl
          rotate_left
          ·simp only [Act.put,qt,qu,qv,i64_w,i32_w]
           rfl
          refine zl (i := 13) (N := some 54) (v := ?_) (a' := ?_) #[true,true,true,true,true,true,true,true,true,true,true,true,true,true,true,true,false,false,false,false] rfl rfl (any_of HT_.out (by kernel_rfl)) (fun _ _ _ h => h) (Or.inl ⟨by rfl,?_⟩) ?_ ?_
          rotate_left
          ·intro w'
           go_simp
           with_reducible rfl
          rotate_left
          ·simp only [Act.put,qt,qu,qv,i64_w,i32_w]
           rfl
          exact zm (by first | (simp only [putAll,Act.put,qt,qu,qv];done) | (simp only [putAll,Act.put,qt,qu,qv];rfl)) (Yy (Yf,Qi,Qh) _ ⟨hHeld,(by (with_reducible repeat (first | apply qh | apply qi | apply qj));exact Qo.out),(by (with_reducible repeat (first | apply qh | apply qi | apply qj));exact Qr.out),(by (with_reducible repeat (first | apply qk | apply ql | apply qm));exact Qv.out),(by (with_reducible repeat (first | apply qh | apply qi | apply qj));exact Qw.out),(by (with_reducible repeat (first | apply qh | apply qi | apply qj));exact Zf.out),(by (with_reducible repeat (first | apply qh | apply qi | apply qj));exact Z3.out),(by (with_reducible repeat (first | refine qa ?_ _ | refine qb ?_ | refine qc ?_ _));exact Qc.out),(by (with_reducible repeat (first | refine qa ?_ _ | refine qb ?_ | refine qc ?_ _));exact Qg.out),(by (with_reducible repeat (first | refine qa ?_ _ | refine qb ?_ | refine qc ?_ _));exact Ql.out),(by (with_reducible repeat (first | refine qa ?_ _ | refine qb ?_ | refine qc ?_ _));exact Qm.out),(by (with_reducible repeat (first | refine qa ?_ _ | refine qb ?_ | refine qc ?_ _));exact Zb.out),(by (with_reducible repeat (first | refine qa ?_ _ | refine qb ?_ | refine qc ?_ _));exact Q6.out),X2.out,Zt.out,Qz.out,Zp.out,Q2.out,Zr.out,Za.out,Zs.out,Q4.out,Zk.out,Zc.out,Zd.out,X3.out,Zu.out,Qx.out,Zm.out,Qy.out,Zn.out,Q5.out,Zl.out,Q8.out,Zo.out,(by repeat (first | (with_reducible first | exact HB.out | apply qe | apply qf | apply qg | refine qd ?_ Qt.out | refine qd ?_ Qu.out | refine qd ?_ Zg.out | refine qd ?_ Zj.out | refine qd ?_ Zt.out | refine qd ?_ Zu.out) | exact HB.out))⟩)
        ·skip
         rintro ⟨Yf,Qh⟩ w51 ⟨hS_,h0_,h1_,h2_,h3_,h4_,h5_,h6_,h7_,h8_,h9_,Yd,Yh,Yi,Yj,Yk,Yl,Ym,Yn,Yo,Yp,Yq,Y3⟩
         have n0_ : Aside0 (Kd.V (Kd.int .i64) 3 w51 w.heap.size (fun k_ => some k_ ≠ (Ze : Value).ownBlock ∧ k_ ≠ Qa ∧ k_ ≠ Qb ∧ k_ ≠ Qd ∧ k_ ≠ Qe ∧ k_ ≠ Qh) (.slice Q3 Qj.length Q1) Qj) := ⟨h0_⟩
         have n1_ : Aside0 (Kd.V (Kd.int .i64) 3 w51 w.heap.size (fun k_ => some k_ ≠ (Ze : Value).ownBlock ∧ k_ ≠ Qa ∧ k_ ≠ Qb ∧ k_ ≠ Qd ∧ k_ ≠ Qe ∧ k_ ≠ Qh) (.slice X7 Zv.length X8) Zv) := ⟨h1_⟩
         have n2_ : Aside0 (Kd.R (Kd.int .i64) 3 w51 w.heap.size (fun _ => True) Ze X4) := ⟨h2_⟩
         have n3_ : Aside0 (Kd.V (Kd.int .i64) 3 w51 w.heap.size (fun k_ => some k_ ≠ (Ze : Value).ownBlock ∧ k_ ≠ Qa ∧ k_ ≠ Qb ∧ k_ ≠ Qd ∧ k_ ≠ Qe ∧ k_ ≠ Qh) (.slice Zi Qs.length Zh) Qs) := ⟨h3_⟩
         have n4_ : Aside0 (Kd.V (Kd.int .i64) 3 w51 w.heap.size (fun k_ => some k_ ≠ (Ze : Value).ownBlock ∧ k_ ≠ Qa ∧ k_ ≠ Qb ∧ k_ ≠ Qd ∧ k_ ≠ Qe ∧ k_ ≠ Qh) (.slice A48 Z8.length c48) Z8) := ⟨h4_⟩
         have n5_ : Aside0 (Kd.V (Kd.int .i64) 3 w51 w.heap.size (fun k_ => some k_ ≠ (Ze : Value).ownBlock ∧ k_ ≠ Qa ∧ k_ ≠ Qb ∧ k_ ≠ Qd ∧ k_ ≠ Qe ∧ k_ ≠ Qh) Yf Z4) := ⟨h5_⟩
         have n6_ : Aside0 (w51.heap[Qa]? = some (.cells #[.slice Q3 Qj.length Q1,.int .i64 Qk] 49 (0,0))) := ⟨h6_⟩
         have n7_ : Aside0 (w51.heap[Qb]? = some (.cells #[.string Qp,.int .i64 Qq] 23 (0,0))) := ⟨h7_⟩
         have n8_ : Aside0 (w51.heap[Qd]? = some (.cells #[.slice Zi Qs.length Zh,.int .i64 Q0] 49 (0,0))) := ⟨h8_⟩
         have n9_ : Aside0 (w51.heap[Qe]? = some (.cells #[.string Q7,.int .i64 Q9] 23 (0,0))) := ⟨h9_⟩
         have Zw : Aside0 (w51.heap[Qh]? = some (.cells #[.string (⟨#[]⟩ : ByteArray),.int .i64 0] 23 (0,0))) := ⟨Yd⟩
         have Z0 : Aside0 (w.heap.size ≤ Qh) := ⟨Yh⟩
         have Z2 : Aside0 (w.heap.size ≤ Qh) := ⟨Yi⟩
         have Z6 : Aside0 (Qa ≠ Qh) := ⟨Yj⟩
         have Xb : Aside0 (Qh ≠ Qa) := ⟨Yk⟩
         have Xc : Aside0 (Qb ≠ Qh) := ⟨Yl⟩
         have Xd : Aside0 (Qh ≠ Qb) := ⟨Ym⟩
         have Xe : Aside0 (Qd ≠ Qh) := ⟨Yn⟩
         have Xf : Aside0 (Qh ≠ Qd) := ⟨Yo⟩
         have Xg : Aside0 (Qe ≠ Qh) := ⟨Yp⟩
         have Xh : Aside0 (Qh ≠ Qe) := ⟨Yq⟩
         have Xs : Aside0 (Below w.heap.size w w51) := ⟨Y3⟩
         clear Qo
         clear Qr
         clear Qv
         clear Qw
         clear Qc
         clear Qg
         clear Ql
         clear Qm
         clear HB
         clear h0_ h1_ h2_ h3_ h4_ h5_ h6_ h7_ h8_ h9_ Yd Yh Yi Yj Yk Yl Ym Yn Yo Yp Yq Y3
         have Qo := n0_
         have Qr := n1_
         have Qv := n2_
         have Qw := n3_
         have Zf := n4_
         have Z3 := n5_
         have Qc := n6_
         have Qg := n7_
         have Ql := n8_
         have Qm := n9_
         have Q6 := Zw
         have X3 := Z0
         have Zu := Z2
         have Qx := Z6
         have Zm := Xb
         have Qy := Xc
         have Zn := Xd
         have Q5 := Xe
         have Zl := Xf
         have Q8 := Xg
         have Zo := Xh
         have HB := Xs
         clear n0_ n1_ n2_ n3_ n4_ n5_ n6_ n7_ n8_ n9_ Zw Z0 Z2 Z6 Xb Xc Xd Xe Xf Xg Xh Xs
         have hHeld : w51.cell? ⟨Qa,0,none⟩ = some (.slice Q3 Qj.length Q1) ∧ w51.cell? ⟨Qa,1,none⟩ = some (.int .i64 Qk) ∧ w51.cell? ⟨Qb,0,none⟩ = some (.string Qp) ∧ w51.cell? ⟨Qb,1,none⟩ = some (.int .i64 Qq) := hS_
         refine zm (a' := ?_) ?_ ?_
         rotate_left
         ·simp only [putAll,Act.put,qt,qu,qv]
          rfl
         refine one_ (i := 14) (N := some 13) #[true,true,true,true,true,true,true,true,true,true,true,true,true,true,true,true,false,false,false,false] rfl rfl (one_of HT_.out (by kernel_rfl)) (by decide) (fun K hK => ?_)
         refine box_step ?hg (N := 13) ?hd (cs := #[.slice none 0 0,.int .i64 0]) (t := 49) ?hr ?_;(case hd => rfl);(case hg => rfl);(case hr => first | (go_simp;done) | (go_simp;rfl))
         intro Qi hg w52 hbox hb
         have n0_ := qs (qq (Kd.V_elderB (by (with_reducible repeat (first | apply qh | apply qi | apply qj));exact Qo.out) Qi (zc hg.symm)) hb)
         have n1_ := qs (qq (Kd.V_elderB (by (with_reducible repeat (first | apply qh | apply qi | apply qj));exact Qr.out) Qi (zc hg.symm)) hb)
         have n2_ := qs (qr (by (with_reducible repeat (first | apply qk | apply ql | apply qm));exact Qv.out) hb)
         have n3_ := qs (qq (Kd.V_elderB (by (with_reducible repeat (first | apply qh | apply qi | apply qj));exact Qw.out) Qi (zc hg.symm)) hb)
         have n4_ := qs (qq (Kd.V_elderB (by (with_reducible repeat (first | apply qh | apply qi | apply qj));exact Zf.out) Qi (zc hg.symm)) hb)
         have n5_ := qs (qq (Kd.V_elderB (by (with_reducible repeat (first | apply qh | apply qi | apply qj));exact Z3.out) Qi (zc hg.symm)) hb)
         have n6_ := qs (qw (g := Qa) (o := .cells #[.slice Q3 Qj.length Q1,.int .i64 Qk] 49 (0,0)) (by (with_reducible repeat (first | refine qa ?_ _ | refine qb ?_ | refine qc ?_ _));exact Qc.out) hb)
         have n7_ := qs (qw (g := Qb) (o := .cells #[.string Qp,.int .i64 Qq] 23 (0,0)) (by (with_reducible repeat (first | refine qa ?_ _ | refine qb ?_ | refine qc ?_ _));exact Qg.out) hb)
         have n8_ := qs (qw (g := Qd) (o := .cells #[.slice Zi Qs.length Zh,.int .i64 Q0] 49 (0,0)) (by (with_reducible repeat (first | refine qa ?_ _ | refine qb ?_ | refine qc ?_ _));exact Ql.out) hb)
         have n9_ := qs (qw (g := Qe) (o := .cells #[.string Q7,.int .i64 Q9] 23 (0,0)) (by (with_reducible repeat (first | refine qa ?_ _ | refine qb ?_ | refine qc ?_ _));exact Qm.out) hb)
         have Zw := qs (qw (g := Qh) (o := .cells #[.string (⟨#[]⟩ : ByteArray),.int .i64 0] 23 (0,0)) (by (with_reducible repeat (first | refine qa ?_ _ | refine qb ?_ | refine qc ?_ _));exact Q6.out) hb)
         have Z0 := qs (zf (by repeat (first | (with_reducible first | exact HB.out | apply qe | apply qf | apply qg | refine qd ?_ Qt.out | refine qd ?_ Qu.out | refine qd ?_ Zg.out | refine qd ?_ Zj.out | refine qd ?_ Zu.out) | exact HB.out)) hb)
         have Z2 := qs (hbox)
         have Z6 := qs ((by rw [hg];exact (below_size (by repeat (first | (with_reducible first | exact HB.out | apply qe | apply qf | apply qg | refine qd ?_ Qt.out | refine qd ?_ Qu.out | refine qd ?_ Zg.out | refine qd ?_ Zj.out | refine qd ?_ Zu.out) | exact HB.out))) : w.heap.size ≤ Qi))
         have Xb := qs ((by rw [hg];exact (below_size (by repeat (first | (with_reducible first | exact HB.out | apply qe | apply qf | apply qg | refine qd ?_ Qt.out | refine qd ?_ Qu.out | refine qd ?_ Zg.out | refine qd ?_ Zj.out | refine qd ?_ Zu.out) | exact HB.out))) : w.heap.size ≤ Qi))
         have Xc := qs ((by rw [hg];exact za (blk_lt (g := Qa) (o := .cells #[.slice Q3 Qj.length Q1,.int .i64 Qk] 49 (0,0)) (by (with_reducible repeat (first | refine qa ?_ _ | refine qb ?_ | refine qc ?_ _));exact Qc.out)) : Qa ≠ Qi))
         have Xd := qs ((by rw [hg];exact zb (blk_lt (g := Qa) (o := .cells #[.slice Q3 Qj.length Q1,.int .i64 Qk] 49 (0,0)) (by (with_reducible repeat (first | refine qa ?_ _ | refine qb ?_ | refine qc ?_ _));exact Qc.out)) : Qi ≠ Qa))
         have Xe := qs ((by rw [hg];exact za (blk_lt (g := Qb) (o := .cells #[.string Qp,.int .i64 Qq] 23 (0,0)) (by (with_reducible repeat (first | refine qa ?_ _ | refine qb ?_ | refine qc ?_ _));exact Qg.out)) : Qb ≠ Qi))
         have Xf := qs ((by rw [hg];exact zb (blk_lt (g := Qb) (o := .cells #[.string Qp,.int .i64 Qq] 23 (0,0)) (by (with_reducible repeat (first | refine qa ?_ _ | refine qb ?_ | refine qc ?_ _));exact Qg.out)) : Qi ≠ Qb))
         have Xg := qs ((by rw [hg];exact za (blk_lt (g := Qd) (o := .cells #[.slice Zi Qs.length Zh,.int .i64 Q0] 49 (0,0)) (by (with_reducible repeat (first | refine qa ?_ _ | refine qb ?_ | refine qc ?_ _));exact Ql.out)) : Qd ≠ Qi))
         have Xh := qs ((by rw [hg];exact zb (blk_lt (g := Qd) (o := .cells #[.slice Zi Qs.length Zh,.int .i64 Q0] 49 (0,0)) (by (with_reducible repeat (first | refine qa ?_ _ | refine qb ?_ | refine qc ?_ _));exact Ql.out)) : Qi ≠ Qd))
         have Xs := qs ((by rw [hg];exact za (blk_lt (g := Qe) (o := .cells #[.string Q7,.int .i64 Q9] 23 (0,0)) (by (with_reducible repeat (first | refine qa ?_ _ | refine qb ?_ | refine qc ?_ _));exact Qm.out)) : Qe ≠ Qi))
         have Yr := qs ((by rw [hg];exact zb (blk_lt (g := Qe) (o := .cells #[.string Q7,.int .i64 Q9] 23 (0,0)) (by (with_reducible repeat (first | refine qa ?_ _ | refine qb ?_ | refine qc ?_ _));exact Qm.out)) : Qi ≠ Qe))
         have Ys := qs ((by rw [hg];exact za (blk_lt (g := Qh) (o := .cells #[.string (⟨#[]⟩ : ByteArray),.int .i64 0] 23 (0,0)) (by (with_reducible repeat (first | refine qa ?_ _ | refine qb ?_ | refine qc ?_ _));exact Q6.out)) : Qh ≠ Qi))
         have Y4 := qs ((by rw [hg];exact zb (blk_lt (g := Qh) (o := .cells #[.string (⟨#[]⟩ : ByteArray),.int .i64 0] 23 (0,0)) (by (with_reducible repeat (first | refine qa ?_ _ | refine qb ?_ | refine qc ?_ _));exact Q6.out)) : Qi ≠ Qh))
         clear Qo
         clear Qr
         clear Qv
         clear Qw
         clear Zf
         clear Z3
         clear Qc
         clear Qg
         clear Ql
         clear Qm
         clear Q6
         clear HB
         have Qo := n0_
         have Qr := n1_
         have Qv := n2_
         have Qw := n3_
         have Zf := n4_
         have Z3 := n5_
         have Qc := n6_
         have Qg := n7_
         have Ql := n8_
         have Qm := n9_
         have Q6 := Zw
         have HB := Z0
         have Zb := Z2
         have X2 := Z6
         have Zt := Xb
         have Qz := Xc
         have Zp := Xd
         have Q2 := Xe
         have Zr := Xf
         have Za := Xg
         have Zs := Xh
         have Q4 := Xs
         have Zk := Yr
         have Zc := Ys
         have Zd := Y4
         clear n0_ n1_ n2_ n3_ n4_ n5_ n6_ n7_ n8_ n9_ Zw Z0 Z2 Z6 Xb Xc Xd Xe Xf Xg Xh Xs Yr Ys Y4
         clear hb hbox hg
         refine hK.out _ _ ⟨(qx Qc.out 0).trans rfl,(qx Qc.out 1).trans rfl,(qx Qg.out 0).trans rfl,(qx Qg.out 1).trans rfl⟩ (fun hHeld => ?_)
         clear hK K
         refine zm (a' := ?_) ?_ ?_
         rotate_left
         ·show Act.put _ (some 13) _ = _
          simp only [Act.put,qt,qu,qv,i64_w,i32_w]
          rfl
         exact zm (by first | (simp only [putAll,Act.put,qt,qu,qv];done) | (simp only [putAll,Act.put,qt,qu,qv];rfl)) (Yy (Yf,Qi,Qh) _ ⟨hHeld,(by (with_reducible repeat (first | apply qh | apply qi | apply qj));exact qp Qo.out (fun _ hk => ⟨hk.1.1,⟨hk.1.2.1,⟨hk.1.2.2.1,⟨hk.1.2.2.2.1,⟨hk.1.2.2.2.2.1,⟨hk.2,hk.1.2.2.2.2.2⟩⟩⟩⟩⟩⟩)),(by (with_reducible repeat (first | apply qh | apply qi | apply qj));exact qp Qr.out (fun _ hk => ⟨hk.1.1,⟨hk.1.2.1,⟨hk.1.2.2.1,⟨hk.1.2.2.2.1,⟨hk.1.2.2.2.2.1,⟨hk.2,hk.1.2.2.2.2.2⟩⟩⟩⟩⟩⟩)),(by (with_reducible repeat (first | apply qk | apply ql | apply qm));exact Qv.out),(by (with_reducible repeat (first | apply qh | apply qi | apply qj));exact qp Qw.out (fun _ hk => ⟨hk.1.1,⟨hk.1.2.1,⟨hk.1.2.2.1,⟨hk.1.2.2.2.1,⟨hk.1.2.2.2.2.1,⟨hk.2,hk.1.2.2.2.2.2⟩⟩⟩⟩⟩⟩)),(by (with_reducible repeat (first | apply qh | apply qi | apply qj));exact qp Zf.out (fun _ hk => ⟨hk.1.1,⟨hk.1.2.1,⟨hk.1.2.2.1,⟨hk.1.2.2.2.1,⟨hk.1.2.2.2.2.1,⟨hk.2,hk.1.2.2.2.2.2⟩⟩⟩⟩⟩⟩)),(by (with_reducible repeat (first | apply qh | apply qi | apply qj));exact qp Z3.out (fun _ hk => ⟨hk.1.1,⟨hk.1.2.1,⟨hk.1.2.2.1,⟨hk.1.2.2.2.1,⟨hk.1.2.2.2.2.1,⟨hk.2,hk.1.2.2.2.2.2⟩⟩⟩⟩⟩⟩)),(by (with_reducible repeat (first | refine qa ?_ _ | refine qb ?_ | refine qc ?_ _));exact Qc.out),(by (with_reducible repeat (first | refine qa ?_ _ | refine qb ?_ | refine qc ?_ _));exact Qg.out),(by (with_reducible repeat (first | refine qa ?_ _ | refine qb ?_ | refine qc ?_ _));exact Ql.out),(by (with_reducible repeat (first | refine qa ?_ _ | refine qb ?_ | refine qc ?_ _));exact Qm.out),(by (with_reducible repeat (first | refine qa ?_ _ | refine qb ?_ | refine qc ?_ _));exact Zb.out),(by (with_reducible repeat (first | refine qa ?_ _ | refine qb ?_ | refine qc ?_ _));exact Q6.out),X2.out,Zt.out,Qz.out,Zp.out,Q2.out,Zr.out,Za.out,Zs.out,Q4.out,Zk.out,Zc.out,Zd.out,X3.out,Zu.out,Qx.out,Zm.out,Qy.out,Zn.out,Q5.out,Zl.out,Q8.out,Zo.out,(by repeat (first | (with_reducible first | exact HB.out | apply qe | apply qf | apply qg | refine qd ?_ Qt.out | refine qd ?_ Qu.out | refine qd ?_ Zg.out | refine qd ?_ Zj.out | refine qd ?_ Zu.out | refine qd ?_ Zt.out) | exact HB.out))⟩)
       ·skip
        rintro ⟨Yf,Qi⟩ w51 ⟨hS_,h0_,h1_,h2_,h3_,h4_,h5_,h6_,h7_,h8_,h9_,Yd,Yh,Yi,Yj,Yk,Yl,Ym,Yn,Yo,Yp,Yq,Y3⟩
        have n0_ : Aside0 (Kd.V (Kd.int .i64) 3 w51 w.heap.size (fun k_ => some k_ ≠ (Ze : Value).ownBlock ∧ k_ ≠ Qa ∧ k_ ≠ Qb ∧ k_ ≠ Qd ∧ k_ ≠ Qe ∧ k_ ≠ Qi) (.slice Q3 Qj.length Q1) Qj) := ⟨h0_⟩
        have n1_ : Aside0 (Kd.V (Kd.int .i64) 3 w51 w.heap.size (fun k_ => some k_ ≠ (Ze : Value).ownBlock ∧ k_ ≠ Qa ∧ k_ ≠ Qb ∧ k_ ≠ Qd ∧ k_ ≠ Qe ∧ k_ ≠ Qi) (.slice X7 Zv.length X8) Zv) := ⟨h1_⟩
        have n2_ : Aside0 (Kd.R (Kd.int .i64) 3 w51 w.heap.size (fun _ => True) Ze X4) := ⟨h2_⟩
        have n3_ : Aside0 (Kd.V (Kd.int .i64) 3 w51 w.heap.size (fun k_ => some k_ ≠ (Ze : Value).ownBlock ∧ k_ ≠ Qa ∧ k_ ≠ Qb ∧ k_ ≠ Qd ∧ k_ ≠ Qe ∧ k_ ≠ Qi) (.slice Zi Qs.length Zh) Qs) := ⟨h3_⟩
        have n4_ : Aside0 (Kd.V (Kd.int .i64) 3 w51 w.heap.size (fun k_ => some k_ ≠ (Ze : Value).ownBlock ∧ k_ ≠ Qa ∧ k_ ≠ Qb ∧ k_ ≠ Qd ∧ k_ ≠ Qe ∧ k_ ≠ Qi) (.slice A48 Z8.length c48) Z8) := ⟨h4_⟩
        have n5_ : Aside0 (Kd.V (Kd.int .i64) 3 w51 w.heap.size (fun k_ => some k_ ≠ (Ze : Value).ownBlock ∧ k_ ≠ Qa ∧ k_ ≠ Qb ∧ k_ ≠ Qd ∧ k_ ≠ Qe ∧ k_ ≠ Qi) Yf Z4) := ⟨h5_⟩
        have n6_ : Aside0 (w51.heap[Qa]? = some (.cells #[.slice Q3 Qj.length Q1,.int .i64 Qk] 49 (0,0))) := ⟨h6_⟩
        have n7_ : Aside0 (w51.heap[Qb]? = some (.cells #[.string Qp,.int .i64 Qq] 23 (0,0))) := ⟨h7_⟩
        have n8_ : Aside0 (w51.heap[Qd]? = some (.cells #[.slice Zi Qs.length Zh,.int .i64 Q0] 49 (0,0))) := ⟨h8_⟩
        have n9_ : Aside0 (w51.heap[Qe]? = some (.cells #[.string Q7,.int .i64 Q9] 23 (0,0))) := ⟨h9_⟩
        have Zw : Aside0 (w51.heap[Qi]? = some (.cells #[.slice none 0 0,.int .i64 0] 49 (0,0))) := ⟨Yd⟩
        have Z0 : Aside0 (w.heap.size ≤ Qi) := ⟨Yh⟩
        have Z2 : Aside0 (w.heap.size ≤ Qi) := ⟨Yi⟩
        have Z6 : Aside0 (Qa ≠ Qi) := ⟨Yj⟩
        have Xb : Aside0 (Qi ≠ Qa) := ⟨Yk⟩
        have Xc : Aside0 (Qb ≠ Qi) := ⟨Yl⟩
        have Xd : Aside0 (Qi ≠ Qb) := ⟨Ym⟩
        have Xe : Aside0 (Qd ≠ Qi) := ⟨Yn⟩
        have Xf : Aside0 (Qi ≠ Qd) := ⟨Yo⟩
        have Xg : Aside0 (Qe ≠ Qi) := ⟨Yp⟩
        have Xh : Aside0 (Qi ≠ Qe) := ⟨Yq⟩
        have Xs : Aside0 (Below w.heap.size w w51) := ⟨Y3⟩
        clear Qo
        clear Qr
        clear Qv
        clear Qw
        clear Qc
        clear Qg
        clear Ql
        clear Qm
        clear HB
        clear h0_ h1_ h2_ h3_ h4_ h5_ h6_ h7_ h8_ h9_ Yd Yh Yi Yj Yk Yl Ym Yn Yo Yp Yq Y3
        have Qo := n0_
        have Qr := n1_
        have Qv := n2_
        have Qw := n3_
        have Zf := n4_
        have Z3 := n5_
        have Qc := n6_
        have Qg := n7_
        have Ql := n8_
        have Qm := n9_
        have Zb := Zw
        have X2 := Z0
        have Zt := Z2
        have Qz := Z6
        have Zp := Xb
        have Q2 := Xc
        have Zr := Xd
        have Za := Xe
        have Zs := Xf
        have Q4 := Xg
        have Zk := Xh
        have HB := Xs
        clear n0_ n1_ n2_ n3_ n4_ n5_ n6_ n7_ n8_ n9_ Zw Z0 Z2 Z6 Xb Xc Xd Xe Xf Xg Xh Xs
        have hHeld : w51.cell? ⟨Qa,0,none⟩ = some (.slice Q3 Qj.length Q1) ∧ w51.cell? ⟨Qa,1,none⟩ = some (.int .i64 Qk) ∧ w51.cell? ⟨Qb,0,none⟩ = some (.string Qp) ∧ w51.cell? ⟨Qb,1,none⟩ = some (.int .i64 Qq) := hS_
        refine zm (a' := ?_) ?_ ?_
        rotate_left
        ·simp only [putAll,Act.put,qt,qu,qv]
         rfl
        refine one_ (i := 15) (N := some 14) #[true,true,true,true,true,true,true,true,true,true,true,true,true,true,true,true,false,false,false,false] rfl rfl (one_of HT_.out (by kernel_rfl)) (by decide) (fun K hK => ?_)
        refine box_step ?hg (N := 14) ?hd (cs := #[.string (⟨#[]⟩ : ByteArray),.int .i64 0]) (t := 23) ?hr ?_;(case hd => rfl);(case hg => rfl);(case hr => first | (go_simp;done) | (go_simp;rfl))
        intro Qh hg w52 hbox hb
        have n0_ := qs (qq (Kd.V_elderB (by (with_reducible repeat (first | apply qh | apply qi | apply qj));exact Qo.out) Qh (zc hg.symm)) hb)
        have n1_ := qs (qq (Kd.V_elderB (by (with_reducible repeat (first | apply qh | apply qi | apply qj));exact Qr.out) Qh (zc hg.symm)) hb)
        have n2_ := qs (qr (by (with_reducible repeat (first | apply qk | apply ql | apply qm));exact Qv.out) hb)
        have n3_ := qs (qq (Kd.V_elderB (by (with_reducible repeat (first | apply qh | apply qi | apply qj));exact Qw.out) Qh (zc hg.symm)) hb)
        have n4_ := qs (qq (Kd.V_elderB (by (with_reducible repeat (first | apply qh | apply qi | apply qj));exact Zf.out) Qh (zc hg.symm)) hb)
        have n5_ := qs (qq (Kd.V_elderB (by (with_reducible repeat (first | apply qh | apply qi | apply qj));exact Z3.out) Qh (zc hg.symm)) hb)
        have n6_ := qs (qw (g := Qa) (o := .cells #[.slice Q3 Qj.length Q1,.int .i64 Qk] 49 (0,0)) (by (with_reducible repeat (first | refine qa ?_ _ | refine qb ?_ | refine qc ?_ _));exact Qc.out) hb)
        have n7_ := qs (qw (g := Qb) (o := .cells #[.string Qp,.int .i64 Qq] 23 (0,0)) (by (with_reducible repeat (first | refine qa ?_ _ | refine qb ?_ | refine qc ?_ _));exact Qg.out) hb)
        have n8_ := qs (qw (g := Qd) (o := .cells #[.slice Zi Qs.length Zh,.int .i64 Q0] 49 (0,0)) (by (with_reducible repeat (first | refine qa ?_ _ | refine qb ?_ | refine qc ?_ _));exact Ql.out) hb)
        have n9_ := qs (qw (g := Qe) (o := .cells #[.string Q7,.int .i64 Q9] 23 (0,0)) (by (with_reducible repeat (first | refine qa ?_ _ | refine qb ?_ | refine qc ?_ _));exact Qm.out) hb)
        have Zw := qs (qw (g := Qi) (o := .cells #[.slice none 0 0,.int .i64 0] 49 (0,0)) (by (with_reducible repeat (first | refine qa ?_ _ | refine qb ?_ | refine qc ?_ _));exact Zb.out) hb)
        have Z0 := qs (zf (by repeat (first | (with_reducible first | exact HB.out | apply qe | apply qf | apply qg | refine qd ?_ Qt.out | refine qd ?_ Qu.out | refine qd ?_ Zg.out | refine qd ?_ Zj.out | refine qd ?_ Zt.out) | exact HB.out)) hb)
        have Z2 := qs (hbox)
        have Z6 := qs ((by rw [hg];exact (below_size (by repeat (first | (with_reducible first | exact HB.out | apply qe | apply qf | apply qg | refine qd ?_ Qt.out | refine qd ?_ Qu.out | refine qd ?_ Zg.out | refine qd ?_ Zj.out | refine qd ?_ Zt.out) | exact HB.out))) : w.heap.size ≤ Qh))
        have Xb := qs ((by rw [hg];exact (below_size (by repeat (first | (with_reducible first | exact HB.out | apply qe | apply qf | apply qg | refine qd ?_ Qt.out | refine qd ?_ Qu.out | refine qd ?_ Zg.out | refine qd ?_ Zj.out | refine qd ?_ Zt.out) | exact HB.out))) : w.heap.size ≤ Qh))
        have Xc := qs ((by rw [hg];exact za (blk_lt (g := Qa) (o := .cells #[.slice Q3 Qj.length Q1,.int .i64 Qk] 49 (0,0)) (by (with_reducible repeat (first | refine qa ?_ _ | refine qb ?_ | refine qc ?_ _));exact Qc.out)) : Qa ≠ Qh))
        have Xd := qs ((by rw [hg];exact zb (blk_lt (g := Qa) (o := .cells #[.slice Q3 Qj.length Q1,.int .i64 Qk] 49 (0,0)) (by (with_reducible repeat (first | refine qa ?_ _ | refine qb ?_ | refine qc ?_ _));exact Qc.out)) : Qh ≠ Qa))
        have Xe := qs ((by rw [hg];exact za (blk_lt (g := Qb) (o := .cells #[.string Qp,.int .i64 Qq] 23 (0,0)) (by (with_reducible repeat (first | refine qa ?_ _ | refine qb ?_ | refine qc ?_ _));exact Qg.out)) : Qb ≠ Qh))
        have Xf := qs ((by rw [hg];exact zb (blk_lt (g := Qb) (o := .cells #[.string Qp,.int .i64 Qq] 23 (0,0)) (by (with_reducible repeat (first | refine qa ?_ _ | refine qb ?_ | refine qc ?_ _));exact Qg.out)) : Qh ≠ Qb))
        have Xg := qs ((by rw [hg];exact za (blk_lt (g := Qd) (o := .cells #[.slice Zi Qs.length Zh,.int .i64 Q0] 49 (0,0)) (by (with_reducible repeat (first | refine qa ?_ _ | refine qb ?_ | refine qc ?_ _));exact Ql.out)) : Qd ≠ Qh))
        have Xh := qs ((by rw [hg];exact zb (blk_lt (g := Qd) (o := .cells #[.slice Zi Qs.length Zh,.int .i64 Q0] 49 (0,0)) (by (with_reducible repeat (first | refine qa ?_ _ | refine qb ?_ | refine qc ?_ _));exact Ql.out)) : Qh ≠ Qd))
        have Xs := qs ((by rw [hg];exact za (blk_lt (g := Qe) (o := .cells #[.string Q7,.int .i64 Q9] 23 (0,0)) (by (with_reducible repeat (first | refine qa ?_ _ | refine qb ?_ | refine qc ?_ _));exact Qm.out)) : Qe ≠ Qh))
        have Yr := qs ((by rw [hg];exact zb (blk_lt (g := Qe) (o := .cells #[.string Q7,.int .i64 Q9] 23 (0,0)) (by (with_reducible repeat (first | refine qa ?_ _ | refine qb ?_ | refine qc ?_ _));exact Qm.out)) : Qh ≠ Qe))
        have Ys := qs ((by rw [hg];exact za (blk_lt (g := Qi) (o := .cells #[.slice none 0 0,.int .i64 0] 49 (0,0)) (by (with_reducible repeat (first | refine qa ?_ _ | refine qb ?_ | refine qc ?_ _));exact Zb.out)) : Qi ≠ Qh))
        have Y4 := qs ((by rw [hg];exact zb (blk_lt (g := Qi) (o := .cells #[.slice none 0 0,.int .i64 0] 49 (0,0)) (by (with_reducible repeat (first | refine qa ?_ _ | refine qb ?_ | refine qc ?_ _));exact Zb.out)) : Qh ≠ Qi))
        clear Qo
        clear Qr
        clear Qv
        clear Qw
        clear Zf
        clear Z3
        clear Qc
        clear Qg
        clear Ql
        clear Qm
        clear Zb
        clear HB
        have Qo := n0_
        have Qr := n1_
        have Qv := n2_
        have Qw := n3_
        have Zf := n4_
        have Z3 := n5_
        have Qc := n6_
        have Qg := n7_
        have Ql := n8_
        have Qm := n9_
        have Zb := Zw
        have HB := Z0
        have Q6 := Z2
        have X3 := Z6
        have Zu := Xb
        have Qx := Xc
        have Zm := Xd
        have Qy := Xe
        have Zn := Xf
        have Q5 := Xg
        have Zl := Xh
        have Q8 := Xs
        have Zo := Yr
        have Zd := Ys
        have Zc := Y4
        clear n0_ n1_ n2_ n3_ n4_ n5_ n6_ n7_ n8_ n9_ Zw Z0 Z2 Z6 Xb Xc Xd Xe Xf Xg Xh Xs Yr Ys Y4
        clear hb hbox hg
        refine hK.out _ _ ⟨(qx Qc.out 0).trans rfl,(qx Qc.out 1).trans rfl,(qx Qg.out 0).trans rfl,(qx Qg.out 1).trans rfl⟩ (fun hHeld => ?_)
        clear hK K
        refine zm (a' := ?_) ?_ ?_
        rotate_left
        ·show Act.put _ (some 14) _ = _
         simp only [Act.put,qt,qu,qv,i64_w,i32_w]
         rfl
        exact zm (by first | (simp only [putAll,Act.put,qt,qu,qv];done) | (simp only [putAll,Act.put,qt,qu,qv];rfl)) (Yy (Yf,Qi,Qh) _ ⟨hHeld,(by (with_reducible repeat (first | apply qh | apply qi | apply qj));exact qp Qo.out (fun _ hk => ⟨hk.1.1,⟨hk.1.2.1,⟨hk.1.2.2.1,⟨hk.1.2.2.2.1,⟨hk.1.2.2.2.2.1,⟨hk.1.2.2.2.2.2,hk.2⟩⟩⟩⟩⟩⟩)),(by (with_reducible repeat (first | apply qh | apply qi | apply qj));exact qp Qr.out (fun _ hk => ⟨hk.1.1,⟨hk.1.2.1,⟨hk.1.2.2.1,⟨hk.1.2.2.2.1,⟨hk.1.2.2.2.2.1,⟨hk.1.2.2.2.2.2,hk.2⟩⟩⟩⟩⟩⟩)),(by (with_reducible repeat (first | apply qk | apply ql | apply qm));exact Qv.out),(by (with_reducible repeat (first | apply qh | apply qi | apply qj));exact qp Qw.out (fun _ hk => ⟨hk.1.1,⟨hk.1.2.1,⟨hk.1.2.2.1,⟨hk.1.2.2.2.1,⟨hk.1.2.2.2.2.1,⟨hk.1.2.2.2.2.2,hk.2⟩⟩⟩⟩⟩⟩)),(by (with_reducible repeat (first | apply qh | apply qi | apply qj));exact qp Zf.out (fun _ hk => ⟨hk.1.1,⟨hk.1.2.1,⟨hk.1.2.2.1,⟨hk.1.2.2.2.1,⟨hk.1.2.2.2.2.1,⟨hk.1.2.2.2.2.2,hk.2⟩⟩⟩⟩⟩⟩)),(by (with_reducible repeat (first | apply qh | apply qi | apply qj));exact qp Z3.out (fun _ hk => ⟨hk.1.1,⟨hk.1.2.1,⟨hk.1.2.2.1,⟨hk.1.2.2.2.1,⟨hk.1.2.2.2.2.1,⟨hk.1.2.2.2.2.2,hk.2⟩⟩⟩⟩⟩⟩)),(by (with_reducible repeat (first | refine qa ?_ _ | refine qb ?_ | refine qc ?_ _));exact Qc.out),(by (with_reducible repeat (first | refine qa ?_ _ | refine qb ?_ | refine qc ?_ _));exact Qg.out),(by (with_reducible repeat (first | refine qa ?_ _ | refine qb ?_ | refine qc ?_ _));exact Ql.out),(by (with_reducible repeat (first | refine qa ?_ _ | refine qb ?_ | refine qc ?_ _));exact Qm.out),(by (with_reducible repeat (first | refine qa ?_ _ | refine qb ?_ | refine qc ?_ _));exact Zb.out),(by (with_reducible repeat (first | refine qa ?_ _ | refine qb ?_ | refine qc ?_ _));exact Q6.out),X2.out,Zt.out,Qz.out,Zp.out,Q2.out,Zr.out,Za.out,Zs.out,Q4.out,Zk.out,Zc.out,Zd.out,X3.out,Zu.out,Qx.out,Zm.out,Qy.out,Zn.out,Q5.out,Zl.out,Q8.out,Zo.out,(by repeat (first | (with_reducible first | exact HB.out | apply qe | apply qf | apply qg | refine qd ?_ Qt.out | refine qd ?_ Qu.out | refine qd ?_ Zg.out | refine qd ?_ Zj.out | refine qd ?_ Zt.out | refine qd ?_ Zu.out) | exact HB.out))⟩)
      rintro ⟨Yf,Qi,Qh⟩ w52 ⟨hS_,h0_,h1_,h2_,h3_,h4_,h5_,h6_,h7_,h8_,h9_,Yd,Yh,Yi,Yj,Yk,Yl,Ym,Yn,Yo,Yp,Yq,Y3,Jt,Ju,Jv,Jw,Jx,Jy,Jz,J0,J1,J2,J3,J4,Gb⟩
      have n0_ : Aside0 (Kd.V (Kd.int .i64) 3 w52 w.heap.size (fun k_ => some k_ ≠ (Ze : Value).ownBlock ∧ k_ ≠ Qa ∧ k_ ≠ Qb ∧ k_ ≠ Qd ∧ k_ ≠ Qe ∧ k_ ≠ Qi ∧ k_ ≠ Qh) (.slice Q3 Qj.length Q1) Qj) := ⟨h0_⟩
      have n1_ : Aside0 (Kd.V (Kd.int .i64) 3 w52 w.heap.size (fun k_ => some k_ ≠ (Ze : Value).ownBlock ∧ k_ ≠ Qa ∧ k_ ≠ Qb ∧ k_ ≠ Qd ∧ k_ ≠ Qe ∧ k_ ≠ Qi ∧ k_ ≠ Qh) (.slice X7 Zv.length X8) Zv) := ⟨h1_⟩
      have n2_ : Aside0 (Kd.R (Kd.int .i64) 3 w52 w.heap.size (fun _ => True) Ze X4) := ⟨h2_⟩
      have n3_ : Aside0 (Kd.V (Kd.int .i64) 3 w52 w.heap.size (fun k_ => some k_ ≠ (Ze : Value).ownBlock ∧ k_ ≠ Qa ∧ k_ ≠ Qb ∧ k_ ≠ Qd ∧ k_ ≠ Qe ∧ k_ ≠ Qi ∧ k_ ≠ Qh) (.slice Zi Qs.length Zh) Qs) := ⟨h3_⟩
      have n4_ : Aside0 (Kd.V (Kd.int .i64) 3 w52 w.heap.size (fun k_ => some k_ ≠ (Ze : Value).ownBlock ∧ k_ ≠ Qa ∧ k_ ≠ Qb ∧ k_ ≠ Qd ∧ k_ ≠ Qe ∧ k_ ≠ Qi ∧ k_ ≠ Qh) (.slice A48 Z8.length c48) Z8) := ⟨h4_⟩
      have n5_ : Aside0 (Kd.V (Kd.int .i64) 3 w52 w.heap.size (fun k_ => some k_ ≠ (Ze : Value).ownBlock ∧ k_ ≠ Qa ∧ k_ ≠ Qb ∧ k_ ≠ Qd ∧ k_ ≠ Qe ∧ k_ ≠ Qi ∧ k_ ≠ Qh) Yf Z4) := ⟨h5_⟩
      have n6_ : Aside0 (w52.heap[Qa]? = some (.cells #[.slice Q3 Qj.length Q1,.int .i64 Qk] 49 (0,0))) := ⟨h6_⟩
      have n7_ : Aside0 (w52.heap[Qb]? = some (.cells #[.string Qp,.int .i64 Qq] 23 (0,0))) := ⟨h7_⟩
      have n8_ : Aside0 (w52.heap[Qd]? = some (.cells #[.slice Zi Qs.length Zh,.int .i64 Q0] 49 (0,0))) := ⟨h8_⟩
      have n9_ : Aside0 (w52.heap[Qe]? = some (.cells #[.string Q7,.int .i64 Q9] 23 (0,0))) := ⟨h9_⟩
      have Zw : Aside0 (w52.heap[Qi]? = some (.cells #[.slice none 0 0,.int .i64 0] 49 (0,0))) := ⟨Yd⟩
      have Z0 : Aside0 (w52.heap[Qh]? = some (.cells #[.string (⟨#[]⟩ : ByteArray),.int .i64 0] 23 (0,0))) := ⟨Yh⟩
      have Z2 : Aside0 (w.heap.size ≤ Qi) := ⟨Yi⟩
      have Z6 : Aside0 (w.heap.size ≤ Qi) := ⟨Yj⟩
      have Xb : Aside0 (Qa ≠ Qi) := ⟨Yk⟩
      have Xc : Aside0 (Qi ≠ Qa) := ⟨Yl⟩
      have Xd : Aside0 (Qb ≠ Qi) := ⟨Ym⟩
      have Xe : Aside0 (Qi ≠ Qb) := ⟨Yn⟩
      have Xf : Aside0 (Qd ≠ Qi) := ⟨Yo⟩
      have Xg : Aside0 (Qi ≠ Qd) := ⟨Yp⟩
      have Xh : Aside0 (Qe ≠ Qi) := ⟨Yq⟩
      have Xs : Aside0 (Qi ≠ Qe) := ⟨Y3⟩
      have Yr : Aside0 (Qh ≠ Qi) := ⟨Jt⟩
      have Ys : Aside0 (Qi ≠ Qh) := ⟨Ju⟩
      have Y4 : Aside0 (w.heap.size ≤ Qh) := ⟨Jv⟩
      have J5 : Aside0 (w.heap.size ≤ Qh) := ⟨Jw⟩
      have J6 : Aside0 (Qa ≠ Qh) := ⟨Jx⟩
      have J7 : Aside0 (Qh ≠ Qa) := ⟨Jy⟩
      have J8 : Aside0 (Qb ≠ Qh) := ⟨Jz⟩
      have J9 : Aside0 (Qh ≠ Qb) := ⟨J0⟩
      have Va : Aside0 (Qd ≠ Qh) := ⟨J1⟩
      have Vb : Aside0 (Qh ≠ Qd) := ⟨J2⟩
      have Vc : Aside0 (Qe ≠ Qh) := ⟨J3⟩
      have Vd : Aside0 (Qh ≠ Qe) := ⟨J4⟩
      have Gc : Aside0 (Below w.heap.size w w52) := ⟨Gb⟩
      clear Qo
      clear Qr
      clear Qv
      clear Qw
      clear Qc
      clear Qg
      clear Ql
      clear Qm
      clear HB
      clear h0_ h1_ h2_ h3_ h4_ h5_ h6_ h7_ h8_ h9_ Yd Yh Yi Yj Yk Yl Ym Yn Yo Yp Yq Y3 Jt Ju Jv Jw Jx Jy Jz J0 J1 J2 J3 J4 Gb
      have Qo := n0_
      have Qr := n1_
      have Qv := n2_
      have Qw := n3_
      have Zf := n4_
      have Z3 := n5_
      have Qc := n6_
      have Qg := n7_
      have Ql := n8_
      have Qm := n9_
      have Zb := Zw
      have Q6 := Z0
      have X2 := Z2
      have Zt := Z6
      have Qz := Xb
      have Zp := Xc
      have Q2 := Xd
      have Zr := Xe
      have Za := Xf
      have Zs := Xg
      have Q4 := Xh
      have Zk := Xs
      have Zc := Yr
      have Zd := Ys
      have X3 := Y4
      have Zu := J5
      have Qx := J6
      have Zm := J7
      have Qy := J8
      have Zn := J9
      have Q5 := Va
      have Zl := Vb
      have Q8 := Vc
      have Zo := Vd
      have HB := Gc
      clear n0_ n1_ n2_ n3_ n4_ n5_ n6_ n7_ n8_ n9_ Zw Z0 Z2 Z6 Xb Xc Xd Xe Xf Xg Xh Xs Yr Ys Y4 J5 J6 J7 J8 J9 Va Vb Vc Vd Gc
      have hHeld : w52.cell? ⟨Qa,0,none⟩ = some (.slice Q3 Qj.length Q1) ∧ w52.cell? ⟨Qa,1,none⟩ = some (.int .i64 Qk) ∧ w52.cell? ⟨Qb,0,none⟩ = some (.string Qp) ∧ w52.cell? ⟨Qb,1,none⟩ = some (.int .i64 Qq) := hS_
      obtain ⟨Xw,Xx,Gd⟩ := Kd.V_slice Z3.out
      (first | subst Gd | (injection Gd with f1_ f2_ f3_;have f4_ := f1_.symm;have f5_ := f3_.symm;clear f1_ f2_ f3_;subst f4_;subst f5_))
      refine zm (a' := ?_) ?_ ?_
      rotate_left
      ·simp only [putAll,Act.put,qt,qu,qv]
       rfl
      refine zl (i := 16) (N := some 12) (v := ?_) (a' := ?_) #[true,true,true,true,true,true,true,true,true,true,true,true,true,true,true,true,true,false,false,false] rfl rfl (any_of HT_.out (by kernel_rfl)) (fun _ _ _ h => h) (Or.inl ⟨by rfl,?_⟩) ?_ ?_
      rotate_left
      ·intro w'
       go_simp
       with_reducible rfl
      rotate_left
      ·simp only [Act.put,qt,qu,qv,i64_w,i32_w]
       rfl
      refine one_ (i := 17) (N := none) #[true,true,true,true,true,true,true,true,true,true,true,true,true,true,true,true,true,true,false,false] rfl rfl (one_of HT_.out (by kernel_rfl)) (by decide) (fun K hK => ?_)
      have T8 : w52.cell? ⟨Qi,0,none⟩ = some (.slice none 0 0) := (qx Zb.out 0).trans rfl
      have W2 := qz Zb.out 0
      have Mj := Qz.out
      have Mk := Q2.out
      have Ml := Za.out
      have Mm := Q4.out
      have Mn := Zc.out
      have Mo := Zp.out
      have Mp := Zr.out
      have Mq := Zs.out
      have Mr := Zk.out
      have Ms := Zd.out
      have T9 : w52.cell? ⟨Qi,1,none⟩ = some (.int .i64 0) := (qx Zb.out 1).trans rfl
      have W3 := qz Zb.out 1
      have Mt := Qz.out
      have Mu := Q2.out
      have Mv := Za.out
      have Mw := Q4.out
      have Mx := Zc.out
      have My := Zp.out
      have Mz := Zr.out
      have M0 := Zs.out
      have M1 := Zk.out
      have M2 := Zd.out
      refine skip_ (w1 := ?_) (by rfl) rfl ?_ ?_
      rotate_left
      ·go_simp
       rfl
      refine hK.out _ _ ⟨((cell_far (p := ⟨Qi,_,none⟩) Qz.out _).trans (((cell_far (p := ⟨Qi,_,none⟩) Qz.out _).trans (hHeld.1)))),((cell_far (p := ⟨Qi,_,none⟩) Qz.out _).trans (((cell_far (p := ⟨Qi,_,none⟩) Qz.out _).trans (hHeld.2.1)))),((cell_far (p := ⟨Qi,_,none⟩) Q2.out _).trans (((cell_far (p := ⟨Qi,_,none⟩) Q2.out _).trans (hHeld.2.2.1)))),((cell_far (p := ⟨Qi,_,none⟩) Q2.out _).trans (((cell_far (p := ⟨Qi,_,none⟩) Q2.out _).trans (hHeld.2.2.2))))⟩ (fun hHeld => ?_)
      clear hK K
      refine one_ (i := 18) (N := none) #[true,true,true,true,true,true,true,true,true,true,true,true,true,true,true,true,true,true,true,false] rfl rfl (one_of HT_.out (by kernel_rfl)) (by decide) (fun K hK => ?_)
      have Ba : w52.cell? ⟨Qh,0,none⟩ = some (.string (⟨#[]⟩ : ByteArray)) := (qx Q6.out 0).trans rfl
      have W4 := qz Q6.out 0
      have M3 := Qx.out
      have M4 := Qy.out
      have M5 := Q5.out
      have M6 := Q8.out
      have M7 := Zd.out
      have M8 := Zm.out
      have M9 := Zn.out
      have La := Zl.out
      have Lb := Zo.out
      have Lc := Zc.out
      have Bb : w52.cell? ⟨Qh,1,none⟩ = some (.int .i64 0) := (qx Q6.out 1).trans rfl
      have W5 := qz Q6.out 1
      have Ld := Qx.out
      have Le := Qy.out
      have Lf := Q5.out
      have Lg := Q8.out
      have Lh := Zd.out
      have Li := Zm.out
      have Lj := Zn.out
      have Lk := Zl.out
      have Ll := Zo.out
      have Lm := Zc.out
      refine skip_ (w1 := ?_) (by rfl) rfl ?_ ?_
      rotate_left
      ·go_simp
       rfl
      refine hK.out _ _ ⟨((cell_far (p := ⟨Qh,_,none⟩) Qx.out _).trans (((cell_far (p := ⟨Qh,_,none⟩) Qx.out _).trans (hHeld.1)))),((cell_far (p := ⟨Qh,_,none⟩) Qx.out _).trans (((cell_far (p := ⟨Qh,_,none⟩) Qx.out _).trans (hHeld.2.1)))),((cell_far (p := ⟨Qh,_,none⟩) Qy.out _).trans (((cell_far (p := ⟨Qh,_,none⟩) Qy.out _).trans (hHeld.2.2.1)))),((cell_far (p := ⟨Qh,_,none⟩) Qy.out _).trans (((cell_far (p := ⟨Qh,_,none⟩) Qy.out _).trans (hHeld.2.2.2))))⟩ (fun hHeld => ?_)
      clear hK K
      refine zl (i := 19) (N := some 15) (v := ?_) (a' := ?_) #[true,true,true,true,true,true,true,true,true,true,true,true,true,true,true,true,true,true,true,true] rfl rfl (any_of HT_.out (by kernel_rfl)) (fun _ _ _ h => h) (Or.inl ⟨by rfl,?_⟩) ?_ ?_
      rotate_left
      ·intro w'
       go_simp
       with_reducible rfl
      rotate_left
      ·simp only [Act.put,qt,qu,qv,i64_w,i32_w]
       rfl
      refine done_ (done_of HT_.out (by kernel_rfl)) ?_
      go_upto_region 7 with (fail)
      go_cut [74] (fun v74 wc => ∃ (kq : Nat) (Y8 : Bool),v74 = .bool Y8 ∧ Aside0 (tattlelaw08_TurnStays.j0 kq Xk Xr Y8 Qj Qk Qp Qq Qs Q0 Q7 Q9 Z4 Z7 = some r) ∧ Aside0 (kq ≤ k) ∧ Aside0 (Kd.V (Kd.int .i64) 3 wc w.heap.size (fun k_ => k_ ≠ Qa ∧ k_ ≠ Qb ∧ k_ ≠ Qd ∧ k_ ≠ Qe ∧ k_ ≠ Qi ∧ k_ ≠ Qh) (.slice Q3 Qj.length Q1) Qj) ∧ Aside0 (Kd.V (Kd.int .i64) 3 wc w.heap.size (fun k_ => k_ ≠ Qa ∧ k_ ≠ Qb ∧ k_ ≠ Qd ∧ k_ ≠ Qe ∧ k_ ≠ Qi ∧ k_ ≠ Qh) (.slice Zi Qs.length Zh) Qs) ∧ Aside0 (Kd.V (Kd.int .i64) 3 wc w.heap.size (fun k_ => k_ ≠ Qa ∧ k_ ≠ Qb ∧ k_ ≠ Qd ∧ k_ ≠ Qe ∧ k_ ≠ Qi ∧ k_ ≠ Qh) (.slice Xw Z4.length Xx) Z4) ∧ Aside0 (wc.heap[Qa]? = some (.cells #[(.slice Q3 Qj.length Q1),.int .i64 Qk] 49 (0,0))) ∧ Aside0 (wc.heap[Qb]? = some (.cells #[.string Qp,.int .i64 Qq] 23 (0,0))) ∧ Aside0 (wc.heap[Qd]? = some (.cells #[(.slice Zi Qs.length Zh),.int .i64 Q0] 49 (0,0))) ∧ Aside0 (wc.heap[Qe]? = some (.cells #[.string Q7,.int .i64 Q9] 23 (0,0))) ∧ Aside0 (wc.heap[Qi]? = some (.cells #[(.slice Xw Z4.length Xx),.int .i64 Z7] 49 (0,0))) ∧ Aside0 (wc.heap[Qh]? = some (.cells #[.string Z9,.int .i64 Xi] 23 (0,0))) ∧ Aside0 (Below w.heap.size w wc))
      case first =>
       have H := D2.out
       clear D2
       by_cases c58 : Xk = X5
       ·rw [if_pos c58] at H
        have c58b0 : (Xk == X5) = true := beq_iff_eq.mpr c58
        have c58b1 : (Xk != X5) = false := bne_eq_false_iff_eq.mpr c58
        clear c58
        (first | rw [c58b0] | (simp only [i64_w,i32_w];rw [c58b0]) | skip)
        by_cases c59 : (!(Q7.toList == Z9.toList) || (!(Q9 == Xi))) = true
        ·rw [if_pos c59] at H
         have c59b0 : (!(Q7.toList == Z9.toList) || (!(Q9 == Xi))) = true := c59
         clear c59
         have H' := qs H
         clear H
         have W6 := Yb.out
         have W7 := Xu.out
         have W8 := Yc.out
         have W9 := Xv.out
         have Ra := Xn.out
         have Rb := Xm.out
         have Rc := Q4.out
         have Rd := Zk.out
         have Re := Q8.out
         have Rf := Zo.out
         have Vq : w52.cell? ⟨Qe,0,none⟩ = some (.string Q7) := (qx Qm.out 0).trans rfl
         have Vr : w52.cell? ⟨Qe,1,none⟩ = some (.int .i64 Q9) := (qx Qm.out 1).trans rfl
         have Vs := qz Qm.out 0
         have Vt := qz Qm.out 1
         have Rg := Zm.out
         have Rh := Qx.out
         have Ri := Zn.out
         have Rj := Qy.out
         have Rk := Zl.out
         have Rl := Q5.out
         have Rm := Zc.out
         have Rn := Zd.out
         have Vu : w52.cell? ⟨Qh,0,none⟩ = some (.string (⟨#[]⟩ : ByteArray)) := (qx Q6.out 0).trans rfl
         have Vv : w52.cell? ⟨Qh,1,none⟩ = some (.int .i64 0) := (qx Q6.out 1).trans rfl
         have Vw := qz Q6.out 0
         have Vx := qz Q6.out 1
         go_wp2
         go_meet
         case rel => exact ⟨_,(true),(by first | rfl | (simp;done) | (simp [*];done)),H',⟨by first | omega | exact zn _⟩,⟨by (with_reducible repeat (first | apply qh | apply qi | apply qj));exact qp (qn (p := ⟨Qh,1,none⟩) (qn (p := ⟨Qh,0,none⟩) (qn (p := ⟨Qi,1,none⟩) (qn (p := ⟨Qi,0,none⟩) (qp (qp Qo.out (fun k_ hk => (⟨hk,hk.2.2.2.2.2.1⟩ : _ ∧ k_ ≠ Qi))) (fun k_ hk => (⟨hk,hk.1.2.2.2.2.2.2⟩ : _ ∧ k_ ≠ Qh))) (fun _ hk => hk.1.2) (.slice Xw Z4.length Xx)) (fun _ hk => hk.1.2) (.int .i64 Z7)) (fun _ hk => hk.2) (.string Z9)) (fun _ hk => hk.2) (.int .i64 Xi)) (fun _ hk => ⟨hk.1.1.2.1,⟨hk.1.1.2.2.1,⟨hk.1.1.2.2.2.1,⟨hk.1.1.2.2.2.2.1,⟨hk.1.1.2.2.2.2.2.1,hk.1.1.2.2.2.2.2.2⟩⟩⟩⟩⟩)⟩,⟨by (with_reducible repeat (first | apply qh | apply qi | apply qj));exact qp (qn (p := ⟨Qh,1,none⟩) (qn (p := ⟨Qh,0,none⟩) (qn (p := ⟨Qi,1,none⟩) (qn (p := ⟨Qi,0,none⟩) (qp (qp Qw.out (fun k_ hk => (⟨hk,hk.2.2.2.2.2.1⟩ : _ ∧ k_ ≠ Qi))) (fun k_ hk => (⟨hk,hk.1.2.2.2.2.2.2⟩ : _ ∧ k_ ≠ Qh))) (fun _ hk => hk.1.2) (.slice Xw Z4.length Xx)) (fun _ hk => hk.1.2) (.int .i64 Z7)) (fun _ hk => hk.2) (.string Z9)) (fun _ hk => hk.2) (.int .i64 Xi)) (fun _ hk => ⟨hk.1.1.2.1,⟨hk.1.1.2.2.1,⟨hk.1.1.2.2.2.1,⟨hk.1.1.2.2.2.2.1,⟨hk.1.1.2.2.2.2.2.1,hk.1.1.2.2.2.2.2.2⟩⟩⟩⟩⟩)⟩,⟨by (with_reducible repeat (first | apply qh | apply qi | apply qj));exact qp (qn (p := ⟨Qh,1,none⟩) (qn (p := ⟨Qh,0,none⟩) (qn (p := ⟨Qi,1,none⟩) (qn (p := ⟨Qi,0,none⟩) (qp (qp Z3.out (fun k_ hk => (⟨hk,hk.2.2.2.2.2.1⟩ : _ ∧ k_ ≠ Qi))) (fun k_ hk => (⟨hk,hk.1.2.2.2.2.2.2⟩ : _ ∧ k_ ≠ Qh))) (fun _ hk => hk.1.2) (.slice Xw Z4.length Xx)) (fun _ hk => hk.1.2) (.int .i64 Z7)) (fun _ hk => hk.2) (.string Z9)) (fun _ hk => hk.2) (.int .i64 Xi)) (fun _ hk => ⟨hk.1.1.2.1,⟨hk.1.1.2.2.1,⟨hk.1.1.2.2.2.1,⟨hk.1.1.2.2.2.2.1,⟨hk.1.1.2.2.2.2.2.1,hk.1.1.2.2.2.2.2.2⟩⟩⟩⟩⟩)⟩,⟨by (with_reducible repeat (first | refine qa ?_ _ | refine qb ?_ | refine qc ?_ _));refine qy ?_ Qx.out _;(with_reducible repeat (first | refine qa ?_ _ | refine qb ?_ | refine qc ?_ _));refine qy ?_ Qx.out _;(with_reducible repeat (first | refine qa ?_ _ | refine qb ?_ | refine qc ?_ _));refine qy ?_ Qz.out _;(with_reducible repeat (first | refine qa ?_ _ | refine qb ?_ | refine qc ?_ _));refine qy ?_ Qz.out _;(with_reducible repeat (first | refine qa ?_ _ | refine qb ?_ | refine qc ?_ _));exact Qc.out⟩,⟨by (with_reducible repeat (first | refine qa ?_ _ | refine qb ?_ | refine qc ?_ _));refine qy ?_ Qy.out _;(with_reducible repeat (first | refine qa ?_ _ | refine qb ?_ | refine qc ?_ _));refine qy ?_ Qy.out _;(with_reducible repeat (first | refine qa ?_ _ | refine qb ?_ | refine qc ?_ _));refine qy ?_ Q2.out _;(with_reducible repeat (first | refine qa ?_ _ | refine qb ?_ | refine qc ?_ _));refine qy ?_ Q2.out _;(with_reducible repeat (first | refine qa ?_ _ | refine qb ?_ | refine qc ?_ _));exact Qg.out⟩,⟨by (with_reducible repeat (first | refine qa ?_ _ | refine qb ?_ | refine qc ?_ _));refine qy ?_ Q5.out _;(with_reducible repeat (first | refine qa ?_ _ | refine qb ?_ | refine qc ?_ _));refine qy ?_ Q5.out _;(with_reducible repeat (first | refine qa ?_ _ | refine qb ?_ | refine qc ?_ _));refine qy ?_ Za.out _;(with_reducible repeat (first | refine qa ?_ _ | refine qb ?_ | refine qc ?_ _));refine qy ?_ Za.out _;(with_reducible repeat (first | refine qa ?_ _ | refine qb ?_ | refine qc ?_ _));exact Ql.out⟩,⟨by (with_reducible repeat (first | refine qa ?_ _ | refine qb ?_ | refine qc ?_ _));refine qy ?_ Q8.out _;(with_reducible repeat (first | refine qa ?_ _ | refine qb ?_ | refine qc ?_ _));refine qy ?_ Q8.out _;(with_reducible repeat (first | refine qa ?_ _ | refine qb ?_ | refine qc ?_ _));refine qy ?_ Q4.out _;(with_reducible repeat (first | refine qa ?_ _ | refine qb ?_ | refine qc ?_ _));refine qy ?_ Q4.out _;(with_reducible repeat (first | refine qa ?_ _ | refine qb ?_ | refine qc ?_ _));exact Qm.out⟩,⟨by (with_reducible repeat (first | refine qa ?_ _ | refine qb ?_ | refine qc ?_ _));refine qy ?_ Zd.out _;(with_reducible repeat (first | refine qa ?_ _ | refine qb ?_ | refine qc ?_ _));refine qy ?_ Zd.out _;(with_reducible repeat (first | refine qa ?_ _ | refine qb ?_ | refine qc ?_ _));refine blk_put (cs := #[.slice Xw Z4.length Xx,.int .i64 0]) ?_ 1 _ rfl;(with_reducible repeat (first | refine qa ?_ _ | refine qb ?_ | refine qc ?_ _));refine blk_put (cs := #[.slice none 0 0,.int .i64 0]) ?_ 0 _ rfl;(with_reducible repeat (first | refine qa ?_ _ | refine qb ?_ | refine qc ?_ _));exact Zb.out⟩,⟨by (with_reducible repeat (first | refine qa ?_ _ | refine qb ?_ | refine qc ?_ _));refine blk_put (cs := #[.string Z9,.int .i64 0]) ?_ 1 _ rfl;(with_reducible repeat (first | refine qa ?_ _ | refine qb ?_ | refine qc ?_ _));refine blk_put (cs := #[.string (⟨#[]⟩ : ByteArray),.int .i64 0]) ?_ 0 _ rfl;(with_reducible repeat (first | refine qa ?_ _ | refine qb ?_ | refine qc ?_ _));refine qy ?_ Zc.out _;(with_reducible repeat (first | refine qa ?_ _ | refine qb ?_ | refine qc ?_ _));refine qy ?_ Zc.out _;(with_reducible repeat (first | refine qa ?_ _ | refine qb ?_ | refine qc ?_ _));exact Q6.out⟩,⟨by repeat (first | (with_reducible first | exact HB.out | apply qe | apply qf | apply qg | refine qd ?_ Qt.out | refine qd ?_ Qu.out | refine qd ?_ Zg.out | refine qd ?_ Zj.out | refine qd ?_ Zt.out | refine qd ?_ Zu.out) | exact HB.out)⟩⟩
        ·rw [if_neg c59] at H
         have c59b0 : (!(Q7.toList == Z9.toList) || (!(Q9 == Xi))) = false := by simpa using c59
         clear c59
         by_cases c71 : Xr = X6
         ·rw [if_pos c71] at H
          have c71b0 : (Xr == X6) = true := beq_iff_eq.mpr c71
          have c71b1 : (Xr != X6) = false := bne_eq_false_iff_eq.mpr c71
          clear c71
          replace H := Option.bind_eq_some_iff.mp H
          obtain ⟨Xy,Ge,H⟩ := H
          replace H : (tattlelaw08_TurnStays.j0 k Xk Xr (!Xy) Qj Qk Qp Qq Qs Q0 Q7 Q9 Z4 Z7) = some r := H
          have A72 := qs Ge
          clear Ge
          have H' := qs H
          clear H
          have Ro := Yb.out
          have Rp := Xu.out
          have Rq := Yc.out
          have Rr := Xv.out
          have Rs := Xn.out
          have Rt := Xm.out
          have Ru := Q4.out
          have Rv := Zk.out
          have Rw := Q8.out
          have Rx := Zo.out
          have Vy : w52.cell? ⟨Qe,0,none⟩ = some (.string Q7) := (qx Qm.out 0).trans rfl
          have Vz : w52.cell? ⟨Qe,1,none⟩ = some (.int .i64 Q9) := (qx Qm.out 1).trans rfl
          have V0 := qz Qm.out 0
          have V1 := qz Qm.out 1
          have Ry := Zm.out
          have Rz := Qx.out
          have R0 := Zn.out
          have R1 := Qy.out
          have R2 := Zl.out
          have R3 := Q5.out
          have R4 := Zc.out
          have R5 := Zd.out
          have V2 : w52.cell? ⟨Qh,0,none⟩ = some (.string (⟨#[]⟩ : ByteArray)) := (qx Q6.out 0).trans rfl
          have V3 : w52.cell? ⟨Qh,1,none⟩ = some (.int .i64 0) := (qx Q6.out 1).trans rfl
          have V4 := qz Q6.out 0
          have V5 := qz Q6.out 1
          have R6 := Z1.out
          have R7 := Z5.out
          have R8 := X0.out
          have R9 := Yt.out
          have Ta := Qz.out
          have Tb := Zp.out
          have V6 : w52.cell? ⟨Qa,0,none⟩ = some (.slice Q3 Qj.length Q1) := (qx Qc.out 0).trans rfl
          have V7 : w52.cell? ⟨Qa,1,none⟩ = some (.int .i64 Qk) := (qx Qc.out 1).trans rfl
          have V8 := qz Qc.out 0
          have V9 := qz Qc.out 1
          obtain ⟨Lx,Gf,Ly⟩ := Kd.R_slice Qv.out
          subst Ly
          go_wp2_with (first | (go_at_call 22;(with_reducible refine (tattleref02_Same.calls k _ _ Qj _ _ X4 Xy _ ?Xa ?Xl ?X9 ?Ve A72.out).mono ?_);(case Xa => refine (Kd.V_reads' (e := 3) (base := w.heap.size) (ok := fun k_ => (some k_ ≠ (.slice Lx X4.length Gf : Value).ownBlock ∧ (k_ ≠ Qa ∧ (k_ ≠ Qb ∧ (k_ ≠ Qd ∧ (k_ ≠ Qe ∧ (k_ ≠ Qi ∧ k_ ≠ Qh))))))) (n := Qj.length) (c := Q1) ?_).2.2;exact (by (with_reducible repeat (first | apply qh | apply qi | apply qj));exact (qp (qp (qn (p := ⟨Qh,1,none⟩) (qn (p := ⟨Qh,0,none⟩) (qn (p := ⟨Qi,1,none⟩) (qn (p := ⟨Qi,0,none⟩) (qp (qp Qo.out (fun k_ hk => (⟨hk,hk.2.2.2.2.2.1⟩ : _ ∧ k_ ≠ Qi))) (fun k_ hk => (⟨hk,hk.1.2.2.2.2.2.2⟩ : _ ∧ k_ ≠ Qh))) (fun _ hk => hk.1.2) (.slice Xw Z4.length Xx)) (fun _ hk => hk.1.2) (.int .i64 Z7)) (fun _ hk => hk.2) (.string Z9)) (fun _ hk => hk.2) (.int .i64 Xi)) (fun _ h_ => h_.1)) (fun _ h_ => h_.1))));(case Xl => exact (Kd.V_reads' Qo.out).2.1);(case X9 => refine (Kd.R_reads' (e := 3) (base := w.heap.size) (ok := fun k_ => True) (n := X4.length) (c := Gf) ?_).2.2;exact (by (with_reducible repeat (first | apply qk | apply ql | apply qm));exact (Kd.R_mono (Kd.R_mono (qo (p := ⟨Qh,1,none⟩) (qo (p := ⟨Qh,0,none⟩) (qo (p := ⟨Qi,1,none⟩) (qo (p := ⟨Qi,0,none⟩) (Kd.R_types (Kd.R_types Qv.out Zb.out (by decide)) Q6.out (by decide)) (fun _ hk => hk.1.2) (.slice Xw Z4.length Xx)) (fun _ hk => hk.1.2) (.int .i64 Z7)) (fun _ hk => hk.2) (.string Z9)) (fun _ hk => hk.2) (.int .i64 Xi)) (fun _ h_ => h_.1)) (fun _ h_ => h_.1))));(case Ve => exact (Kd.R_reads' Qv.out).2.1);rintro e w' ⟨rfl,⟨nd,rfl⟩⟩))
          go_meet
          case rel => exact ⟨_,(!Xy),(by first | rfl | (simp;done) | (simp [*];done)),H',⟨by first | omega | exact zn _⟩,⟨by (with_reducible repeat (first | apply qh | apply qi | apply qj));exact qp (qn (p := ⟨Qh,1,none⟩) (qn (p := ⟨Qh,0,none⟩) (qn (p := ⟨Qi,1,none⟩) (qn (p := ⟨Qi,0,none⟩) (qp (qp Qo.out (fun k_ hk => (⟨hk,hk.2.2.2.2.2.1⟩ : _ ∧ k_ ≠ Qi))) (fun k_ hk => (⟨hk,hk.1.2.2.2.2.2.2⟩ : _ ∧ k_ ≠ Qh))) (fun _ hk => hk.1.2) (.slice Xw Z4.length Xx)) (fun _ hk => hk.1.2) (.int .i64 Z7)) (fun _ hk => hk.2) (.string Z9)) (fun _ hk => hk.2) (.int .i64 Xi)) (fun _ hk => ⟨hk.1.1.2.1,⟨hk.1.1.2.2.1,⟨hk.1.1.2.2.2.1,⟨hk.1.1.2.2.2.2.1,⟨hk.1.1.2.2.2.2.2.1,hk.1.1.2.2.2.2.2.2⟩⟩⟩⟩⟩)⟩,⟨by (with_reducible repeat (first | apply qh | apply qi | apply qj));exact qp (qn (p := ⟨Qh,1,none⟩) (qn (p := ⟨Qh,0,none⟩) (qn (p := ⟨Qi,1,none⟩) (qn (p := ⟨Qi,0,none⟩) (qp (qp Qw.out (fun k_ hk => (⟨hk,hk.2.2.2.2.2.1⟩ : _ ∧ k_ ≠ Qi))) (fun k_ hk => (⟨hk,hk.1.2.2.2.2.2.2⟩ : _ ∧ k_ ≠ Qh))) (fun _ hk => hk.1.2) (.slice Xw Z4.length Xx)) (fun _ hk => hk.1.2) (.int .i64 Z7)) (fun _ hk => hk.2) (.string Z9)) (fun _ hk => hk.2) (.int .i64 Xi)) (fun _ hk => ⟨hk.1.1.2.1,⟨hk.1.1.2.2.1,⟨hk.1.1.2.2.2.1,⟨hk.1.1.2.2.2.2.1,⟨hk.1.1.2.2.2.2.2.1,hk.1.1.2.2.2.2.2.2⟩⟩⟩⟩⟩)⟩,⟨by (with_reducible repeat (first | apply qh | apply qi | apply qj));exact qp (qn (p := ⟨Qh,1,none⟩) (qn (p := ⟨Qh,0,none⟩) (qn (p := ⟨Qi,1,none⟩) (qn (p := ⟨Qi,0,none⟩) (qp (qp Z3.out (fun k_ hk => (⟨hk,hk.2.2.2.2.2.1⟩ : _ ∧ k_ ≠ Qi))) (fun k_ hk => (⟨hk,hk.1.2.2.2.2.2.2⟩ : _ ∧ k_ ≠ Qh))) (fun _ hk => hk.1.2) (.slice Xw Z4.length Xx)) (fun _ hk => hk.1.2) (.int .i64 Z7)) (fun _ hk => hk.2) (.string Z9)) (fun _ hk => hk.2) (.int .i64 Xi)) (fun _ hk => ⟨hk.1.1.2.1,⟨hk.1.1.2.2.1,⟨hk.1.1.2.2.2.1,⟨hk.1.1.2.2.2.2.1,⟨hk.1.1.2.2.2.2.2.1,hk.1.1.2.2.2.2.2.2⟩⟩⟩⟩⟩)⟩,⟨by (with_reducible repeat (first | refine qa ?_ _ | refine qb ?_ | refine qc ?_ _));refine qy ?_ Qx.out _;(with_reducible repeat (first | refine qa ?_ _ | refine qb ?_ | refine qc ?_ _));refine qy ?_ Qx.out _;(with_reducible repeat (first | refine qa ?_ _ | refine qb ?_ | refine qc ?_ _));refine qy ?_ Qz.out _;(with_reducible repeat (first | refine qa ?_ _ | refine qb ?_ | refine qc ?_ _));refine qy ?_ Qz.out _;(with_reducible repeat (first | refine qa ?_ _ | refine qb ?_ | refine qc ?_ _));exact Qc.out⟩,⟨by (with_reducible repeat (first | refine qa ?_ _ | refine qb ?_ | refine qc ?_ _));refine qy ?_ Qy.out _;(with_reducible repeat (first | refine qa ?_ _ | refine qb ?_ | refine qc ?_ _));refine qy ?_ Qy.out _;(with_reducible repeat (first | refine qa ?_ _ | refine qb ?_ | refine qc ?_ _));refine qy ?_ Q2.out _;(with_reducible repeat (first | refine qa ?_ _ | refine qb ?_ | refine qc ?_ _));refine qy ?_ Q2.out _;(with_reducible repeat (first | refine qa ?_ _ | refine qb ?_ | refine qc ?_ _));exact Qg.out⟩,⟨by (with_reducible repeat (first | refine qa ?_ _ | refine qb ?_ | refine qc ?_ _));refine qy ?_ Q5.out _;(with_reducible repeat (first | refine qa ?_ _ | refine qb ?_ | refine qc ?_ _));refine qy ?_ Q5.out _;(with_reducible repeat (first | refine qa ?_ _ | refine qb ?_ | refine qc ?_ _));refine qy ?_ Za.out _;(with_reducible repeat (first | refine qa ?_ _ | refine qb ?_ | refine qc ?_ _));refine qy ?_ Za.out _;(with_reducible repeat (first | refine qa ?_ _ | refine qb ?_ | refine qc ?_ _));exact Ql.out⟩,⟨by (with_reducible repeat (first | refine qa ?_ _ | refine qb ?_ | refine qc ?_ _));refine qy ?_ Q8.out _;(with_reducible repeat (first | refine qa ?_ _ | refine qb ?_ | refine qc ?_ _));refine qy ?_ Q8.out _;(with_reducible repeat (first | refine qa ?_ _ | refine qb ?_ | refine qc ?_ _));refine qy ?_ Q4.out _;(with_reducible repeat (first | refine qa ?_ _ | refine qb ?_ | refine qc ?_ _));refine qy ?_ Q4.out _;(with_reducible repeat (first | refine qa ?_ _ | refine qb ?_ | refine qc ?_ _));exact Qm.out⟩,⟨by (with_reducible repeat (first | refine qa ?_ _ | refine qb ?_ | refine qc ?_ _));refine qy ?_ Zd.out _;(with_reducible repeat (first | refine qa ?_ _ | refine qb ?_ | refine qc ?_ _));refine qy ?_ Zd.out _;(with_reducible repeat (first | refine qa ?_ _ | refine qb ?_ | refine qc ?_ _));refine blk_put (cs := #[.slice Xw Z4.length Xx,.int .i64 0]) ?_ 1 _ rfl;(with_reducible repeat (first | refine qa ?_ _ | refine qb ?_ | refine qc ?_ _));refine blk_put (cs := #[.slice none 0 0,.int .i64 0]) ?_ 0 _ rfl;(with_reducible repeat (first | refine qa ?_ _ | refine qb ?_ | refine qc ?_ _));exact Zb.out⟩,⟨by (with_reducible repeat (first | refine qa ?_ _ | refine qb ?_ | refine qc ?_ _));refine blk_put (cs := #[.string Z9,.int .i64 0]) ?_ 1 _ rfl;(with_reducible repeat (first | refine qa ?_ _ | refine qb ?_ | refine qc ?_ _));refine blk_put (cs := #[.string (⟨#[]⟩ : ByteArray),.int .i64 0]) ?_ 0 _ rfl;(with_reducible repeat (first | refine qa ?_ _ | refine qb ?_ | refine qc ?_ _));refine qy ?_ Zc.out _;(with_reducible repeat (first | refine qa ?_ _ | refine qb ?_ | refine qc ?_ _));refine qy ?_ Zc.out _;(with_reducible repeat (first | refine qa ?_ _ | refine qb ?_ | refine qc ?_ _));exact Q6.out⟩,⟨by repeat (first | (with_reducible first | exact HB.out | apply qe | apply qf | apply qg | refine qd ?_ Qt.out | refine qd ?_ Qu.out | refine qd ?_ Zg.out | refine qd ?_ Zj.out | refine qd ?_ Zt.out | refine qd ?_ Zu.out) | exact HB.out)⟩⟩
         ·rw [if_neg c71] at H
          have c71b0 : (Xr == X6) = false := beq_eq_false_iff_ne.mpr c71
          have c71b1 : (Xr != X6) = true := bne_iff_ne.mpr c71
          have H' := qs H
          clear H
          have Tc := Yb.out
          have Td := Xu.out
          have Te := Yc.out
          have Tf := Xv.out
          have Tg := Xn.out
          have Th := Xm.out
          have Ti := Q4.out
          have Tj := Zk.out
          have Tk := Q8.out
          have Tl := Zo.out
          have Da : w52.cell? ⟨Qe,0,none⟩ = some (.string Q7) := (qx Qm.out 0).trans rfl
          have Db : w52.cell? ⟨Qe,1,none⟩ = some (.int .i64 Q9) := (qx Qm.out 1).trans rfl
          have Dc := qz Qm.out 0
          have Dd := qz Qm.out 1
          have Tm := Zm.out
          have Tn := Qx.out
          have To := Zn.out
          have Tp := Qy.out
          have Tq := Zl.out
          have Tr := Q5.out
          have Ts := Zc.out
          have Tt := Zd.out
          have De : w52.cell? ⟨Qh,0,none⟩ = some (.string (⟨#[]⟩ : ByteArray)) := (qx Q6.out 0).trans rfl
          have Df : w52.cell? ⟨Qh,1,none⟩ = some (.int .i64 0) := (qx Q6.out 1).trans rfl
          have Dg := qz Q6.out 0
          have Dh := qz Q6.out 1
          go_wp2
          go_meet
          case rel => exact ⟨_,(true),(by first | rfl | (simp;done) | (simp [*];done)),H',⟨by first | omega | exact zn _⟩,⟨by (with_reducible repeat (first | apply qh | apply qi | apply qj));exact qp (qn (p := ⟨Qh,1,none⟩) (qn (p := ⟨Qh,0,none⟩) (qn (p := ⟨Qi,1,none⟩) (qn (p := ⟨Qi,0,none⟩) (qp (qp Qo.out (fun k_ hk => (⟨hk,hk.2.2.2.2.2.1⟩ : _ ∧ k_ ≠ Qi))) (fun k_ hk => (⟨hk,hk.1.2.2.2.2.2.2⟩ : _ ∧ k_ ≠ Qh))) (fun _ hk => hk.1.2) (.slice Xw Z4.length Xx)) (fun _ hk => hk.1.2) (.int .i64 Z7)) (fun _ hk => hk.2) (.string Z9)) (fun _ hk => hk.2) (.int .i64 Xi)) (fun _ hk => ⟨hk.1.1.2.1,⟨hk.1.1.2.2.1,⟨hk.1.1.2.2.2.1,⟨hk.1.1.2.2.2.2.1,⟨hk.1.1.2.2.2.2.2.1,hk.1.1.2.2.2.2.2.2⟩⟩⟩⟩⟩)⟩,⟨by (with_reducible repeat (first | apply qh | apply qi | apply qj));exact qp (qn (p := ⟨Qh,1,none⟩) (qn (p := ⟨Qh,0,none⟩) (qn (p := ⟨Qi,1,none⟩) (qn (p := ⟨Qi,0,none⟩) (qp (qp Qw.out (fun k_ hk => (⟨hk,hk.2.2.2.2.2.1⟩ : _ ∧ k_ ≠ Qi))) (fun k_ hk => (⟨hk,hk.1.2.2.2.2.2.2⟩ : _ ∧ k_ ≠ Qh))) (fun _ hk => hk.1.2) (.slice Xw Z4.length Xx)) (fun _ hk => hk.1.2) (.int .i64 Z7)) (fun _ hk => hk.2) (.string Z9)) (fun _ hk => hk.2) (.int .i64 Xi)) (fun _ hk => ⟨hk.1.1.2.1,⟨hk.1.1.2.2.1,⟨hk.1.1.2.2.2.1,⟨hk.1.1.2.2.2.2.1,⟨hk.1.1.2.2.2.2.2.1,hk.1.1.2.2.2.2.2.2⟩⟩⟩⟩⟩)⟩,⟨by (with_reducible repeat (first | apply qh | apply qi | apply qj));exact qp (qn (p := ⟨Qh,1,none⟩) (qn (p := ⟨Qh,0,none⟩) (qn (p := ⟨Qi,1,none⟩) (qn (p := ⟨Qi,0,none⟩) (qp (qp Z3.out (fun k_ hk => (⟨hk,hk.2.2.2.2.2.1⟩ : _ ∧ k_ ≠ Qi))) (fun k_ hk => (⟨hk,hk.1.2.2.2.2.2.2⟩ : _ ∧ k_ ≠ Qh))) (fun _ hk => hk.1.2) (.slice Xw Z4.length Xx)) (fun _ hk => hk.1.2) (.int .i64 Z7)) (fun _ hk => hk.2) (.string Z9)) (fun _ hk => hk.2) (.int .i64 Xi)) (fun _ hk => ⟨hk.1.1.2.1,⟨hk.1.1.2.2.1,⟨hk.1.1.2.2.2.1,⟨hk.1.1.2.2.2.2.1,⟨hk.1.1.2.2.2.2.2.1,hk.1.1.2.2.2.2.2.2⟩⟩⟩⟩⟩)⟩,⟨by (with_reducible repeat (first | refine qa ?_ _ | refine qb ?_ | refine qc ?_ _));refine qy ?_ Qx.out _;(with_reducible repeat (first | refine qa ?_ _ | refine qb ?_ | refine qc ?_ _));refine qy ?_ Qx.out _;(with_reducible repeat (first | refine qa ?_ _ | refine qb ?_ | refine qc ?_ _));refine qy ?_ Qz.out _;(with_reducible repeat (first | refine qa ?_ _ | refine qb ?_ | refine qc ?_ _));refine qy ?_ Qz.out _;(with_reducible repeat (first | refine qa ?_ _ | refine qb ?_ | refine qc ?_ _));exact Qc.out⟩,⟨by (with_reducible repeat (first | refine qa ?_ _ | refine qb ?_ | refine qc ?_ _));refine qy ?_ Qy.out _;(with_reducible repeat (first | refine qa ?_ _ | refine qb ?_ | refine qc ?_ _));refine qy ?_ Qy.out _;(with_reducible repeat (first | refine qa ?_ _ | refine qb ?_ | refine qc ?_ _));refine qy ?_ Q2.out _;(with_reducible repeat (first | refine qa ?_ _ | refine qb ?_ | refine qc ?_ _));refine qy ?_ Q2.out _;(with_reducible repeat (first | refine qa ?_ _ | refine qb ?_ | refine qc ?_ _));exact Qg.out⟩,⟨by (with_reducible repeat (first | refine qa ?_ _ | refine qb ?_ | refine qc ?_ _));refine qy ?_ Q5.out _;(with_reducible repeat (first | refine qa ?_ _ | refine qb ?_ | refine qc ?_ _));refine qy ?_ Q5.out _;(with_reducible repeat (first | refine qa ?_ _ | refine qb ?_ | refine qc ?_ _));refine qy ?_ Za.out _;(with_reducible repeat (first | refine qa ?_ _ | refine qb ?_ | refine qc ?_ _));refine qy ?_ Za.out _;(with_reducible repeat (first | refine qa ?_ _ | refine qb ?_ | refine qc ?_ _));exact Ql.out⟩,⟨by (with_reducible repeat (first | refine qa ?_ _ | refine qb ?_ | refine qc ?_ _));refine qy ?_ Q8.out _;(with_reducible repeat (first | refine qa ?_ _ | refine qb ?_ | refine qc ?_ _));refine qy ?_ Q8.out _;(with_reducible repeat (first | refine qa ?_ _ | refine qb ?_ | refine qc ?_ _));refine qy ?_ Q4.out _;(with_reducible repeat (first | refine qa ?_ _ | refine qb ?_ | refine qc ?_ _));refine qy ?_ Q4.out _;(with_reducible repeat (first | refine qa ?_ _ | refine qb ?_ | refine qc ?_ _));exact Qm.out⟩,⟨by (with_reducible repeat (first | refine qa ?_ _ | refine qb ?_ | refine qc ?_ _));refine qy ?_ Zd.out _;(with_reducible repeat (first | refine qa ?_ _ | refine qb ?_ | refine qc ?_ _));refine qy ?_ Zd.out _;(with_reducible repeat (first | refine qa ?_ _ | refine qb ?_ | refine qc ?_ _));refine blk_put (cs := #[.slice Xw Z4.length Xx,.int .i64 0]) ?_ 1 _ rfl;(with_reducible repeat (first | refine qa ?_ _ | refine qb ?_ | refine qc ?_ _));refine blk_put (cs := #[.slice none 0 0,.int .i64 0]) ?_ 0 _ rfl;(with_reducible repeat (first | refine qa ?_ _ | refine qb ?_ | refine qc ?_ _));exact Zb.out⟩,⟨by (with_reducible repeat (first | refine qa ?_ _ | refine qb ?_ | refine qc ?_ _));refine blk_put (cs := #[.string Z9,.int .i64 0]) ?_ 1 _ rfl;(with_reducible repeat (first | refine qa ?_ _ | refine qb ?_ | refine qc ?_ _));refine blk_put (cs := #[.string (⟨#[]⟩ : ByteArray),.int .i64 0]) ?_ 0 _ rfl;(with_reducible repeat (first | refine qa ?_ _ | refine qb ?_ | refine qc ?_ _));refine qy ?_ Zc.out _;(with_reducible repeat (first | refine qa ?_ _ | refine qb ?_ | refine qc ?_ _));refine qy ?_ Zc.out _;(with_reducible repeat (first | refine qa ?_ _ | refine qb ?_ | refine qc ?_ _));exact Q6.out⟩,⟨by repeat (first | (with_reducible first | exact HB.out | apply qe | apply qf | apply qg | refine qd ?_ Qt.out | refine qd ?_ Qu.out | refine qd ?_ Zg.out | refine qd ?_ Zj.out | refine qd ?_ Zt.out | refine qd ?_ Zu.out) | exact HB.out)⟩⟩
       ·rw [if_neg c58] at H
        have c58b0 : (Xk == X5) = false := beq_eq_false_iff_ne.mpr c58
        have c58b1 : (Xk != X5) = true := bne_iff_ne.mpr c58
        (first | rw [c58b0] | (simp only [i64_w,i32_w];rw [c58b0]) | skip)
        have H' := qs H
        clear H
        go_wp2
        go_meet
        case rel => exact ⟨_,(true),(by first | rfl | (simp;done) | (simp [*];done)),H',⟨by first | omega | exact zn _⟩,⟨by (with_reducible repeat (first | apply qh | apply qi | apply qj));exact qp (qn (p := ⟨Qh,1,none⟩) (qn (p := ⟨Qh,0,none⟩) (qn (p := ⟨Qi,1,none⟩) (qn (p := ⟨Qi,0,none⟩) (qp (qp Qo.out (fun k_ hk => (⟨hk,hk.2.2.2.2.2.1⟩ : _ ∧ k_ ≠ Qi))) (fun k_ hk => (⟨hk,hk.1.2.2.2.2.2.2⟩ : _ ∧ k_ ≠ Qh))) (fun _ hk => hk.1.2) (.slice Xw Z4.length Xx)) (fun _ hk => hk.1.2) (.int .i64 Z7)) (fun _ hk => hk.2) (.string Z9)) (fun _ hk => hk.2) (.int .i64 Xi)) (fun _ hk => ⟨hk.1.1.2.1,⟨hk.1.1.2.2.1,⟨hk.1.1.2.2.2.1,⟨hk.1.1.2.2.2.2.1,⟨hk.1.1.2.2.2.2.2.1,hk.1.1.2.2.2.2.2.2⟩⟩⟩⟩⟩)⟩,⟨by (with_reducible repeat (first | apply qh | apply qi | apply qj));exact qp (qn (p := ⟨Qh,1,none⟩) (qn (p := ⟨Qh,0,none⟩) (qn (p := ⟨Qi,1,none⟩) (qn (p := ⟨Qi,0,none⟩) (qp (qp Qw.out (fun k_ hk => (⟨hk,hk.2.2.2.2.2.1⟩ : _ ∧ k_ ≠ Qi))) (fun k_ hk => (⟨hk,hk.1.2.2.2.2.2.2⟩ : _ ∧ k_ ≠ Qh))) (fun _ hk => hk.1.2) (.slice Xw Z4.length Xx)) (fun _ hk => hk.1.2) (.int .i64 Z7)) (fun _ hk => hk.2) (.string Z9)) (fun _ hk => hk.2) (.int .i64 Xi)) (fun _ hk => ⟨hk.1.1.2.1,⟨hk.1.1.2.2.1,⟨hk.1.1.2.2.2.1,⟨hk.1.1.2.2.2.2.1,⟨hk.1.1.2.2.2.2.2.1,hk.1.1.2.2.2.2.2.2⟩⟩⟩⟩⟩)⟩,⟨by (with_reducible repeat (first | apply qh | apply qi | apply qj));exact qp (qn (p := ⟨Qh,1,none⟩) (qn (p := ⟨Qh,0,none⟩) (qn (p := ⟨Qi,1,none⟩) (qn (p := ⟨Qi,0,none⟩) (qp (qp Z3.out (fun k_ hk => (⟨hk,hk.2.2.2.2.2.1⟩ : _ ∧ k_ ≠ Qi))) (fun k_ hk => (⟨hk,hk.1.2.2.2.2.2.2⟩ : _ ∧ k_ ≠ Qh))) (fun _ hk => hk.1.2) (.slice Xw Z4.length Xx)) (fun _ hk => hk.1.2) (.int .i64 Z7)) (fun _ hk => hk.2) (.string Z9)) (fun _ hk => hk.2) (.int .i64 Xi)) (fun _ hk => ⟨hk.1.1.2.1,⟨hk.1.1.2.2.1,⟨hk.1.1.2.2.2.1,⟨hk.1.1.2.2.2.2.1,⟨hk.1.1.2.2.2.2.2.1,hk.1.1.2.2.2.2.2.2⟩⟩⟩⟩⟩)⟩,⟨by (with_reducible repeat (first | refine qa ?_ _ | refine qb ?_ | refine qc ?_ _));refine qy ?_ Qx.out _;(with_reducible repeat (first | refine qa ?_ _ | refine qb ?_ | refine qc ?_ _));refine qy ?_ Qx.out _;(with_reducible repeat (first | refine qa ?_ _ | refine qb ?_ | refine qc ?_ _));refine qy ?_ Qz.out _;(with_reducible repeat (first | refine qa ?_ _ | refine qb ?_ | refine qc ?_ _));refine qy ?_ Qz.out _;(with_reducible repeat (first | refine qa ?_ _ | refine qb ?_ | refine qc ?_ _));exact Qc.out⟩,⟨by (with_reducible repeat (first | refine qa ?_ _ | refine qb ?_ | refine qc ?_ _));refine qy ?_ Qy.out _;(with_reducible repeat (first | refine qa ?_ _ | refine qb ?_ | refine qc ?_ _));refine qy ?_ Qy.out _;(with_reducible repeat (first | refine qa ?_ _ | refine qb ?_ | refine qc ?_ _));refine qy ?_ Q2.out _;(with_reducible repeat (first | refine qa ?_ _ | refine qb ?_ | refine qc ?_ _));refine qy ?_ Q2.out _;(with_reducible repeat (first | refine qa ?_ _ | refine qb ?_ | refine qc ?_ _));exact Qg.out⟩,⟨by (with_reducible repeat (first | refine qa ?_ _ | refine qb ?_ | refine qc ?_ _));refine qy ?_ Q5.out _;(with_reducible repeat (first | refine qa ?_ _ | refine qb ?_ | refine qc ?_ _));refine qy ?_ Q5.out _;(with_reducible repeat (first | refine qa ?_ _ | refine qb ?_ | refine qc ?_ _));refine qy ?_ Za.out _;(with_reducible repeat (first | refine qa ?_ _ | refine qb ?_ | refine qc ?_ _));refine qy ?_ Za.out _;(with_reducible repeat (first | refine qa ?_ _ | refine qb ?_ | refine qc ?_ _));exact Ql.out⟩,⟨by (with_reducible repeat (first | refine qa ?_ _ | refine qb ?_ | refine qc ?_ _));refine qy ?_ Q8.out _;(with_reducible repeat (first | refine qa ?_ _ | refine qb ?_ | refine qc ?_ _));refine qy ?_ Q8.out _;(with_reducible repeat (first | refine qa ?_ _ | refine qb ?_ | refine qc ?_ _));refine qy ?_ Q4.out _;(with_reducible repeat (first | refine qa ?_ _ | refine qb ?_ | refine qc ?_ _));refine qy ?_ Q4.out _;(with_reducible repeat (first | refine qa ?_ _ | refine qb ?_ | refine qc ?_ _));exact Qm.out⟩,⟨by (with_reducible repeat (first | refine qa ?_ _ | refine qb ?_ | refine qc ?_ _));refine qy ?_ Zd.out _;(with_reducible repeat (first | refine qa ?_ _ | refine qb ?_ | refine qc ?_ _));refine qy ?_ Zd.out _;(with_reducible repeat (first | refine qa ?_ _ | refine qb ?_ | refine qc ?_ _));refine blk_put (cs := #[.slice Xw Z4.length Xx,.int .i64 0]) ?_ 1 _ rfl;(with_reducible repeat (first | refine qa ?_ _ | refine qb ?_ | refine qc ?_ _));refine blk_put (cs := #[.slice none 0 0,.int .i64 0]) ?_ 0 _ rfl;(with_reducible repeat (first | refine qa ?_ _ | refine qb ?_ | refine qc ?_ _));exact Zb.out⟩,⟨by (with_reducible repeat (first | refine qa ?_ _ | refine qb ?_ | refine qc ?_ _));refine blk_put (cs := #[.string Z9,.int .i64 0]) ?_ 1 _ rfl;(with_reducible repeat (first | refine qa ?_ _ | refine qb ?_ | refine qc ?_ _));refine blk_put (cs := #[.string (⟨#[]⟩ : ByteArray),.int .i64 0]) ?_ 0 _ rfl;(with_reducible repeat (first | refine qa ?_ _ | refine qb ?_ | refine qc ?_ _));refine qy ?_ Zc.out _;(with_reducible repeat (first | refine qa ?_ _ | refine qb ?_ | refine qc ?_ _));refine qy ?_ Zc.out _;(with_reducible repeat (first | refine qa ?_ _ | refine qb ?_ | refine qc ?_ _));exact Q6.out⟩,⟨by repeat (first | (with_reducible first | exact HB.out | apply qe | apply qf | apply qg | refine qd ?_ Qt.out | refine qd ?_ Qu.out | refine qd ?_ Zg.out | refine qd ?_ Zj.out | refine qd ?_ Zt.out | refine qd ?_ Zu.out) | exact HB.out)⟩⟩
      case rest =>
       clear D2
       try clear p2
       try clear c4
       try clear c5
       try clear c6
       try clear c7
       try clear c8
       try clear c9
       try clear c48
       try clear c58
       try clear c58b0
       try clear c58b1
       try clear c59
       try clear c59b0
       try clear c60
       try clear c61
       try clear c62
       try clear c63
       try clear c64
       try clear c66
       try clear c67
       try clear c68
       try clear c69
       try clear c71
       try clear c71b0
       try clear c71b1
       try clear c73
       try clear c74
       try clear c75
       try clear c76
       try clear c77
       try clear c79
       try clear c80
       try clear c81
       try clear c82
       try clear c84
       try clear c85
       try clear c86
       try clear c89
       try clear c90
       try clear c91
       try clear c92
       try clear c93
       try clear c95
       try clear c96
       try clear c97
       try clear c98
       try clear Vq
       try clear Vr
       try clear Vu
       try clear Vv
       try clear Vy
       try clear Vz
       try clear V2
       try clear V3
       try clear V6
       try clear V7
       try clear Da
       try clear Db
       try clear De
       try clear Df
       try clear Vs
       try clear Vt
       try clear Vw
       try clear Vx
       try clear V0
       try clear V1
       try clear V4
       try clear V5
       try clear V8
       try clear V9
       try clear Dc
       try clear Dd
       try clear Dg
       try clear Dh
       obtain ⟨kq,Y8,rfl,HA,Bc,Zx,Zq,Zy,Qc,Qg,Ql,Qm,Zb,Q6,HB⟩ := hcut
       cases kq with
       | zero => exact absurd HA.out (by simp [tattlelaw08_TurnStays.j0])
       | succ Gg =>
        have H := HA.out
        clear HA
        simp only [tattlelaw08_TurnStays.j0] at H
        by_cases Di : Y8 = true
        ·subst Di
         have H1 : (some false) = some r := by rw [if_pos rfl] at H;exact H
         clear H
         have H := H1
         clear H1
         exact absurd ((Option.some.inj H).trans hrt.out) (by decide)
        ·replace Di := Bool.eq_false_iff.mpr Di
         subst Di
         have H1 : (if Xr = 0 then ((turn_Check.f Qs Q0).bind fun Y2 => (if Y2 = 0 then ((turn_Check.f Z4 Z7).bind fun Yw => (if Yw = 0 then (if Q0 ≥ 1 then (if Q0 ≤ (Qs.length : Int) then (if 0 ≤ (wrap64 (Q0 - 1)) then (if (wrap64 (Q0 - 1)) < (Qs.length : Int) then (if (rd Qs (wrap64 (Q0 - 1))) = Xk then ((tattlelaw08_awakeT.f).bind fun Y0 => (some Y0)) else (some false)) else (none)) else (none)) else (some false)) else (some false)) else (some false))) else (some false))) else ((tattleref08_Same.f Gg Qs Q0 Qj Qk).bind fun Jm => (if Jm = true then (if (Q7.toList == Qp.toList && (Q9 == Qq)) = true then ((tattlelaw08_awakeT.f).bind fun Y6 => (some Y6)) else (some false)) else (some false)))) = some r := by rw [if_neg (show ¬ (false = true) by decide)] at H;exact H
         clear H
         have H := H1
         clear H1
         by_cases Jg : Xr = 0
         ·rw [if_pos Jg] at H
          have c101b0 : (Xr == 0) = true := beq_iff_eq.mpr Jg
          have c101b1 : (Xr != 0) = false := bne_eq_false_iff_eq.mpr Jg
          clear Jg
          replace H := Option.bind_eq_some_iff.mp H
          obtain ⟨Y2,Dv,H⟩ := H
          replace H : (if Y2 = 0 then ((turn_Check.f Z4 Z7).bind fun Yw => (if Yw = 0 then (if Q0 ≥ 1 then (if Q0 ≤ (Qs.length : Int) then (if 0 ≤ (wrap64 (Q0 - 1)) then (if (wrap64 (Q0 - 1)) < (Qs.length : Int) then (if (rd Qs (wrap64 (Q0 - 1))) = Xk then ((tattlelaw08_awakeT.f).bind fun Y0 => (some Y0)) else (some false)) else (none)) else (none)) else (some false)) else (some false)) else (some false))) else (some false)) = some r := H
          have Gh := qs Dv
          clear Dv
          by_cases Jh : Y2 = 0
          ·rw [if_pos Jh] at H
           have c103b0 : (Y2 == 0) = true := beq_iff_eq.mpr Jh
           have c103b1 : (Y2 != 0) = false := bne_eq_false_iff_eq.mpr Jh
           clear Jh
           replace H := Option.bind_eq_some_iff.mp H
           obtain ⟨Yw,Dw,H⟩ := H
           replace H : (if Yw = 0 then (if Q0 ≥ 1 then (if Q0 ≤ (Qs.length : Int) then (if 0 ≤ (wrap64 (Q0 - 1)) then (if (wrap64 (Q0 - 1)) < (Qs.length : Int) then (if (rd Qs (wrap64 (Q0 - 1))) = Xk then ((tattlelaw08_awakeT.f).bind fun Y0 => (some Y0)) else (some false)) else (none)) else (none)) else (some false)) else (some false)) else (some false)) = some r := H
           have Gi := qs Dw
           clear Dw
           by_cases Ji : Yw = 0
           ·rw [if_pos Ji] at H
            have c105b0 : (Yw == 0) = true := beq_iff_eq.mpr Ji
            have c105b1 : (Yw != 0) = false := bne_eq_false_iff_eq.mpr Ji
            clear Ji
            by_cases Jn : Q0 ≥ 1
            ·rw [if_pos Jn] at H
             have c106b0 : decide (1 ≤ Q0) = true := decide_eq_true Jn
             clear Jn
             by_cases Jo : Q0 ≤ (Qs.length : Int)
             ·rw [if_pos Jo] at H
              have c107b0 : decide (Q0 ≤ (Qs.length : Int)) = true := decide_eq_true Jo
              clear Jo
              obtain ⟨Xz,Yz⟩ : ∃ j_ : Int,(wrap64 (Q0 - 1)) = j_ := ⟨_,rfl⟩
              replace H : (if 0 ≤ (Xz) then (if (Xz) < (Qs.length : Int) then (if (rd Qs (Xz)) = Xk then ((tattlelaw08_awakeT.f).bind fun Y0 => (some Y0)) else (some false)) else (none)) else (none)) = some r := by first | (rw [Yz] at H;exact H) | (simp only [Yz] at H ⊢;exact H)
              (try rw [Yz] at Gh)
              (try rw [Yz] at Gi)
              have hji108w : (IntKind.i64.wrap (Q0 - 1)) = Xz := (i64_w _).trans Yz
              by_cases Dj : 0 ≤ (Xz)
              ·rw [if_pos Dj] at H
               have c109b0 : decide (0 ≤ (Xz)) = true := decide_eq_true Dj
               clear Dj
               by_cases Dk : (Xz) < (Qs.length : Int)
               ·rw [if_pos Dk] at H
                have c110b0 : decide ((Xz) < (Qs.length : Int)) = true := decide_eq_true Dk
                clear Dk
                by_cases Jj : (rd Qs (Xz)) = Xk
                ·rw [if_pos Jj] at H
                 have c111b0 : ((rd Qs (Xz)) == Xk) = true := beq_iff_eq.mpr Jj
                 have c111b1 : ((rd Qs (Xz)) != Xk) = false := bne_eq_false_iff_eq.mpr Jj
                 clear Jj
                 replace H := Option.bind_eq_some_iff.mp H
                 obtain ⟨Y0,Dx,H⟩ := H
                 replace H : (some Y0) = some r := H
                 have Lz := qs Dx
                 clear Dx
                 obtain rfl := Option.some.inj H
                 have L0 := Yt.out
                 have L1 := X0.out
                 have L2 := Yx.out
                 have L3 := Ya.out
                 have L4 := Xm.out
                 have L5 := Xn.out
                 have L6 := Za.out
                 have L7 := Zs.out
                 have L8 := Q5.out
                 have L9 := Zl.out
                 have Gj : wc.cell? ⟨Qd,0,none⟩ = some (.slice Zi Qs.length Zh) := (qx Ql.out 0).trans rfl
                 have Gk : wc.cell? ⟨Qd,1,none⟩ = some (.int .i64 Q0) := (qx Ql.out 1).trans rfl
                 have Gl := qz Ql.out 0
                 have Gm := qz Ql.out 1
                 go_wp2_with (first | ((with_reducible refine zd (f := 29) rfl ?_);refine zs (some 89) rfl rfl Try.func29 (by kernel_rfl) rfl #[.agg #[.slice Zi Qs.length Zh,.int .i64 Q0]] rfl (by (try simp only [zi,zj,zk]);first | done | rfl | (simp only [zg,zh];rfl)) ?_;(with_reducible refine (turn_Check.calls _ _ Qs Q0 Y2 _ ?Xa ?Xl Gh.out).mono ?_);(case Xa => repeat (first | exact (Kd.V_reads' Zq.out).2.2 | (with_reducible refine zp ?_ _) | (with_reducible refine zq ?_ _) | (with_reducible refine zr ?_)));(case Xl => exact (Kd.V_reads' Zq.out).2.1);rintro e Gn ⟨rfl,hb⟩;refine ⟨_,rfl,?_⟩;have n0_ := qs (qq (by (with_reducible repeat (first | apply qh | apply qi | apply qj));exact Zx.out) hb);have n1_ := qs (qq (by (with_reducible repeat (first | apply qh | apply qi | apply qj));exact Zq.out) hb);have n2_ := qs (qq (by (with_reducible repeat (first | apply qh | apply qi | apply qj));exact Zy.out) hb);have n3_ := qs (qw (g := Qa) (o := .cells #[.slice Q3 Qj.length Q1,.int .i64 Qk] 49 (0,0)) (by (with_reducible repeat (first | refine qa ?_ _ | refine qb ?_ | refine qc ?_ _));exact Qc.out) hb);have n4_ := qs (qw (g := Qb) (o := .cells #[.string Qp,.int .i64 Qq] 23 (0,0)) (by (with_reducible repeat (first | refine qa ?_ _ | refine qb ?_ | refine qc ?_ _));exact Qg.out) hb);have n5_ := qs (qw (g := Qd) (o := .cells #[.slice Zi Qs.length Zh,.int .i64 Q0] 49 (0,0)) (by (with_reducible repeat (first | refine qa ?_ _ | refine qb ?_ | refine qc ?_ _));exact Ql.out) hb);have n6_ := qs (qw (g := Qe) (o := .cells #[.string Q7,.int .i64 Q9] 23 (0,0)) (by (with_reducible repeat (first | refine qa ?_ _ | refine qb ?_ | refine qc ?_ _));exact Qm.out) hb);have n7_ := qs (qw (g := Qi) (o := .cells #[.slice Xw Z4.length Xx,.int .i64 Z7] 49 (0,0)) (by (with_reducible repeat (first | refine qa ?_ _ | refine qb ?_ | refine qc ?_ _));exact Zb.out) hb);have n8_ := qs (qw (g := Qh) (o := .cells #[.string Z9,.int .i64 Xi] 23 (0,0)) (by (with_reducible repeat (first | refine qa ?_ _ | refine qb ?_ | refine qc ?_ _));exact Q6.out) hb);have n9_ := qs (zf (by repeat (first | (with_reducible first | exact HB.out | apply qe | apply qf | apply qg | refine qd ?_ Qt.out | refine qd ?_ Qu.out | refine qd ?_ Zg.out | refine qd ?_ Zj.out | refine qd ?_ Zt.out | refine qd ?_ Zu.out) | exact HB.out)) hb);clear Zx;clear Zq;clear Zy;clear Qc;clear Qg;clear Ql;clear Qm;clear Zb;clear Q6;clear HB;have Zx := n0_;have Zq := n1_;have Zy := n2_;have Qc := n3_;have Qg := n4_;have Ql := n5_;have Qm := n6_;have Zb := n7_;have Q6 := n8_;have HB := n9_;clear n0_ n1_ n2_ n3_ n4_ n5_ n6_ n7_ n8_ n9_;(try clear hb);(try clear hb2);(try clear hk);(try clear hi);have Pa := Zp.out;have Pb := Qz.out;have Pc := Zr.out;have Pd := Q2.out;have Pe := Zk.out;have Pf := Q4.out;have Pg := Zd.out;have Ph := Zc.out;have Gp : Gn.cell? ⟨Qi,0,none⟩ = some (.slice Xw Z4.length Xx) := (qx Zb.out 0).trans rfl;have Gq : Gn.cell? ⟨Qi,1,none⟩ = some (.int .i64 Z7) := (qx Zb.out 1).trans rfl;have Gr := qz Zb.out 0;have Gs := qz Zb.out 1) | (go_at_call 29;(with_reducible refine (turn_Check.calls _ _ Z4 Z7 Yw _ ?Xa ?Xl Gi.out).mono ?_);(case Xa => repeat (first | exact (Kd.V_reads' Zy.out).2.2 | (with_reducible refine zp ?_ _) | (with_reducible refine zq ?_ _) | (with_reducible refine zr ?_)));(case Xl => exact (Kd.V_reads' Zy.out).2.1);rintro e Gt ⟨rfl,hb⟩;have n0_ := qs (qq (by (with_reducible repeat (first | apply qh | apply qi | apply qj));exact Zx.out) hb);have n1_ := qs (qq (by (with_reducible repeat (first | apply qh | apply qi | apply qj));exact Zq.out) hb);have n2_ := qs (qq (by (with_reducible repeat (first | apply qh | apply qi | apply qj));exact Zy.out) hb);have n3_ := qs (qw (g := Qa) (o := .cells #[.slice Q3 Qj.length Q1,.int .i64 Qk] 49 (0,0)) (by (with_reducible repeat (first | refine qa ?_ _ | refine qb ?_ | refine qc ?_ _));exact Qc.out) hb);have n4_ := qs (qw (g := Qb) (o := .cells #[.string Qp,.int .i64 Qq] 23 (0,0)) (by (with_reducible repeat (first | refine qa ?_ _ | refine qb ?_ | refine qc ?_ _));exact Qg.out) hb);have n5_ := qs (qw (g := Qd) (o := .cells #[.slice Zi Qs.length Zh,.int .i64 Q0] 49 (0,0)) (by (with_reducible repeat (first | refine qa ?_ _ | refine qb ?_ | refine qc ?_ _));exact Ql.out) hb);have n6_ := qs (qw (g := Qe) (o := .cells #[.string Q7,.int .i64 Q9] 23 (0,0)) (by (with_reducible repeat (first | refine qa ?_ _ | refine qb ?_ | refine qc ?_ _));exact Qm.out) hb);have n7_ := qs (qw (g := Qi) (o := .cells #[.slice Xw Z4.length Xx,.int .i64 Z7] 49 (0,0)) (by (with_reducible repeat (first | refine qa ?_ _ | refine qb ?_ | refine qc ?_ _));exact Zb.out) hb);have n8_ := qs (qw (g := Qh) (o := .cells #[.string Z9,.int .i64 Xi] 23 (0,0)) (by (with_reducible repeat (first | refine qa ?_ _ | refine qb ?_ | refine qc ?_ _));exact Q6.out) hb);have n9_ := qs (zf (by repeat (first | (with_reducible first | exact HB.out | apply qe | apply qf | apply qg | refine qd ?_ Qt.out | refine qd ?_ Qu.out | refine qd ?_ Zg.out | refine qd ?_ Zj.out | refine qd ?_ Zt.out | refine qd ?_ Zu.out) | exact HB.out)) hb);clear Zx;clear Zq;clear Zy;clear Qc;clear Qg;clear Ql;clear Qm;clear Zb;clear Q6;clear HB;have Zx := n0_;have Zq := n1_;have Zy := n2_;have Qc := n3_;have Qg := n4_;have Ql := n5_;have Qm := n6_;have Zb := n7_;have Q6 := n8_;have HB := n9_;clear n0_ n1_ n2_ n3_ n4_ n5_ n6_ n7_ n8_ n9_;(try clear hb);(try clear hb2);(try clear hk);(try clear hi);have Gu : Gt.cell? ⟨Qd,0,none⟩ = some (.slice Zi Qs.length Zh) := (qx Ql.out 0).trans rfl;have Gv : Gt.cell? ⟨Qd,1,none⟩ = some (.int .i64 Q0) := (qx Ql.out 1).trans rfl;have Gw := qz Ql.out 0;have Gx := qz Ql.out 1;have D4 : 0 ≤ ((Xz) : Int) := of_decide_eq_true (by first | (with_reducible assumption) | assumption);have D5 : (Xz) < (Qs.length : Int) := of_decide_eq_true (by first | (with_reducible assumption) | assumption);obtain ⟨Gy,Pi,Ln⟩ := Kd.at_int (Kd.V_reads' Zq.out).2.2 (Xz) D4 D5;cases Pi;replace D4 := eq_true D4;replace D5 := eq_true D5) | (go_at_call 30;(with_reducible refine (tattlelaw08_awakeT.calls  Y0 _ Lz.out).mono ?_);rintro e Bd ⟨rfl,hb⟩;have n0_ := qs (qq (by (with_reducible repeat (first | apply qh | apply qi | apply qj));exact Zx.out) hb);have n1_ := qs (qq (by (with_reducible repeat (first | apply qh | apply qi | apply qj));exact Zq.out) hb);have n2_ := qs (qq (by (with_reducible repeat (first | apply qh | apply qi | apply qj));exact Zy.out) hb);have n3_ := qs (qw (g := Qa) (o := .cells #[.slice Q3 Qj.length Q1,.int .i64 Qk] 49 (0,0)) (by (with_reducible repeat (first | refine qa ?_ _ | refine qb ?_ | refine qc ?_ _));exact Qc.out) hb);have n4_ := qs (qw (g := Qb) (o := .cells #[.string Qp,.int .i64 Qq] 23 (0,0)) (by (with_reducible repeat (first | refine qa ?_ _ | refine qb ?_ | refine qc ?_ _));exact Qg.out) hb);have n5_ := qs (qw (g := Qd) (o := .cells #[.slice (some Gy) Qs.length Zh,.int .i64 Q0] 49 (0,0)) (by (with_reducible repeat (first | refine qa ?_ _ | refine qb ?_ | refine qc ?_ _));exact Ql.out) hb);have n6_ := qs (qw (g := Qe) (o := .cells #[.string Q7,.int .i64 Q9] 23 (0,0)) (by (with_reducible repeat (first | refine qa ?_ _ | refine qb ?_ | refine qc ?_ _));exact Qm.out) hb);have n7_ := qs (qw (g := Qi) (o := .cells #[.slice Xw Z4.length Xx,.int .i64 Z7] 49 (0,0)) (by (with_reducible repeat (first | refine qa ?_ _ | refine qb ?_ | refine qc ?_ _));exact Zb.out) hb);have n8_ := qs (qw (g := Qh) (o := .cells #[.string Z9,.int .i64 Xi] 23 (0,0)) (by (with_reducible repeat (first | refine qa ?_ _ | refine qb ?_ | refine qc ?_ _));exact Q6.out) hb);have n9_ := qs (zf (by repeat (first | (with_reducible first | exact HB.out | apply qe | apply qf | apply qg | refine qd ?_ Qt.out | refine qd ?_ Qu.out | refine qd ?_ Zg.out | refine qd ?_ Zj.out | refine qd ?_ Zt.out | refine qd ?_ Zu.out) | exact HB.out)) hb);clear Zx;clear Zq;clear Zy;clear Qc;clear Qg;clear Ql;clear Qm;clear Zb;clear Q6;clear HB;have Zx := n0_;have Zq := n1_;have Zy := n2_;have Qc := n3_;have Qg := n4_;have Ql := n5_;have Qm := n6_;have Zb := n7_;have Q6 := n8_;have HB := n9_;clear n0_ n1_ n2_ n3_ n4_ n5_ n6_ n7_ n8_ n9_;(try clear hb);(try clear hb2);(try clear hk);(try clear hi)))
                 go_ret
                 exact ⟨by first | rfl | (simp [errW_none,errW_some] <;> rfl) | (simp only [← Yz];first | rfl | (simp [errW_none,errW_some] <;> rfl)) | (simp [*,errW_none,errW_some] <;> rfl),by repeat (first | (with_reducible first | exact HB.out | apply qe | apply qf | apply qg | refine qd ?_ Qt.out | refine qd ?_ Qu.out | refine qd ?_ Zg.out | refine qd ?_ Zj.out | refine qd ?_ Zt.out | refine qd ?_ Zu.out) | exact HB.out)⟩
                ·rw [if_neg Jj] at H
                 have c111b0 : ((rd Qs (Xz)) == Xk) = false := beq_eq_false_iff_ne.mpr Jj
                 have c111b1 : ((rd Qs (Xz)) != Xk) = true := bne_iff_ne.mpr Jj
                 exact absurd ((Option.some.inj H).trans hrt.out) (by decide)
               ·rw [if_neg Dk] at H
                exact absurd H (by simp)
              ·rw [if_neg Dj] at H
               exact absurd H (by simp)
             ·rw [if_neg Jo] at H
              have c107b0 : decide (Q0 ≤ (Qs.length : Int)) = false := decide_eq_false Jo
              clear Jo
              exact absurd ((Option.some.inj H).trans hrt.out) (by decide)
            ·rw [if_neg Jn] at H
             have c106b0 : decide (1 ≤ Q0) = false := decide_eq_false Jn
             clear Jn
             exact absurd ((Option.some.inj H).trans hrt.out) (by decide)
           ·rw [if_neg Ji] at H
            have c105b0 : (Yw == 0) = false := beq_eq_false_iff_ne.mpr Ji
            have c105b1 : (Yw != 0) = true := bne_iff_ne.mpr Ji
            exact absurd ((Option.some.inj H).trans hrt.out) (by decide)
          ·rw [if_neg Jh] at H
           have c103b0 : (Y2 == 0) = false := beq_eq_false_iff_ne.mpr Jh
           have c103b1 : (Y2 != 0) = true := bne_iff_ne.mpr Jh
           exact absurd ((Option.some.inj H).trans hrt.out) (by decide)
         ·rw [if_neg Jg] at H
          have c101b0 : (Xr == 0) = false := beq_eq_false_iff_ne.mpr Jg
          have c101b1 : (Xr != 0) = true := bne_iff_ne.mpr Jg
          replace H := Option.bind_eq_some_iff.mp H
          obtain ⟨Jm,Dy,H⟩ := H
          replace H : (if Jm = true then (if (Q7.toList == Qp.toList && (Q9 == Qq)) = true then ((tattlelaw08_awakeT.f).bind fun Y6 => (some Y6)) else (some false)) else (some false)) = some r := H
          have Pj := qs Dy
          clear Dy
          by_cases Dl : Jm = true
          ·subst Dl
           have H1 : (if (Q7.toList == Qp.toList && (Q9 == Qq)) = true then ((tattlelaw08_awakeT.f).bind fun Y6 => (some Y6)) else (some false)) = some r := by rw [if_pos rfl] at H;exact H
           clear H
           have H := H1
           clear H1
           by_cases Y5 : (Q7.toList == Qp.toList && (Q9 == Qq)) = true
           ·rw [if_pos Y5] at H
            have c130b0 : (Q7.toList == Qp.toList && (Q9 == Qq)) = true := Y5
            (try (have c130b1 : decide (Q7.toList = Qp.toList && (Q9 == Qq)) = true := by simpa using Y5))
            (try (have c130b2 : (Q7.toList == Qp.toList && (Q9 == Qq)) = true := by simpa using Y5))
            clear Y5
            replace H := Option.bind_eq_some_iff.mp H
            obtain ⟨Y6,Dz,H⟩ := H
            replace H : (some Y6) = some r := H
            have Pk := qs Dz
            clear Dz
            obtain rfl := Option.some.inj H
            have Pl := Yt.out
            have Pm := X0.out
            have Pn := Yx.out
            have Po := Ya.out
            have Pp := Xm.out
            have Pq := Xn.out
            have Pr := Za.out
            have Ps := Zs.out
            have Pt := Q5.out
            have Pu := Zl.out
            have Gz : wc.cell? ⟨Qd,0,none⟩ = some (.slice Zi Qs.length Zh) := (qx Ql.out 0).trans rfl
            have G0 : wc.cell? ⟨Qd,1,none⟩ = some (.int .i64 Q0) := (qx Ql.out 1).trans rfl
            have G1 := qz Ql.out 0
            have G2 := qz Ql.out 1
            have Pv := Z1.out
            have Pw := Z5.out
            have Px := Xu.out
            have Py := Yb.out
            have Pz := Qz.out
            have P0 := Zp.out
            have P1 := Qx.out
            have P2 := Zm.out
            have G3 : wc.cell? ⟨Qa,0,none⟩ = some (.slice Q3 Qj.length Q1) := (qx Qc.out 0).trans rfl
            have G4 : wc.cell? ⟨Qa,1,none⟩ = some (.int .i64 Qk) := (qx Qc.out 1).trans rfl
            have G5 := qz Qc.out 0
            have G6 := qz Qc.out 1
            go_wp2_with (first | ((with_reducible refine zd (f := 32) rfl ?_);refine zs (some 79) rfl rfl Try.func32 (by kernel_rfl) rfl #[.agg #[.slice Zi Qs.length Zh,.int .i64 Q0],.agg #[.slice Q3 Qj.length Q1,.int .i64 Qk]] rfl (by (try simp only [zi,zj,zk]);first | done | rfl | (simp only [zg,zh];rfl)) ?_;(with_reducible refine (tattleref08_Same.calls Gg _ _ Qs Q0 _ _ Qj Qk true _ ?Xa ?Xl ?X9 ?Ve Pj.out).mono ?_);(case Xa => repeat (first | exact (Kd.V_reads' Zq.out).2.2 | (with_reducible refine zp ?_ _) | (with_reducible refine zq ?_ _) | (with_reducible refine zr ?_)));(case Xl => exact (Kd.V_reads' Zq.out).2.1);(case X9 => repeat (first | exact (Kd.V_reads' Zx.out).2.2 | (with_reducible refine zp ?_ _) | (with_reducible refine zq ?_ _) | (with_reducible refine zr ?_)));(case Ve => exact (Kd.V_reads' Zx.out).2.1);rintro e Dm ⟨rfl,hb⟩;refine ⟨_,rfl,?_⟩;have n0_ := qs (qq (by (with_reducible repeat (first | apply qh | apply qi | apply qj));exact Zx.out) hb);have n1_ := qs (qq (by (with_reducible repeat (first | apply qh | apply qi | apply qj));exact Zq.out) hb);have n2_ := qs (qq (by (with_reducible repeat (first | apply qh | apply qi | apply qj));exact Zy.out) hb);have n3_ := qs (qw (g := Qa) (o := .cells #[.slice Q3 Qj.length Q1,.int .i64 Qk] 49 (0,0)) (by (with_reducible repeat (first | refine qa ?_ _ | refine qb ?_ | refine qc ?_ _));exact Qc.out) hb);have n4_ := qs (qw (g := Qb) (o := .cells #[.string Qp,.int .i64 Qq] 23 (0,0)) (by (with_reducible repeat (first | refine qa ?_ _ | refine qb ?_ | refine qc ?_ _));exact Qg.out) hb);have n5_ := qs (qw (g := Qd) (o := .cells #[.slice Zi Qs.length Zh,.int .i64 Q0] 49 (0,0)) (by (with_reducible repeat (first | refine qa ?_ _ | refine qb ?_ | refine qc ?_ _));exact Ql.out) hb);have n6_ := qs (qw (g := Qe) (o := .cells #[.string Q7,.int .i64 Q9] 23 (0,0)) (by (with_reducible repeat (first | refine qa ?_ _ | refine qb ?_ | refine qc ?_ _));exact Qm.out) hb);have n7_ := qs (qw (g := Qi) (o := .cells #[.slice Xw Z4.length Xx,.int .i64 Z7] 49 (0,0)) (by (with_reducible repeat (first | refine qa ?_ _ | refine qb ?_ | refine qc ?_ _));exact Zb.out) hb);have n8_ := qs (qw (g := Qh) (o := .cells #[.string Z9,.int .i64 Xi] 23 (0,0)) (by (with_reducible repeat (first | refine qa ?_ _ | refine qb ?_ | refine qc ?_ _));exact Q6.out) hb);have n9_ := qs (zf (by repeat (first | (with_reducible first | exact HB.out | apply qe | apply qf | apply qg | refine qd ?_ Qt.out | refine qd ?_ Qu.out | refine qd ?_ Zg.out | refine qd ?_ Zj.out | refine qd ?_ Zt.out | refine qd ?_ Zu.out) | exact HB.out)) hb);clear Zx;clear Zq;clear Zy;clear Qc;clear Qg;clear Ql;clear Qm;clear Zb;clear Q6;clear HB;have Zx := n0_;have Zq := n1_;have Zy := n2_;have Qc := n3_;have Qg := n4_;have Ql := n5_;have Qm := n6_;have Zb := n7_;have Q6 := n8_;have HB := n9_;clear n0_ n1_ n2_ n3_ n4_ n5_ n6_ n7_ n8_ n9_;(try clear hb);(try clear hb2);(try clear hk);(try clear hi);have P3 := Yc.out;have P4 := Xv.out;have P5 := Q4.out;have P6 := Zk.out;have P7 := Q8.out;have P8 := Zo.out;have G7 : Dm.cell? ⟨Qe,0,none⟩ = some (.string Q7) := (qx Qm.out 0).trans rfl;have G8 : Dm.cell? ⟨Qe,1,none⟩ = some (.int .i64 Q9) := (qx Qm.out 1).trans rfl;have G9 := qz Qm.out 0;have Ua := qz Qm.out 1;have P9 := Q2.out;have Wa := Zr.out;have Wb := Qy.out;have Wc := Zn.out;have Ub : Dm.cell? ⟨Qb,0,none⟩ = some (.string Qp) := (qx Qg.out 0).trans rfl;have Uc : Dm.cell? ⟨Qb,1,none⟩ = some (.int .i64 Qq) := (qx Qg.out 1).trans rfl;have Ud := qz Qg.out 0;have Ue := qz Qg.out 1) | (go_at_call 30;(with_reducible refine (tattlelaw08_awakeT.calls  Y6 _ Pk.out).mono ?_);rintro e Be ⟨rfl,hb⟩;have n0_ := qs (qq (by (with_reducible repeat (first | apply qh | apply qi | apply qj));exact Zx.out) hb);have n1_ := qs (qq (by (with_reducible repeat (first | apply qh | apply qi | apply qj));exact Zq.out) hb);have n2_ := qs (qq (by (with_reducible repeat (first | apply qh | apply qi | apply qj));exact Zy.out) hb);have n3_ := qs (qw (g := Qa) (o := .cells #[.slice Q3 Qj.length Q1,.int .i64 Qk] 49 (0,0)) (by (with_reducible repeat (first | refine qa ?_ _ | refine qb ?_ | refine qc ?_ _));exact Qc.out) hb);have n4_ := qs (qw (g := Qb) (o := .cells #[.string Qp,.int .i64 Qq] 23 (0,0)) (by (with_reducible repeat (first | refine qa ?_ _ | refine qb ?_ | refine qc ?_ _));exact Qg.out) hb);have n5_ := qs (qw (g := Qd) (o := .cells #[.slice Zi Qs.length Zh,.int .i64 Q0] 49 (0,0)) (by (with_reducible repeat (first | refine qa ?_ _ | refine qb ?_ | refine qc ?_ _));exact Ql.out) hb);have n6_ := qs (qw (g := Qe) (o := .cells #[.string Q7,.int .i64 Q9] 23 (0,0)) (by (with_reducible repeat (first | refine qa ?_ _ | refine qb ?_ | refine qc ?_ _));exact Qm.out) hb);have n7_ := qs (qw (g := Qi) (o := .cells #[.slice Xw Z4.length Xx,.int .i64 Z7] 49 (0,0)) (by (with_reducible repeat (first | refine qa ?_ _ | refine qb ?_ | refine qc ?_ _));exact Zb.out) hb);have n8_ := qs (qw (g := Qh) (o := .cells #[.string Z9,.int .i64 Xi] 23 (0,0)) (by (with_reducible repeat (first | refine qa ?_ _ | refine qb ?_ | refine qc ?_ _));exact Q6.out) hb);have n9_ := qs (zf (by repeat (first | (with_reducible first | exact HB.out | apply qe | apply qf | apply qg | refine qd ?_ Qt.out | refine qd ?_ Qu.out | refine qd ?_ Zg.out | refine qd ?_ Zj.out | refine qd ?_ Zt.out | refine qd ?_ Zu.out) | exact HB.out)) hb);clear Zx;clear Zq;clear Zy;clear Qc;clear Qg;clear Ql;clear Qm;clear Zb;clear Q6;clear HB;have Zx := n0_;have Zq := n1_;have Zy := n2_;have Qc := n3_;have Qg := n4_;have Ql := n5_;have Qm := n6_;have Zb := n7_;have Q6 := n8_;have HB := n9_;clear n0_ n1_ n2_ n3_ n4_ n5_ n6_ n7_ n8_ n9_;(try clear hb);(try clear hb2);(try clear hk);(try clear hi)))
            go_ret
            exact ⟨by first | rfl | (simp [errW_none,errW_some] <;> rfl) | (simp [*,errW_none,errW_some] <;> rfl),by repeat (first | (with_reducible first | exact HB.out | apply qe | apply qf | apply qg | refine qd ?_ Qt.out | refine qd ?_ Qu.out | refine qd ?_ Zg.out | refine qd ?_ Zj.out | refine qd ?_ Zt.out | refine qd ?_ Zu.out) | exact HB.out)⟩
           ·rw [if_neg Y5] at H
            have c130b0 : (Q7.toList == Qp.toList && (Q9 == Qq)) = false := by simpa using Y5
            (try (have c130b1 : decide (Q7.toList = Qp.toList && (Q9 == Qq)) = false := by simpa using Y5))
            (try (have c130b2 : (Q7.toList == Qp.toList && (Q9 == Qq)) = false := by simpa using Y5))
            (try (have c130b3 : ¬ (Q7.toList = Qp.toList && (Q9 == Qq)) := by simpa using Y5))
            clear Y5
            exact absurd ((Option.some.inj H).trans hrt.out) (by decide)
          ·replace Dl := Bool.eq_false_iff.mpr Dl
           subst Dl
           have H1 : (some false) = some r := by rw [if_neg (show ¬ (false = true) by decide)] at H;exact H
           clear H
           have H := H1
           clear H1
           exact absurd ((Option.some.inj H).trans hrt.out) (by decide)
     ·rw [if_neg c12] at H
      exact absurd H (by simp)
    ·rw [if_neg c11] at H
     exact absurd H (by simp)
   ·rw [if_neg c9] at H
    exact absurd H (by simp)
  ·rw [if_neg c8] at H
   have c8b0 : (Yg == 0) = false := beq_eq_false_iff_ne.mpr c8
   have c8b1 : (Yg != 0) = true := bne_iff_ne.mpr c8
   replace H := Option.bind_eq_some_iff.mp H
   obtain ⟨Yv,D0,H⟩ := H
   replace H : (some Yv) = some r := H
   have Wd := qs D0
   clear D0
   obtain rfl := Option.some.inj H
   go_enter Try.func11,Try.ntmps11
   try go_wp2_with (first | ((with_reducible refine ze (N := 3) rfl ?_);(try (refine gate_guard (by rfl) ?_;dsimp only));refine box_event ?hg (N := 3) ?hd (cs := #[.slice Xp Xj.length Xq,.int .i64 Qk]) (t := 49) ?hr ?_;(case hd => rfl);(case hg => rfl);(case hr => first | (go_simp;done) | (go_simp;rfl));intro Qa hg Bf hbox hb;have n0_ := qs (zf (by repeat (first | (with_reducible first | exact HB.out | apply qe | apply qf | apply qg) | exact HB.out)) hb);have n1_ := qs (hbox);have n2_ := qs ((by rw [hg];exact (below_size (by repeat (first | (with_reducible first | exact HB.out | apply qe | apply qf | apply qg) | exact HB.out))) : w.heap.size ≤ Qa));have n3_ := qs ((by rw [hg];exact (below_size (by repeat (first | (with_reducible first | exact HB.out | apply qe | apply qf | apply qg) | exact HB.out))) : w.heap.size ≤ Qa));clear HB;have HB := n0_;have Qc := n1_;have Jc := n2_;have Qt := n3_;clear n0_ n1_ n2_ n3_;clear hb hbox hg) | ((with_reducible refine ze (N := 4) rfl ?_);(try (refine gate_guard (by rfl) ?_;dsimp only));refine box_event ?hg (N := 4) ?hd (cs := #[.string Xt,.int .i64 Xo]) (t := 23) ?hr ?_;(case hd => rfl);(case hg => rfl);(case hr => first | (go_simp;done) | (go_simp;rfl));intro Qb hg We hbox hb;have n0_ := qs (qw (g := Qa) (o := .cells #[.slice Xp Xj.length Xq,.int .i64 Qk] 49 (0,0)) (by (with_reducible repeat (first | refine qa ?_ _ | refine qb ?_ | refine qc ?_ _));exact Qc.out) hb);have n1_ := qs (zf (by repeat (first | (with_reducible first | exact HB.out | apply qe | apply qf | apply qg | refine qd ?_ Qt.out) | exact HB.out)) hb);have n2_ := qs (hbox);have n3_ := qs ((by rw [hg];exact (below_size (by repeat (first | (with_reducible first | exact HB.out | apply qe | apply qf | apply qg | refine qd ?_ Qt.out) | exact HB.out))) : w.heap.size ≤ Qb));have n4_ := qs ((by rw [hg];exact (below_size (by repeat (first | (with_reducible first | exact HB.out | apply qe | apply qf | apply qg | refine qd ?_ Qt.out) | exact HB.out))) : w.heap.size ≤ Qb));have n5_ := qs ((by rw [hg];exact za (blk_lt (g := Qa) (o := .cells #[.slice Xp Xj.length Xq,.int .i64 Qk] 49 (0,0)) (by (with_reducible repeat (first | refine qa ?_ _ | refine qb ?_ | refine qc ?_ _));exact Qc.out)) : Qa ≠ Qb));have n6_ := qs ((by rw [hg];exact zb (blk_lt (g := Qa) (o := .cells #[.slice Xp Xj.length Xq,.int .i64 Qk] 49 (0,0)) (by (with_reducible repeat (first | refine qa ?_ _ | refine qb ?_ | refine qc ?_ _));exact Qc.out)) : Qb ≠ Qa));clear Qc;clear HB;have Qc := n0_;have HB := n1_;have Qg := n2_;have Jd := n3_;have Qu := n4_;have Z1 := n5_;have Z5 := n6_;clear n0_ n1_ n2_ n3_ n4_ n5_ n6_;clear hb hbox hg))
   have n0_ := qs (qb Qc.out)
   have n1_ := qs (qb Qg.out)
   have n2_ := qs (qg HB.out)
   clear Qc
   clear Qg
   clear HB
   have Qc := n0_
   have Qg := n1_
   have HB := n2_
   clear n0_ n1_ n2_
   refine start_ (n := 11) (S := fun w' => w'.cell? ⟨Qa,0,none⟩ = some (.slice Xp Xj.length Xq) ∧ w'.cell? ⟨Qa,1,none⟩ = some (.int .i64 Qk) ∧ w'.cell? ⟨Qb,0,none⟩ = some (.string Xt) ∧ w'.cell? ⟨Qb,1,none⟩ = some (.int .i64 Xo)) (ds := [8,9]) #[false,false,false,false,false,false,false,false,false,false,false] (by kernel_rfl) rfl rfl ⟨(qx Qc.out 0).trans rfl,(qx Qc.out 1).trans rfl,(qx Qg.out 0).trans rfl,(qx Qg.out 1).trans rfl⟩ (fun hHeld => ?_);refine with_tabW tattlelaw08_TurnStays.tab1 tattlelaw08_TurnStays.bits1 (fun HT_ HW_ => ?_)
   generalize We.drew = Bg at Qc Qg HB hHeld ⊢
   refine zl (i := 0) (N := some 16) (v := ?_) (a' := ?_) #[true,false,false,false,false,false,false,false,false,false,false] rfl rfl (any_of HT_.out (by kernel_rfl)) (fun _ _ _ h => h) (Or.inl ⟨by rfl,?_⟩) ?_ ?_
   rotate_left
   ·intro w'
    go_simp
    with_reducible rfl
   rotate_left
   ·simp only [Act.put,qt,qu,qv,i64_w,i32_w]
    rfl
   refine zl (i := 5) (N := some 21) (v := ?_) (a' := ?_) #[true,false,false,false,false,true,false,false,false,false,false] rfl rfl (any_of HT_.out (by kernel_rfl)) (fun _ _ _ h => h) (Or.inl ⟨by rfl,?_⟩) ?_ ?_
   rotate_left
   ·intro w'
    go_simp
    with_reducible rfl
   rotate_left
   ·simp only [Act.put,qt,qu,qv,i64_w,i32_w]
    rfl
   refine take_ (i := 1) (N := some 17) (v := ?_) (a' := ?_) #[true,true,false,false,false,true,false,false,false,false,false] rfl rfl (take_ofW HT_.out HW_.out (by kernel_rfl)) (fun _ _ _ h => h) (Or.inl ⟨by rfl,?_⟩) hHeld ?_ ?_
   rotate_left
   ·rintro w' ⟨s0,s1,s2,s3⟩
    go_simp
    with_reducible rfl
   rotate_left
   ·simp only [Act.put,qt,qu,qv,i64_w,i32_w]
    rfl
   refine take_ (i := 3) (N := some 19) (v := ?_) (a' := ?_) #[true,true,false,true,false,true,false,false,false,false,false] rfl rfl (take_ofW HT_.out HW_.out (by kernel_rfl)) (fun _ _ _ h => h) (Or.inl ⟨by rfl,?_⟩) hHeld ?_ ?_
   rotate_left
   ·rintro w' ⟨s0,s1,s2,s3⟩
    go_simp
    with_reducible rfl
   rotate_left
   ·simp only [Act.put,qt,qu,qv,i64_w,i32_w]
    rfl
   refine one_ (i := 2) (N := some 18) #[true,true,true,true,false,true,false,false,false,false,false] rfl rfl (one_of HT_.out (by kernel_rfl)) (by decide) (fun K hK => ?_)
   refine zt Try.func27 (by kernel_rfl) rfl #[.slice Xp Xj.length Xq] (by rfl) rfl rfl (by (try simp only [zi,zj,zk]);first | done | rfl | (simp only [zg,zh];rfl)) ?_
   with_reducible refine (tattlelaw08_Few.calls (fun k_ => k_ < w.heap.size) _ _ Xj Qj _ ?Xa A4.out).mono ?_
   (case Xa => exact Kd.V_mk Dq.out (Kd.F_below (Kd.C_F (Kd.heap_int .i64) Dp.out) (by repeat (first | (with_reducible first | exact HB.out | apply qe | apply qf | apply qg | refine qd ?_ Qt.out | refine qd ?_ Qu.out) | exact HB.out))))
   rintro e Bh ⟨Lp,rfl,ho0,hb⟩
   refine ⟨_,rfl,?_⟩
   have n0_ := qs (zo (qp (ok' := fun k_ => k_ ≠ Qa ∧ k_ ≠ Qb) ho0 (fun k_ hk_ => ⟨Or.elim hk_ (fun hs_ => fun e_ => Nat.not_le.2 hs_ (by rw [e_];exact Jc.out)) (fun hn_ => (Kd.freshB (g := Qa) (o := .cells #[.slice Xp Xj.length Xq,.int .i64 Qk] 49 (0,0)) (by (with_reducible repeat (first | refine qa ?_ _ | refine qb ?_ | refine qc ?_ _));exact Qc.out) k_ hn_)),Or.elim hk_ (fun hs_ => fun e_ => Nat.not_le.2 hs_ (by rw [e_];exact Jd.out)) (fun hn_ => (Kd.freshB (g := Qb) (o := .cells #[.string Xt,.int .i64 Xo] 23 (0,0)) (by (with_reducible repeat (first | refine qa ?_ _ | refine qb ?_ | refine qc ?_ _));exact Qg.out) k_ hn_))⟩)) (below_size (by repeat (first | (with_reducible first | exact HB.out | apply qe | apply qf | apply qg | refine qd ?_ Qt.out | refine qd ?_ Qu.out) | exact HB.out))))
   have n1_ := qs (qw (g := Qa) (o := .cells #[.slice Xp Xj.length Xq,.int .i64 Qk] 49 (0,0)) (by (with_reducible repeat (first | refine qa ?_ _ | refine qb ?_ | refine qc ?_ _));exact Qc.out) hb)
   have n2_ := qs (qw (g := Qb) (o := .cells #[.string Xt,.int .i64 Xo] 23 (0,0)) (by (with_reducible repeat (first | refine qa ?_ _ | refine qb ?_ | refine qc ?_ _));exact Qg.out) hb)
   have n3_ := qs (zf (by repeat (first | (with_reducible first | exact HB.out | apply qe | apply qf | apply qg | refine qd ?_ Qt.out | refine qd ?_ Qu.out) | exact HB.out)) hb)
   clear Qc
   clear Qg
   clear HB
   have Qo := n0_
   have Qc := n1_
   have Qg := n2_
   have HB := n3_
   clear n0_ n1_ n2_ n3_
   (try clear hb)
   (try clear hb2)
   (try clear hk)
   (try clear hi)
   (try clear ho0)
   refine hK.out _ _ ⟨(qx Qc.out 0).trans rfl,(qx Qc.out 1).trans rfl,(qx Qg.out 0).trans rfl,(qx Qg.out 1).trans rfl⟩ (fun hHeld => ?_)
   clear hK K
   refine zm (a' := ?_) ?_ ?_
   rotate_left
   ·show Act.put _ (some 18) _ = _
    simp only [Act.put,qt,qu,qv,i64_w,i32_w]
    rfl
   refine zl (i := 7) (N := some 23) (v := ?_) (a' := ?_) #[true,true,true,true,false,true,false,true,false,false,false] rfl rfl (any_of HT_.out (by kernel_rfl)) (fun _ _ _ h => h) (Or.inl ⟨by rfl,?_⟩) ?_ ?_
   rotate_left
   ·intro w'
    go_simp
    with_reducible rfl
   rotate_left
   ·simp only [Act.put,qt,qu,qv,i64_w,i32_w]
    rfl
   refine one_ (i := 4) (N := some 20) #[true,true,true,true,true,true,false,true,false,false,false] rfl rfl (one_of HT_.out (by kernel_rfl)) (by decide) (fun K hK => ?_)
   refine zt Try.func14 (by kernel_rfl) rfl #[.agg #[.string Xt,.int .i64 Xo]] (by rfl) rfl rfl (by (try simp only [zi,zj,zk]);first | done | rfl | (simp only [zg,zh];rfl)) ?_
   with_reducible refine (tattlelaw02_Few.calls Xt Xo Qp Qq _ A5.out).mono ?_
   rintro e Bi ⟨rfl,hb⟩
   refine ⟨_,rfl,?_⟩
   have n0_ := qs (qq (by (with_reducible repeat (first | apply qh | apply qi | apply qj));exact Qo.out) hb)
   have n1_ := qs (qw (g := Qa) (o := .cells #[.slice Xp Xj.length Xq,.int .i64 Qk] 49 (0,0)) (by (with_reducible repeat (first | refine qa ?_ _ | refine qb ?_ | refine qc ?_ _));exact Qc.out) hb)
   have n2_ := qs (qw (g := Qb) (o := .cells #[.string Xt,.int .i64 Xo] 23 (0,0)) (by (with_reducible repeat (first | refine qa ?_ _ | refine qb ?_ | refine qc ?_ _));exact Qg.out) hb)
   have n3_ := qs (zf (by repeat (first | (with_reducible first | exact HB.out | apply qe | apply qf | apply qg | refine qd ?_ Qt.out | refine qd ?_ Qu.out) | exact HB.out)) hb)
   clear Qo
   clear Qc
   clear Qg
   clear HB
   have Qo := n0_
   have Qc := n1_
   have Qg := n2_
   have HB := n3_
   clear n0_ n1_ n2_ n3_
   (try clear hb)
   (try clear hb2)
   (try clear hk)
   (try clear hi)
   refine hK.out _ _ ⟨(qx Qc.out 0).trans rfl,(qx Qc.out 1).trans rfl,(qx Qg.out 0).trans rfl,(qx Qg.out 1).trans rfl⟩ (fun hHeld => ?_)
   clear hK K
   refine zm (a' := ?_) ?_ ?_
   rotate_left
   ·show Act.put _ (some 20) _ = _
    simp only [Act.put,qt,qu,qv,i64_w,i32_w]
    rfl
   refine one_ (i := 6) (N := some 22) #[true,true,true,true,true,true,true,true,false,false,false] rfl rfl (one_of HT_.out (by kernel_rfl)) (by decide) (fun K hK => ?_)
   refine zt Try.func27 (by kernel_rfl) rfl #[.slice A2 l2.length c2] (by rfl) rfl rfl (by (try simp only [zi,zj,zk]);first | done | rfl | (simp only [zg,zh];rfl)) ?_
   with_reducible refine (tattlelaw08_Few.calls (fun k_ => k_ < w.heap.size) _ _ l2 Zv _ ?Xa A6.out).mono ?_
   (case Xa => exact Kd.V_mk HC2.out (Kd.F_below (Kd.C_F (Kd.heap_int .i64) HR2.out) (by repeat (first | (with_reducible first | exact HB.out | apply qe | apply qf | apply qg | refine qd ?_ Qt.out | refine qd ?_ Qu.out) | exact HB.out))))
   rintro e Vf ⟨Lq,rfl,ho0,hb⟩
   refine ⟨_,rfl,?_⟩
   have n0_ := qs (qq (by (with_reducible repeat (first | apply qh | apply qi | apply qj));exact Qo.out) hb)
   have n1_ := qs (zo (qp (ok' := fun k_ => k_ ≠ Qa ∧ k_ ≠ Qb) ho0 (fun k_ hk_ => ⟨Or.elim hk_ (fun hs_ => fun e_ => Nat.not_le.2 hs_ (by rw [e_];exact Jc.out)) (fun hn_ => (Kd.freshB (g := Qa) (o := .cells #[.slice Xp Xj.length Xq,.int .i64 Qk] 49 (0,0)) (by (with_reducible repeat (first | refine qa ?_ _ | refine qb ?_ | refine qc ?_ _));exact Qc.out) k_ hn_)),Or.elim hk_ (fun hs_ => fun e_ => Nat.not_le.2 hs_ (by rw [e_];exact Jd.out)) (fun hn_ => (Kd.freshB (g := Qb) (o := .cells #[.string Xt,.int .i64 Xo] 23 (0,0)) (by (with_reducible repeat (first | refine qa ?_ _ | refine qb ?_ | refine qc ?_ _));exact Qg.out) k_ hn_))⟩)) (below_size (by repeat (first | (with_reducible first | exact HB.out | apply qe | apply qf | apply qg | refine qd ?_ Qt.out | refine qd ?_ Qu.out) | exact HB.out))))
   have n2_ := qs (qw (g := Qa) (o := .cells #[.slice Xp Xj.length Xq,.int .i64 Qk] 49 (0,0)) (by (with_reducible repeat (first | refine qa ?_ _ | refine qb ?_ | refine qc ?_ _));exact Qc.out) hb)
   have n3_ := qs (qw (g := Qb) (o := .cells #[.string Xt,.int .i64 Xo] 23 (0,0)) (by (with_reducible repeat (first | refine qa ?_ _ | refine qb ?_ | refine qc ?_ _));exact Qg.out) hb)
   have n4_ := qs (zf (by repeat (first | (with_reducible first | exact HB.out | apply qe | apply qf | apply qg | refine qd ?_ Qt.out | refine qd ?_ Qu.out) | exact HB.out)) hb)
   clear Qo
   clear Qc
   clear Qg
   clear HB
   have Qo := n0_
   have Qr := n1_
   have Qc := n2_
   have Qg := n3_
   have HB := n4_
   clear n0_ n1_ n2_ n3_ n4_
   (try clear hb)
   (try clear hb2)
   (try clear hk)
   (try clear hi)
   (try clear ho0)
   obtain ⟨Je,Y7,D1⟩ := Kd.V_slice Qo.out
   (first | subst D1 | (injection D1 with f1_ f2_ f3_;have f4_ := f1_.symm;have f5_ := f3_.symm;clear f1_ f2_ f3_;subst f4_;subst f5_))
   refine hK.out _ _ ⟨(qx Qc.out 0).trans rfl,(qx Qc.out 1).trans rfl,(qx Qg.out 0).trans rfl,(qx Qg.out 1).trans rfl⟩ (fun hHeld => ?_)
   clear hK K
   refine zm (a' := ?_) ?_ ?_
   rotate_left
   ·show Act.put _ (some 22) _ = _
    simp only [Act.put,qt,qu,qv,i64_w,i32_w]
    rfl
   refine last_ (i := 8) (N := none) #[true,true,true,true,true,true,true,true,true,false,false] rfl rfl (one_of HT_.out (by kernel_rfl)) (by decide) (fun K hK => ?_)
   have Tu : Vf.cell? ⟨Qa,0,none⟩ = some (.slice Xp Xj.length Xq) := (qx Qc.out 0).trans rfl
   have Wf := qz Qc.out 0
   have Uf := Z5.out
   have Ug := Z1.out
   refine skip_ (w1 := ?_) (by rfl) rfl ?_ ?_
   rotate_left
   ·go_simp
    rfl
   refine hK.out _ _ ?_
   clear hK K
   refine last_ (i := 9) (N := none) #[true,true,true,true,true,true,true,true,true,true,false] rfl rfl (one_of HT_.out (by kernel_rfl)) (by decide) (fun K hK => ?_)
   have Tv : Vf.cell? ⟨Qb,0,none⟩ = some (.string Xt) := (qx Qg.out 0).trans rfl
   have Wg := qz Qg.out 0
   have Uh := Z1.out
   have Ui := Z5.out
   have Tw : Vf.cell? ⟨Qb,1,none⟩ = some (.int .i64 Xo) := (qx Qg.out 1).trans rfl
   have Wh := qz Qg.out 1
   have Uj := Z1.out
   have Uk := Z5.out
   refine skip_ (w1 := ?_) (by rfl) rfl ?_ ?_
   rotate_left
   ·go_simp
    rfl
   refine hK.out _ _ ?_
   clear hK K
   refine zl (i := 10) (N := some 2) (v := ?_) (a' := ?_) #[true,true,true,true,true,true,true,true,true,true,true] rfl rfl (any_of HT_.out (by kernel_rfl)) (fun _ _ _ h => h) (Or.inl ⟨by rfl,?_⟩) ?_ ?_
   rotate_left
   ·intro w'
    go_simp
    with_reducible rfl
   rotate_left
   ·simp only [Act.put,qt,qu,qv,i64_w,i32_w]
    rfl
   refine done_ (done_of HT_.out (by kernel_rfl)) ?_
   have Wi := Z1.out
   have Wj := Z5.out
   have Ul : Vf.cell? ⟨Qa,0,none⟩ = some (.slice Xp Xj.length Xq) := (qx Qc.out 0).trans rfl
   have Um : Vf.cell? ⟨Qa,1,none⟩ = some (.int .i64 Qk) := (qx Qc.out 1).trans rfl
   have Un := qz Qc.out 0
   have Uo := qz Qc.out 1
   try go_wp2_with (first | ((with_reducible refine zd (f := 29) rfl ?_);refine zs (some 25) rfl rfl Try.func29 (by kernel_rfl) rfl #[.agg #[.slice Je Qj.length Y7,.int .i64 Qk]] rfl (by (try simp only [zi,zj,zk]);first | done | rfl | (simp only [zg,zh];rfl)) ?_;(with_reducible refine (turn_Check.calls _ _ Qj Qk Yg _ ?Xa ?Xl A7.out).mono ?_);(case Xa => refine (Kd.V_reads' (e := 3) (base := w.heap.size) (ok := fun k_ => (k_ ≠ Qa ∧ k_ ≠ Qb)) (n := Qj.length) (c := Y7) ?_).2.2;exact (by (with_reducible repeat (first | apply qh | apply qi | apply qj));exact (qp (qp (qn (p := ⟨Qb,1,none⟩) (qn (p := ⟨Qb,0,none⟩) (qn (p := ⟨Qa,0,none⟩) (qp (qp Qo.out (fun k_ hk => (⟨hk,hk.1⟩ : _ ∧ k_ ≠ Qa))) (fun k_ hk => (⟨hk,hk.1.2⟩ : _ ∧ k_ ≠ Qb))) (fun _ hk => hk.1.2) (.slice Je Qj.length Y7)) (fun _ hk => hk.2) (.string Qp)) (fun _ hk => hk.2) (.int .i64 Qq)) (fun _ h_ => h_.1)) (fun _ h_ => h_.1))));(case Xl => exact (Kd.V_reads' Qo.out).2.1);rintro e Bj ⟨rfl,hb⟩;refine ⟨_,rfl,?_⟩;have n0_ := qs (qq (by (with_reducible repeat (first | apply qh | apply qi | apply qj));exact (qp (qp (qn (p := ⟨Qb,1,none⟩) (qn (p := ⟨Qb,0,none⟩) (qn (p := ⟨Qa,0,none⟩) (qp (qp Qo.out (fun k_ hk => (⟨hk,hk.1⟩ : _ ∧ k_ ≠ Qa))) (fun k_ hk => (⟨hk,hk.1.2⟩ : _ ∧ k_ ≠ Qb))) (fun _ hk => hk.1.2) (.slice Je Qj.length Y7)) (fun _ hk => hk.2) (.string Qp)) (fun _ hk => hk.2) (.int .i64 Qq)) (fun _ h_ => h_.1)) (fun _ h_ => h_.1))) hb);have n1_ := qs (qw (g := Qa) (o := .cells #[.slice Je Qj.length Y7,.int .i64 Qk] 49 (0,0)) (by (with_reducible repeat (first | refine qa ?_ _ | refine qb ?_ | refine qc ?_ _));refine qy ?_ Z1.out _;(with_reducible repeat (first | refine qa ?_ _ | refine qb ?_ | refine qc ?_ _));refine qy ?_ Z1.out _;(with_reducible repeat (first | refine qa ?_ _ | refine qb ?_ | refine qc ?_ _));refine blk_put (cs := #[.slice Xp Xj.length Xq,.int .i64 Qk]) ?_ 0 _ rfl;(with_reducible repeat (first | refine qa ?_ _ | refine qb ?_ | refine qc ?_ _));exact Qc.out) hb);have n2_ := qs (qw (g := Qb) (o := .cells #[.string Qp,.int .i64 Qq] 23 (0,0)) (by (with_reducible repeat (first | refine qa ?_ _ | refine qb ?_ | refine qc ?_ _));refine blk_put (cs := #[.string Qp,.int .i64 Xo]) ?_ 1 _ rfl;(with_reducible repeat (first | refine qa ?_ _ | refine qb ?_ | refine qc ?_ _));refine blk_put (cs := #[.string Xt,.int .i64 Xo]) ?_ 0 _ rfl;(with_reducible repeat (first | refine qa ?_ _ | refine qb ?_ | refine qc ?_ _));refine qy ?_ Z5.out _;(with_reducible repeat (first | refine qa ?_ _ | refine qb ?_ | refine qc ?_ _));exact Qg.out) hb);have n3_ := qs (zf (by repeat (first | (with_reducible first | exact HB.out | apply qe | apply qf | apply qg | refine qd ?_ Qt.out | refine qd ?_ Qu.out) | exact HB.out)) hb);clear Qo;clear Qc;clear Qg;clear HB;have Qo := n0_;have Qc := n1_;have Qg := n2_;have HB := n3_;clear n0_ n1_ n2_ n3_;(try clear hb);(try clear hb2);(try clear hk);(try clear hi)) | ((with_reducible refine zd (f := 30) rfl ?_);refine zs (some 27) rfl rfl Try.func30 (by kernel_rfl) rfl #[] rfl (by (try simp only [zi,zj,zk]);first | done | rfl | (simp only [zg,zh];rfl)) ?_;(with_reducible refine (tattlelaw08_awakeT.calls  Yv _ Wd.out).mono ?_);rintro e Bk ⟨rfl,hb⟩;refine ⟨_,rfl,?_⟩;have n0_ := qs (qq (by (with_reducible repeat (first | apply qh | apply qi | apply qj));exact Qo.out) hb);have n1_ := qs (qw (g := Qa) (o := .cells #[.slice Je Qj.length Y7,.int .i64 Qk] 49 (0,0)) (by (with_reducible repeat (first | refine qa ?_ _ | refine qb ?_ | refine qc ?_ _));exact Qc.out) hb);have n2_ := qs (qw (g := Qb) (o := .cells #[.string Qp,.int .i64 Qq] 23 (0,0)) (by (with_reducible repeat (first | refine qa ?_ _ | refine qb ?_ | refine qc ?_ _));exact Qg.out) hb);have n3_ := qs (zf (by repeat (first | (with_reducible first | exact HB.out | apply qe | apply qf | apply qg | refine qd ?_ Qt.out | refine qd ?_ Qu.out) | exact HB.out)) hb);clear Qo;clear Qc;clear Qg;clear HB;have Qo := n0_;have Qc := n1_;have Qg := n2_;have HB := n3_;clear n0_ n1_ n2_ n3_;(try clear hb);(try clear hb2);(try clear hk);(try clear hi)))
   go_ret
   exact ⟨by first | rfl | (simp [errW_none,errW_some] <;> rfl) | (simp [*,errW_none,errW_some] <;> rfl),by repeat (first | (with_reducible first | exact HB.out | apply qe | apply qf | apply qg | refine qd ?_ Qt.out | refine qd ?_ Qu.out) | exact HB.out)⟩

end Go.Proofs.Ytlanodnbdgiihaa.Fn
