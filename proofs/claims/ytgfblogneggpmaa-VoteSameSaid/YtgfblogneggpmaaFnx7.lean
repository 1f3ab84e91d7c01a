-- Written by program (a turned copy of the kit's print) for this seat: functions, contracts. Lean checks it.
import Derived.Test.YtgfblogneggpmaaFnx0
import Derived.Test.YtgfblogneggpmaaFnx1
import Derived.Test.YtgfblogneggpmaaFnx5
import Derived.Test.YtgfblogneggpmaaFnx6
import Derived.Test.YtgfblogneggpmaaExAsk
namespace Go.Proofs.Ytgfblogneggpmaa.Fn
open Go.RowKit Go.Proofs.YtgfblogneggpmaaW.PrintWords Go.Proofs.YtgfblogneggpmaaW.PrintLast Go.Proofs.YtgfblogneggpmaaW.PrintMore
attribute [local go_sem] max2_int min2_int max_two min_two max_three min_three max_four min_four   -- for this text's walks alone
set_option linter.unusedVariables false
set_option linter.unusedSimpArgs false

attribute [local go_sem high] eqA38
/-! ### tattlelaw17_awake: function 16 -/
def tattlelaw17_awake.f  : Option (Bool) := (tattlelaw17_ten.f).bind fun bt120 => ((vote_New.f).bind fun bt123 => ((vote_Ask.f bt120.1 bt120.2.1 bt120.2.2 bt123.1 bt123.2.1 bt123.2.2.1 bt123.2.2.2 2 1 5).bind fun bt127 => ((tattlelaw17_ten.f).bind fun bt134 => ((vote_Ask.f bt134.1 bt134.2.1 bt134.2.2 bt127.1 bt127.2.1 bt127.2.2.1 bt127.2.2.2.1 3 2 14).bind fun bt137 => ((tattlelaw17_ten.f).bind fun bt144 => ((vote_Ask.f bt144.1 bt144.2.1 bt144.2.2 bt137.1 bt137.2.1 bt137.2.2.1 bt137.2.2.2.1 3 2 15).bind fun bt147 => ((tattlelaw17_ten.f).bind fun bt154 => ((vote_Restart.f bt154.1 bt154.2.1 bt154.2.2 0 (-1) 0).bind fun bt157 => ((tattlelaw17_ten.f).bind fun bt163 => ((vote_Ask.f bt163.1 bt163.2.1 bt163.2.2 bt157.1 bt157.2.1 bt157.2.2.1 bt157.2.2.2.1 1 1 9).bind fun bt166 => (if bt127.2.2.2.2.1 = true then (if (bt127.1 == 1 && (bt127.2.1 == 2 && (bt127.2.2.1 == 15 && (bt127.2.2.2.1 == 0)))) = true then (if bt127.2.2.2.2.2 = 0 then (if bt137.2.2.2.2.1 = true then (some false) else (if bt137.2.2.2.2.2 = 0 then (if bt147.2.2.2.2.1 = true then (if bt147.2.2.2.2.2 = 0 then (if bt157.2.2.2.1 = 10 then (if bt157.2.2.2.2 = 0 then (if bt166.2.2.2.2.1 = true then (some false) else (some (bt166.2.2.2.2.2 == 0))) else (some false)) else (some false)) else (some false)) else (some false)) else (some false))) else (some false)) else (some false)) else (some false))))))))))))
def tattlelaw17_awake.T2 : Bool × List (List Nat × List Nat) := (true, [([], []), ([], []), ([0, 1, 0], [0, 1]), ([2], [2]), ([3], [3]), ([3], [3]), ([3], [3]), ([], []), ([7, 4, 2, 0, 1, 2, 3, 4, 7], [4, 7]), ([5, 8, 0, 1, 2, 3, 4, 5, 7, 8], [5]), ([6, 9, 0, 1, 2, 3, 4, 5, 6, 7, 8, 9], [6])])
def tattlelaw17_awake.B2 : List Nat := [0, 0, 3, 7, 15, 15, 15, 0, 159, 447, 1023]
theorem tattlelaw17_awake.tab2 : rtab .any (opsOf Try.f16 2) = tattlelaw17_awake.T2 := by kernel_rfl
theorem tattlelaw17_awake.bits2 : waitsOk tattlelaw17_awake.T2.2 tattlelaw17_awake.B2 = true := by kernel_rfl
def tattlelaw17_awake.T3 : Bool × List (List Nat × List Nat) := (true, [([], []), ([], []), ([0, 1, 0], [0, 1]), ([2], [2]), ([3], [3]), ([3], [3]), ([3], [3]), ([], []), ([7, 4, 2, 0, 1, 2, 3, 4, 7], [4, 7]), ([5, 8, 0, 1, 2, 3, 4, 5, 7, 8], [5]), ([6, 9, 0, 1, 2, 3, 4, 5, 6, 7, 8, 9], [6])])
def tattlelaw17_awake.B3 : List Nat := [0, 0, 3, 7, 15, 15, 15, 0, 159, 447, 1023]
theorem tattlelaw17_awake.tab3 : rtab .any (opsOf Try.f16 3) = tattlelaw17_awake.T3 := by kernel_rfl
theorem tattlelaw17_awake.bits3 : waitsOk tattlelaw17_awake.T3.2 tattlelaw17_awake.B3 = true := by kernel_rfl
def tattlelaw17_awake.T5 : Bool × List (List Nat × List Nat) := (true, [([], []), ([], []), ([0, 1, 0], [0, 1]), ([2], [2]), ([3], [3]), ([3], [3]), ([3], [3]), ([], []), ([7, 4, 2, 0, 1, 2, 3, 4, 7], [4, 7]), ([5, 8, 0, 1, 2, 3, 4, 5, 7, 8], [5]), ([6, 9, 0, 1, 2, 3, 4, 5, 6, 7, 8, 9], [6])])
def tattlelaw17_awake.B5 : List Nat := [0, 0, 3, 7, 15, 15, 15, 0, 159, 447, 1023]
theorem tattlelaw17_awake.tab5 : rtab .any (opsOf Try.f16 5) = tattlelaw17_awake.T5 := by kernel_rfl
theorem tattlelaw17_awake.bits5 : waitsOk tattlelaw17_awake.T5.2 tattlelaw17_awake.B5 = true := by kernel_rfl
set_option maxHeartbeats 8000000 in
set_option maxRecDepth 100000 in
theorem tattlelaw17_awake.calls  (r : Bool) (w : World) (hrt : Aside0 (r = true)) (h : tattlelaw17_awake.f  = some r) :
    Calls Try.prog 16 #[] w fun e w' => e = .returned (.bool r) ∧ Below w.heap.size w w' := by
  have hu38 := Try.underlying38
  have HB := Aside0.mk (Below.refl w.heap.size w)
  have H : ((tattlelaw17_ten.f).bind fun bt120 => ((vote_New.f).bind fun bt123 => ((vote_Ask.f bt120.1 bt120.2.1 bt120.2.2 bt123.1 bt123.2.1 bt123.2.2.1 bt123.2.2.2 2 1 5).bind fun bt127 => ((tattlelaw17_ten.f).bind fun bt134 => ((vote_Ask.f bt134.1 bt134.2.1 bt134.2.2 bt127.1 bt127.2.1 bt127.2.2.1 bt127.2.2.2.1 3 2 14).bind fun bt137 => ((tattlelaw17_ten.f).bind fun bt144 => ((vote_Ask.f bt144.1 bt144.2.1 bt144.2.2 bt137.1 bt137.2.1 bt137.2.2.1 bt137.2.2.2.1 3 2 15).bind fun bt147 => ((tattlelaw17_ten.f).bind fun bt154 => ((vote_Restart.f bt154.1 bt154.2.1 bt154.2.2 0 (-1) 0).bind fun bt157 => ((tattlelaw17_ten.f).bind fun bt163 => ((vote_Ask.f bt163.1 bt163.2.1 bt163.2.2 bt157.1 bt157.2.1 bt157.2.2.1 bt157.2.2.2.1 1 1 9).bind fun bt166 => (if bt127.2.2.2.2.1 = true then (if (bt127.1 == 1 && (bt127.2.1 == 2 && (bt127.2.2.1 == 15 && (bt127.2.2.2.1 == 0)))) = true then (if bt127.2.2.2.2.2 = 0 then (if bt137.2.2.2.2.1 = true then (some false) else (if bt137.2.2.2.2.2 = 0 then (if bt147.2.2.2.2.1 = true then (if bt147.2.2.2.2.2 = 0 then (if bt157.2.2.2.1 = 10 then (if bt157.2.2.2.2 = 0 then (if bt166.2.2.2.2.1 = true then (some false) else (some (bt166.2.2.2.2.2 == 0))) else (some false)) else (some false)) else (some false)) else (some false)) else (some false))) else (some false)) else (some false)) else (some false))))))))))))) = some r := h
  clear h
  replace H := Option.bind_eq_some_iff.mp H
  obtain ⟨⟨t120, t121, t122⟩, A10, H⟩ := H
  replace H : ((vote_New.f).bind fun bt123 => ((vote_Ask.f t120 t121 t122 bt123.1 bt123.2.1 bt123.2.2.1 bt123.2.2.2 2 1 5).bind fun bt127 => ((tattlelaw17_ten.f).bind fun bt134 => ((vote_Ask.f bt134.1 bt134.2.1 bt134.2.2 bt127.1 bt127.2.1 bt127.2.2.1 bt127.2.2.2.1 3 2 14).bind fun bt137 => ((tattlelaw17_ten.f).bind fun bt144 => ((vote_Ask.f bt144.1 bt144.2.1 bt144.2.2 bt137.1 bt137.2.1 bt137.2.2.1 bt137.2.2.2.1 3 2 15).bind fun bt147 => ((tattlelaw17_ten.f).bind fun bt154 => ((vote_Restart.f bt154.1 bt154.2.1 bt154.2.2 0 (-1) 0).bind fun bt157 => ((tattlelaw17_ten.f).bind fun bt163 => ((vote_Ask.f bt163.1 bt163.2.1 bt163.2.2 bt157.1 bt157.2.1 bt157.2.2.1 bt157.2.2.2.1 1 1 9).bind fun bt166 => (if bt127.2.2.2.2.1 = true then (if (bt127.1 == 1 && (bt127.2.1 == 2 && (bt127.2.2.1 == 15 && (bt127.2.2.2.1 == 0)))) = true then (if bt127.2.2.2.2.2 = 0 then (if bt137.2.2.2.2.1 = true then (some false) else (if bt137.2.2.2.2.2 = 0 then (if bt147.2.2.2.2.1 = true then (if bt147.2.2.2.2.2 = 0 then (if bt157.2.2.2.1 = 10 then (if bt157.2.2.2.2 = 0 then (if bt166.2.2.2.2.1 = true then (some false) else (some (bt166.2.2.2.2.2 == 0))) else (some false)) else (some false)) else (some false)) else (some false)) else (some false))) else (some false)) else (some false)) else (some false)))))))))))) = some r := H
  have A1 := Aside0.mk A10
  clear A10
  replace H := Option.bind_eq_some_iff.mp H
  obtain ⟨⟨t123, t124, t125, t126⟩, A20, H⟩ := H
  replace H : ((vote_Ask.f t120 t121 t122 t123 t124 t125 t126 2 1 5).bind fun bt127 => ((tattlelaw17_ten.f).bind fun bt134 => ((vote_Ask.f bt134.1 bt134.2.1 bt134.2.2 bt127.1 bt127.2.1 bt127.2.2.1 bt127.2.2.2.1 3 2 14).bind fun bt137 => ((tattlelaw17_ten.f).bind fun bt144 => ((vote_Ask.f bt144.1 bt144.2.1 bt144.2.2 bt137.1 bt137.2.1 bt137.2.2.1 bt137.2.2.2.1 3 2 15).bind fun bt147 => ((tattlelaw17_ten.f).bind fun bt154 => ((vote_Restart.f bt154.1 bt154.2.1 bt154.2.2 0 (-1) 0).bind fun bt157 => ((tattlelaw17_ten.f).bind fun bt163 => ((vote_Ask.f bt163.1 bt163.2.1 bt163.2.2 bt157.1 bt157.2.1 bt157.2.2.1 bt157.2.2.2.1 1 1 9).bind fun bt166 => (if bt127.2.2.2.2.1 = true then (if (bt127.1 == 1 && (bt127.2.1 == 2 && (bt127.2.2.1 == 15 && (bt127.2.2.2.1 == 0)))) = true then (if bt127.2.2.2.2.2 = 0 then (if bt137.2.2.2.2.1 = true then (some false) else (if bt137.2.2.2.2.2 = 0 then (if bt147.2.2.2.2.1 = true then (if bt147.2.2.2.2.2 = 0 then (if bt157.2.2.2.1 = 10 then (if bt157.2.2.2.2 = 0 then (if bt166.2.2.2.2.1 = true then (some false) else (some (bt166.2.2.2.2.2 == 0))) else (some false)) else (some false)) else (some false)) else (some false)) else (some false))) else (some false)) else (some false)) else (some false))))))))))) = some r := H
  have A2 := Aside0.mk A20
  clear A20
  replace H := Option.bind_eq_some_iff.mp H
  obtain ⟨⟨t127, t128, t129, t130, t131, t132⟩, A30, H⟩ := H
  replace H : ((tattlelaw17_ten.f).bind fun bt134 => ((vote_Ask.f bt134.1 bt134.2.1 bt134.2.2 t127 t128 t129 t130 3 2 14).bind fun bt137 => ((tattlelaw17_ten.f).bind fun bt144 => ((vote_Ask.f bt144.1 bt144.2.1 bt144.2.2 bt137.1 bt137.2.1 bt137.2.2.1 bt137.2.2.2.1 3 2 15).bind fun bt147 => ((tattlelaw17_ten.f).bind fun bt154 => ((vote_Restart.f bt154.1 bt154.2.1 bt154.2.2 0 (-1) 0).bind fun bt157 => ((tattlelaw17_ten.f).bind fun bt163 => ((vote_Ask.f bt163.1 bt163.2.1 bt163.2.2 bt157.1 bt157.2.1 bt157.2.2.1 bt157.2.2.2.1 1 1 9).bind fun bt166 => (if t131 = true then (if (t127 == 1 && (t128 == 2 && (t129 == 15 && (t130 == 0)))) = true then (if t132 = 0 then (if bt137.2.2.2.2.1 = true then (some false) else (if bt137.2.2.2.2.2 = 0 then (if bt147.2.2.2.2.1 = true then (if bt147.2.2.2.2.2 = 0 then (if bt157.2.2.2.1 = 10 then (if bt157.2.2.2.2 = 0 then (if bt166.2.2.2.2.1 = true then (some false) else (some (bt166.2.2.2.2.2 == 0))) else (some false)) else (some false)) else (some false)) else (some false)) else (some false))) else (some false)) else (some false)) else (some false)))))))))) = some r := H
  have A3 := Aside0.mk A30
  clear A30
  replace H := Option.bind_eq_some_iff.mp H
  obtain ⟨⟨t134, t135, t136⟩, A40, H⟩ := H
  replace H : ((vote_Ask.f t134 t135 t136 t127 t128 t129 t130 3 2 14).bind fun bt137 => ((tattlelaw17_ten.f).bind fun bt144 => ((vote_Ask.f bt144.1 bt144.2.1 bt144.2.2 bt137.1 bt137.2.1 bt137.2.2.1 bt137.2.2.2.1 3 2 15).bind fun bt147 => ((tattlelaw17_ten.f).bind fun bt154 => ((vote_Restart.f bt154.1 bt154.2.1 bt154.2.2 0 (-1) 0).bind fun bt157 => ((tattlelaw17_ten.f).bind fun bt163 => ((vote_Ask.f bt163.1 bt163.2.1 bt163.2.2 bt157.1 bt157.2.1 bt157.2.2.1 bt157.2.2.2.1 1 1 9).bind fun bt166 => (if t131 = true then (if (t127 == 1 && (t128 == 2 && (t129 == 15 && (t130 == 0)))) = true then (if t132 = 0 then (if bt137.2.2.2.2.1 = true then (some false) else (if bt137.2.2.2.2.2 = 0 then (if bt147.2.2.2.2.1 = true then (if bt147.2.2.2.2.2 = 0 then (if bt157.2.2.2.1 = 10 then (if bt157.2.2.2.2 = 0 then (if bt166.2.2.2.2.1 = true then (some false) else (some (bt166.2.2.2.2.2 == 0))) else (some false)) else (some false)) else (some false)) else (some false)) else (some false))) else (some false)) else (some false)) else (some false))))))))) = some r := H
  have A4 := Aside0.mk A40
  clear A40
  replace H := Option.bind_eq_some_iff.mp H
  obtain ⟨⟨t137, t138, t139, t140, t141, t142⟩, A50, H⟩ := H
  replace H : ((tattlelaw17_ten.f).bind fun bt144 => ((vote_Ask.f bt144.1 bt144.2.1 bt144.2.2 t137 t138 t139 t140 3 2 15).bind fun bt147 => ((tattlelaw17_ten.f).bind fun bt154 => ((vote_Restart.f bt154.1 bt154.2.1 bt154.2.2 0 (-1) 0).bind fun bt157 => ((tattlelaw17_ten.f).bind fun bt163 => ((vote_Ask.f bt163.1 bt163.2.1 bt163.2.2 bt157.1 bt157.2.1 bt157.2.2.1 bt157.2.2.2.1 1 1 9).bind fun bt166 => (if t131 = true then (if (t127 == 1 && (t128 == 2 && (t129 == 15 && (t130 == 0)))) = true then (if t132 = 0 then (if t141 = true then (some false) else (if t142 = 0 then (if bt147.2.2.2.2.1 = true then (if bt147.2.2.2.2.2 = 0 then (if bt157.2.2.2.1 = 10 then (if bt157.2.2.2.2 = 0 then (if bt166.2.2.2.2.1 = true then (some false) else (some (bt166.2.2.2.2.2 == 0))) else (some false)) else (some false)) else (some false)) else (some false)) else (some false))) else (some false)) else (some false)) else (some false)))))))) = some r := H
  have A5 := Aside0.mk A50
  clear A50
  replace H := Option.bind_eq_some_iff.mp H
  obtain ⟨⟨t144, t145, t146⟩, A60, H⟩ := H
  replace H : ((vote_Ask.f t144 t145 t146 t137 t138 t139 t140 3 2 15).bind fun bt147 => ((tattlelaw17_ten.f).bind fun bt154 => ((vote_Restart.f bt154.1 bt154.2.1 bt154.2.2 0 (-1) 0).bind fun bt157 => ((tattlelaw17_ten.f).bind fun bt163 => ((vote_Ask.f bt163.1 bt163.2.1 bt163.2.2 bt157.1 bt157.2.1 bt157.2.2.1 bt157.2.2.2.1 1 1 9).bind fun bt166 => (if t131 = true then (if (t127 == 1 && (t128 == 2 && (t129 == 15 && (t130 == 0)))) = true then (if t132 = 0 then (if t141 = true then (some false) else (if t142 = 0 then (if bt147.2.2.2.2.1 = true then (if bt147.2.2.2.2.2 = 0 then (if bt157.2.2.2.1 = 10 then (if bt157.2.2.2.2 = 0 then (if bt166.2.2.2.2.1 = true then (some false) else (some (bt166.2.2.2.2.2 == 0))) else (some false)) else (some false)) else (some false)) else (some false)) else (some false))) else (some false)) else (some false)) else (some false))))))) = some r := H
  have A6 := Aside0.mk A60
  clear A60
  replace H := Option.bind_eq_some_iff.mp H
  obtain ⟨⟨t147, t148, t149, t150, t151, t152⟩, A70, H⟩ := H
  replace H : ((tattlelaw17_ten.f).bind fun bt154 => ((vote_Restart.f bt154.1 bt154.2.1 bt154.2.2 0 (-1) 0).bind fun bt157 => ((tattlelaw17_ten.f).bind fun bt163 => ((vote_Ask.f bt163.1 bt163.2.1 bt163.2.2 bt157.1 bt157.2.1 bt157.2.2.1 bt157.2.2.2.1 1 1 9).bind fun bt166 => (if t131 = true then (if (t127 == 1 && (t128 == 2 && (t129 == 15 && (t130 == 0)))) = true then (if t132 = 0 then (if t141 = true then (some false) else (if t142 = 0 then (if t151 = true then (if t152 = 0 then (if bt157.2.2.2.1 = 10 then (if bt157.2.2.2.2 = 0 then (if bt166.2.2.2.2.1 = true then (some false) else (some (bt166.2.2.2.2.2 == 0))) else (some false)) else (some false)) else (some false)) else (some false)) else (some false))) else (some false)) else (some false)) else (some false)))))) = some r := H
  have A7 := Aside0.mk A70
  clear A70
  replace H := Option.bind_eq_some_iff.mp H
  obtain ⟨⟨t154, t155, t156⟩, A80, H⟩ := H
  replace H : ((vote_Restart.f t154 t155 t156 0 (-1) 0).bind fun bt157 => ((tattlelaw17_ten.f).bind fun bt163 => ((vote_Ask.f bt163.1 bt163.2.1 bt163.2.2 bt157.1 bt157.2.1 bt157.2.2.1 bt157.2.2.2.1 1 1 9).bind fun bt166 => (if t131 = true then (if (t127 == 1 && (t128 == 2 && (t129 == 15 && (t130 == 0)))) = true then (if t132 = 0 then (if t141 = true then (some false) else (if t142 = 0 then (if t151 = true then (if t152 = 0 then (if bt157.2.2.2.1 = 10 then (if bt157.2.2.2.2 = 0 then (if bt166.2.2.2.2.1 = true then (some false) else (some (bt166.2.2.2.2.2 == 0))) else (some false)) else (some false)) else (some false)) else (some false)) else (some false))) else (some false)) else (some false)) else (some false))))) = some r := H
  have A8 := Aside0.mk A80
  clear A80
  replace H := Option.bind_eq_some_iff.mp H
  obtain ⟨⟨t157, t158, t159, t160, t161⟩, A90, H⟩ := H
  replace H : ((tattlelaw17_ten.f).bind fun bt163 => ((vote_Ask.f bt163.1 bt163.2.1 bt163.2.2 t157 t158 t159 t160 1 1 9).bind fun bt166 => (if t131 = true then (if (t127 == 1 && (t128 == 2 && (t129 == 15 && (t130 == 0)))) = true then (if t132 = 0 then (if t141 = true then (some false) else (if t142 = 0 then (if t151 = true then (if t152 = 0 then (if t160 = 10 then (if t161 = 0 then (if bt166.2.2.2.2.1 = true then (some false) else (some (bt166.2.2.2.2.2 == 0))) else (some false)) else (some false)) else (some false)) else (some false)) else (some false))) else (some false)) else (some false)) else (some false)))) = some r := H
  have A9 := Aside0.mk A90
  clear A90
  replace H := Option.bind_eq_some_iff.mp H
  obtain ⟨⟨t163, t164, t165⟩, A100, H⟩ := H
  replace H : ((vote_Ask.f t163 t164 t165 t157 t158 t159 t160 1 1 9).bind fun bt166 => (if t131 = true then (if (t127 == 1 && (t128 == 2 && (t129 == 15 && (t130 == 0)))) = true then (if t132 = 0 then (if t141 = true then (some false) else (if t142 = 0 then (if t151 = true then (if t152 = 0 then (if t160 = 10 then (if t161 = 0 then (if bt166.2.2.2.2.1 = true then (some false) else (some (bt166.2.2.2.2.2 == 0))) else (some false)) else (some false)) else (some false)) else (some false)) else (some false))) else (some false)) else (some false)) else (some false))) = some r := H
  have A10 := Aside0.mk A100
  clear A100
  replace H := Option.bind_eq_some_iff.mp H
  obtain ⟨⟨t166, t167, t168, t169, t170, t171⟩, A110, H⟩ := H
  replace H : (if t131 = true then (if (t127 == 1 && (t128 == 2 && (t129 == 15 && (t130 == 0)))) = true then (if t132 = 0 then (if t141 = true then (some false) else (if t142 = 0 then (if t151 = true then (if t152 = 0 then (if t160 = 10 then (if t161 = 0 then (if t170 = true then (some false) else (some (t171 == 0))) else (some false)) else (some false)) else (some false)) else (some false)) else (some false))) else (some false)) else (some false)) else (some false)) = some r := H
  have A11 := Aside0.mk A110
  clear A110
  by_cases c12 : t131 = true
  · subst c12
    have H1 : (if (t127 == 1 && (t128 == 2 && (t129 == 15 && (t130 == 0)))) = true then (if t132 = 0 then (if t141 = true then (some false) else (if t142 = 0 then (if t151 = true then (if t152 = 0 then (if t160 = 10 then (if t161 = 0 then (if t170 = true then (some false) else (some (t171 == 0))) else (some false)) else (some false)) else (some false)) else (some false)) else (some false))) else (some false)) else (some false)) = some r := by rw [if_pos rfl] at H; exact H
    clear H
    have H := H1
    clear H1
    by_cases c13 : (t127 == 1 && (t128 == 2 && (t129 == 15 && (t130 == 0)))) = true
    · rw [if_pos c13] at H
      have c13b0 : (t127 == 1 && (t128 == 2 && (t129 == 15 && (t130 == 0)))) = true := c13
      (try (have c13b1 : decide (t127 = 1 && (t128 == 2 && (t129 == 15 && (t130 == 0)))) = true := by simpa using c13))
      (try (have c13b2 : (t127 == 1 && (t128 == 2 && (t129 == 15 && (t130 == 0)))) = true := by simpa using c13))
      clear c13
      by_cases c14 : t132 = 0
      · rw [if_pos c14] at H
        have c14b0 : (t132 == 0) = true := beq_iff_eq.mpr c14
        have c14b1 : (t132 != 0) = false := bne_eq_false_iff_eq.mpr c14
        clear c14
        by_cases c15 : t141 = true
        · subst c15
          have H1 : (some false) = some r := by rw [if_pos rfl] at H; exact H
          clear H
          have H := H1
          clear H1
          exact absurd ((Option.some.inj H).trans hrt.out) (by decide)
        · replace c15 := Bool.eq_false_iff.mpr c15
          subst c15
          have H1 : (if t142 = 0 then (if t151 = true then (if t152 = 0 then (if t160 = 10 then (if t161 = 0 then (if t170 = true then (some false) else (some (t171 == 0))) else (some false)) else (some false)) else (some false)) else (some false)) else (some false)) = some r := by rw [if_neg (show ¬ (false = true) by decide)] at H; exact H
          clear H
          have H := H1
          clear H1
          by_cases c16 : t142 = 0
          · rw [if_pos c16] at H
            have c16b0 : (t142 == 0) = true := beq_iff_eq.mpr c16
            have c16b1 : (t142 != 0) = false := bne_eq_false_iff_eq.mpr c16
            clear c16
            by_cases c17 : t151 = true
            · subst c17
              have H1 : (if t152 = 0 then (if t160 = 10 then (if t161 = 0 then (if t170 = true then (some false) else (some (t171 == 0))) else (some false)) else (some false)) else (some false)) = some r := by rw [if_pos rfl] at H; exact H
              clear H
              have H := H1
              clear H1
              by_cases c18 : t152 = 0
              · rw [if_pos c18] at H
                have c18b0 : (t152 == 0) = true := beq_iff_eq.mpr c18
                have c18b1 : (t152 != 0) = false := bne_eq_false_iff_eq.mpr c18
                clear c18
                by_cases c19 : t160 = 10
                · rw [if_pos c19] at H
                  have c19b0 : (t160 == 10) = true := beq_iff_eq.mpr c19
                  have c19b1 : (t160 != 10) = false := bne_eq_false_iff_eq.mpr c19
                  clear c19
                  by_cases c20 : t161 = 0
                  · rw [if_pos c20] at H
                    have c20b0 : (t161 == 0) = true := beq_iff_eq.mpr c20
                    have c20b1 : (t161 != 0) = false := bne_eq_false_iff_eq.mpr c20
                    clear c20
                    by_cases c21 : t170 = true
                    · subst c21
                      have H1 : (some false) = some r := by rw [if_pos rfl] at H; exact H
                      clear H
                      have H := H1
                      clear H1
                      exact absurd ((Option.some.inj H).trans hrt.out) (by decide)
                    · replace c21 := Bool.eq_false_iff.mpr c21
                      subst c21
                      have H1 : (some (t171 == 0)) = some r := by rw [if_neg (show ¬ (false = true) by decide)] at H; exact H
                      clear H
                      have H := H1
                      clear H1
                      obtain rfl := Option.some.inj H
                      go_enter Try.func16, Try.ntmps16
                      try go_wp2_with (first | ((with_reducible refine gate_callee (f := 39) rfl ?_); refine goesL_ (some 16) rfl rfl Try.func39 (by kernel_rfl) rfl #[] rfl (by (try simp only [List.map_toArray, List.map_cons, List.map_nil]); first | done | rfl | (simp only [List.length_drop, List.length_take]; rfl)) ?_; (with_reducible refine (tattlelaw17_ten.calls  t120 t121 t122 _ A1.out).mono ?_); rintro e w22 ⟨rfl, hb⟩; refine ⟨_, rfl, ?_⟩; have n0_ := Aside0.mk (below_step (by repeat (first | (with_reducible first | exact HB.out | apply below_alloc | apply pw_below_drewN | apply below_drew1) | exact HB.out)) hb); clear HB; have HB := n0_; clear n0_; (try clear hb); (try clear hb2); (try clear hk); (try clear hi)) | ((with_reducible refine gate_callee (f := 40) rfl ?_); refine goesL_ (some 17) rfl rfl Try.func40 (by kernel_rfl) rfl #[] rfl (by (try simp only [List.map_toArray, List.map_cons, List.map_nil]); first | done | rfl | (simp only [List.length_drop, List.length_take]; rfl)) ?_; (with_reducible refine (vote_New.calls  t123 t124 t125 t126 _ A2.out).mono ?_); rintro e w23 ⟨rfl, hb⟩; refine ⟨_, rfl, ?_⟩; have n0_ := Aside0.mk (below_step (by repeat (first | (with_reducible first | exact HB.out | apply below_alloc | apply pw_below_drewN | apply below_drew1) | exact HB.out)) hb); clear HB; have HB := n0_; clear n0_; (try clear hb); (try clear hb2); (try clear hk); (try clear hi)) | ((with_reducible refine gate_callee (f := 18) rfl ?_); refine goesL_ (some 18) rfl rfl Try.func18 (by kernel_rfl) rfl #[.agg #[.int .i64 t120, .int .i64 t121, .int .i64 t122], .agg #[.int .u64 t123, .int .i64 t124, .int .i64 t125, .int .i64 t126], .int .i64 2, .int .u64 1, .int .i64 5] rfl (by (try simp only [List.map_toArray, List.map_cons, List.map_nil]); first | done | rfl | (simp only [List.length_drop, List.length_take]; rfl)) ?_; (with_reducible refine (vote_Ask.calls t120 t121 t122 t123 t124 t125 t126 2 1 5 t127 t128 t129 t130 true t132 _ A3.out).mono ?_); rintro e w24 ⟨rfl, hb⟩; refine ⟨_, rfl, ?_⟩; have n0_ := Aside0.mk (below_step (by repeat (first | (with_reducible first | exact HB.out | apply below_alloc | apply pw_below_drewN | apply below_drew1) | exact HB.out)) hb); clear HB; have HB := n0_; clear n0_; (try clear hb); (try clear hb2); (try clear hk); (try clear hi)) | ((with_reducible refine gate_dst (N := 1) rfl ?_); refine box_event ?hg (N := 1) ?hd (cs := #[.int .u64 0, .int .i64 0, .int .i64 0, .int .i64 0]) (t := 38) ?hr ?_; (case hd => rfl); (case hg => rfl); (case hr => first | (go_simp; done) | (go_simp; rfl)); intro gb133 hg w25 hbox hb; have n0_ := Aside0.mk (below_step (by repeat (first | (with_reducible first | exact HB.out | apply below_alloc | apply pw_below_drewN | apply below_drew1) | exact HB.out)) hb); have n1_ := Aside0.mk (hbox); have n2_ := Aside0.mk ((by rw [hg]; exact (below_size (by repeat (first | (with_reducible first | exact HB.out | apply below_alloc | apply pw_below_drewN | apply below_drew1) | exact HB.out))) : w.heap.size ≤ gb133)); have n3_ := Aside0.mk ((by rw [hg]; exact (below_size (by repeat (first | (with_reducible first | exact HB.out | apply below_alloc | apply pw_below_drewN | apply below_drew1) | exact HB.out))) : w.heap.size ≤ gb133)); clear HB; have HB := n0_; have BK133 := n1_; have GW133 := n2_; have GE133 := n3_; clear n0_ n1_ n2_ n3_; clear hb hbox hg; have hcz26_0 : w25.cell? ⟨gb133, 0, none⟩ = some (.int .u64 0) := (blk_cell BK133.out 0).trans rfl; have hcz26_1 : w25.cell? ⟨gb133, 1, none⟩ = some (.int .i64 0) := (blk_cell BK133.out 1).trans rfl; have hcz26_2 : w25.cell? ⟨gb133, 2, none⟩ = some (.int .i64 0) := (blk_cell BK133.out 2).trans rfl; have hcz26_3 : w25.cell? ⟨gb133, 3, none⟩ = some (.int .i64 0) := (blk_cell BK133.out 3).trans rfl; have hfz26_0 := blk_frozen BK133.out 0; have hfz26_1 := blk_frozen BK133.out 1; have hfz26_2 := blk_frozen BK133.out 2; have hfz26_3 := blk_frozen BK133.out 3))
                      have n0_ : Aside0 (((((w25.setCell ⟨gb133, 0, none⟩ (.int .u64 t127)).setCell ⟨gb133, 1, none⟩ (.int .i64 t128)).setCell ⟨gb133, 2, none⟩ (.int .i64 t129)).setCell ⟨gb133, 3, none⟩ (.int .i64 t130)).heap[gb133]? = some (.cells #[.int .u64 t127, .int .i64 t128, .int .i64 t129, .int .i64 t130] 38 (0, 0))) := ⟨by (with_reducible repeat (first | refine blk_drewN ?_ _ | refine blk_drew ?_ | refine blk_alloc ?_ _)); refine blk_put (cs := #[.int .u64 t127, .int .i64 t128, .int .i64 t129, .int .i64 0]) ?_ 3 _ rfl; (with_reducible repeat (first | refine blk_drewN ?_ _ | refine blk_drew ?_ | refine blk_alloc ?_ _)); refine blk_put (cs := #[.int .u64 t127, .int .i64 t128, .int .i64 0, .int .i64 0]) ?_ 2 _ rfl; (with_reducible repeat (first | refine blk_drewN ?_ _ | refine blk_drew ?_ | refine blk_alloc ?_ _)); refine blk_put (cs := #[.int .u64 t127, .int .i64 0, .int .i64 0, .int .i64 0]) ?_ 1 _ rfl; (with_reducible repeat (first | refine blk_drewN ?_ _ | refine blk_drew ?_ | refine blk_alloc ?_ _)); refine blk_put (cs := #[.int .u64 0, .int .i64 0, .int .i64 0, .int .i64 0]) ?_ 0 _ rfl; (with_reducible repeat (first | refine blk_drewN ?_ _ | refine blk_drew ?_ | refine blk_alloc ?_ _)); exact BK133.out⟩
                      have n1_ : Aside0 (Below w.heap.size w ((((w25.setCell ⟨gb133, 0, none⟩ (.int .u64 t127)).setCell ⟨gb133, 1, none⟩ (.int .i64 t128)).setCell ⟨gb133, 2, none⟩ (.int .i64 t129)).setCell ⟨gb133, 3, none⟩ (.int .i64 t130))) := ⟨by repeat (first | (with_reducible first | exact HB.out | apply below_alloc | apply pw_below_drewN | apply below_drew1 | refine below_set ?_ GE133.out) | exact HB.out)⟩
                      (try clear BK133)
                      (try clear HB)
                      generalize ((((w25.setCell ⟨gb133, 0, none⟩ (.int .u64 t127)).setCell ⟨gb133, 1, none⟩ (.int .i64 t128)).setCell ⟨gb133, 2, none⟩ (.int .i64 t129)).setCell ⟨gb133, 3, none⟩ (.int .i64 t130)) = w27 at n0_ n1_ ⊢
                      have BK133 := n0_
                      have HB := n1_
                      clear n0_ n1_
                      have n0_ := Aside0.mk (blk_drew BK133.out)
                      have n1_ := Aside0.mk (below_drew1 HB.out)
                      clear BK133
                      clear HB
                      have BK133 := n0_
                      have HB := n1_
                      clear n0_ n1_
                      refine start_ (n := 11) (S := fun w' => w'.cell? ⟨gb133, 0, none⟩ = some (.int .u64 t127) ∧ w'.cell? ⟨gb133, 1, none⟩ = some (.int .i64 t128) ∧ w'.cell? ⟨gb133, 2, none⟩ = some (.int .i64 t129) ∧ w'.cell? ⟨gb133, 3, none⟩ = some (.int .i64 t130)) (ds := []) #[false, false, false, false, false, false, false, false, false, false, false] (by kernel_rfl) rfl rfl ⟨(blk_cell BK133.out 0).trans rfl, (blk_cell BK133.out 1).trans rfl, (blk_cell BK133.out 2).trans rfl, (blk_cell BK133.out 3).trans rfl⟩ (fun hHeld => ?_); refine with_tabW tattlelaw17_awake.tab2 tattlelaw17_awake.bits2 (fun HT_ HW_ => ?_)
                      generalize w27.drew = w28 at BK133 HB hHeld ⊢
                      refine take_ (i := 1) (N := some 24) (v := ?_) (a' := ?_) #[false, true, false, false, false, false, false, false, false, false, false] rfl rfl (take_ofW HT_.out HW_.out (by kernel_rfl)) (fun _ _ _ h => h) (Or.inl ⟨by rfl, ?_⟩) hHeld ?_ ?_
                      rotate_left
                      · rintro w' ⟨s0, s1, s2, s3⟩
                        go_simp
                        with_reducible rfl
                      rotate_left
                      · simp only [Act.put, List.setIfInBounds_toArray, List.set_cons_zero, List.set_cons_succ, i64_w, i32_w]
                        rfl
                      refine join_ (σ := Nat) 3 #[true, true, true, true, true, true, true, true, false, false, false] (fun s_ => [(23, .agg #[.int .i64 t134, .int .i64 t135, .int .i64 t136]), (25, .tuple #[.agg #[.int .u64 t137, .int .i64 t138, .int .i64 t139, .int .i64 t140], .bool false, .int .i64 t142]), (4, .pointer (some ⟨s_, 0, none⟩)), (22, .tuple #[.agg #[.int .u64 t137, .int .i64 t138, .int .i64 t139, .int .i64 t140], .bool false, .int .i64 t142]), (26, .agg #[.int .u64 t137, .int .i64 t138, .int .i64 t139, .int .i64 t140]), (27, .bool false), (28, .int .i64 t142)]) (fun s_ w' => (w'.cell? ⟨gb133, 0, none⟩ = some (.int .u64 t127) ∧ w'.cell? ⟨gb133, 1, none⟩ = some (.int .i64 t128) ∧ w'.cell? ⟨gb133, 2, none⟩ = some (.int .i64 t129) ∧ w'.cell? ⟨gb133, 3, none⟩ = some (.int .i64 t130)) ∧ (w'.heap[gb133]? = some (.cells #[.int .u64 t127, .int .i64 t128, .int .i64 t129, .int .i64 t130] 38 (0, 0))) ∧ (w'.heap[s_]? = some (.cells #[.int .u64 0, .int .i64 0, .int .i64 0, .int .i64 0] 38 (0, 0))) ∧ (w.heap.size ≤ s_) ∧ (w.heap.size ≤ s_) ∧ (gb133 ≠ s_) ∧ (s_ ≠ gb133) ∧ (Below w.heap.size w w')) ?_ ?_
                      rotate_left
                      · intro hCont
                        refine two_ (i := 0) (j := 7) (Ni := some 23) (Nj := some 4) #[true, true, false, false, false, false, false, false, false, false, false] #[false, true, false, false, false, false, false, true, false, false, false] rfl rfl rfl rfl (two_of HT_.out (by kernel_rfl)) (by decide) (by decide) (fun K hK => ?_) (fun K hK => ?_)
                        · skip
                          refine goes_ Try.func39 (by kernel_rfl) rfl #[] (by rfl) rfl rfl (by (try simp only [List.map_toArray, List.map_cons, List.map_nil]); first | done | rfl | (simp only [List.length_drop, List.length_take]; rfl)) ?_
                          with_reducible refine (tattlelaw17_ten.calls  t134 t135 t136 _ A4.out).mono ?_
                          rintro e w29 ⟨rfl, hb⟩
                          refine ⟨_, rfl, ?_⟩
                          have n0_ := Aside0.mk (blk_below (g := gb133) (o := .cells #[.int .u64 t127, .int .i64 t128, .int .i64 t129, .int .i64 t130] 38 (0, 0)) (by (with_reducible repeat (first | refine blk_drewN ?_ _ | refine blk_drew ?_ | refine blk_alloc ?_ _)); exact BK133.out) hb)
                          have n1_ := Aside0.mk (below_step (by repeat (first | (with_reducible first | exact HB.out | apply below_alloc | apply pw_below_drewN | apply below_drew1 | refine below_set ?_ GE133.out) | exact HB.out)) hb)
                          clear BK133
                          clear HB
                          have BK133 := n0_
                          have HB := n1_
                          clear n0_ n1_
                          (try clear hb)
                          (try clear hb2)
                          (try clear hk)
                          (try clear hi)
                          refine hK.out _ _ ⟨(blk_cell BK133.out 0).trans rfl, (blk_cell BK133.out 1).trans rfl, (blk_cell BK133.out 2).trans rfl, (blk_cell BK133.out 3).trans rfl⟩ (fun hHeld => ?_)
                          clear hK K
                          refine norm_ (a' := ?_) ?_ ?_
                          rotate_left
                          · show Act.put _ (some 23) _ = _
                            simp only [Act.put, List.setIfInBounds_toArray, List.set_cons_zero, List.set_cons_succ, i64_w, i32_w]
                            rfl
                          refine two_ (i := 2) (j := 7) (Ni := some 25) (Nj := some 4) #[true, true, true, false, false, false, false, false, false, false, false] #[true, true, false, false, false, false, false, true, false, false, false] rfl rfl rfl rfl (two_of HT_.out (by kernel_rfl)) (by decide) (by decide) (fun K hK => ?_) (fun K hK => ?_)
                          · skip
                            refine goes_ Try.func18 (by kernel_rfl) rfl #[.agg #[.int .i64 t134, .int .i64 t135, .int .i64 t136], .agg #[.int .u64 t127, .int .i64 t128, .int .i64 t129, .int .i64 t130], .int .i64 3, .int .u64 2, .int .i64 14] (by rfl) rfl rfl (by (try simp only [List.map_toArray, List.map_cons, List.map_nil]); first | done | rfl | (simp only [List.length_drop, List.length_take]; rfl)) ?_
                            with_reducible refine (vote_Ask.calls t134 t135 t136 t127 t128 t129 t130 3 2 14 t137 t138 t139 t140 false t142 _ A5.out).mono ?_
                            rintro e w30 ⟨rfl, hb⟩
                            refine ⟨_, rfl, ?_⟩
                            have n0_ := Aside0.mk (blk_below (g := gb133) (o := .cells #[.int .u64 t127, .int .i64 t128, .int .i64 t129, .int .i64 t130] 38 (0, 0)) (by (with_reducible repeat (first | refine blk_drewN ?_ _ | refine blk_drew ?_ | refine blk_alloc ?_ _)); exact BK133.out) hb)
                            have n1_ := Aside0.mk (below_step (by repeat (first | (with_reducible first | exact HB.out | apply below_alloc | apply pw_below_drewN | apply below_drew1 | refine below_set ?_ GE133.out) | exact HB.out)) hb)
                            clear BK133
                            clear HB
                            have BK133 := n0_
                            have HB := n1_
                            clear n0_ n1_
                            (try clear hb)
                            (try clear hb2)
                            (try clear hk)
                            (try clear hi)
                            refine hK.out _ _ ⟨(blk_cell BK133.out 0).trans rfl, (blk_cell BK133.out 1).trans rfl, (blk_cell BK133.out 2).trans rfl, (blk_cell BK133.out 3).trans rfl⟩ (fun hHeld => ?_)
                            clear hK K
                            refine norm_ (a' := ?_) ?_ ?_
                            rotate_left
                            · show Act.put _ (some 25) _ = _
                              simp only [Act.put, List.setIfInBounds_toArray, List.set_cons_zero, List.set_cons_succ, i64_w, i32_w]
                              rfl
                            refine pure_ (i := 3) (N := some 22) (v := ?_) (a' := ?_) #[true, true, true, true, false, false, false, false, false, false, false] rfl rfl (any_of HT_.out (by kernel_rfl)) (fun _ _ _ h => h) (Or.inl ⟨by rfl, ?_⟩) ?_ ?_
                            rotate_left
                            · intro w'
                              go_simp
                              with_reducible rfl
                            rotate_left
                            · simp only [Act.put, List.setIfInBounds_toArray, List.set_cons_zero, List.set_cons_succ, i64_w, i32_w]
                              rfl
                            refine pure_ (i := 4) (N := some 26) (v := ?_) (a' := ?_) #[true, true, true, true, true, false, false, false, false, false, false] rfl rfl (any_of HT_.out (by kernel_rfl)) (fun _ _ _ h => h) (Or.inl ⟨by rfl, ?_⟩) ?_ ?_
                            rotate_left
                            · intro w'
                              go_simp
                              with_reducible rfl
                            rotate_left
                            · simp only [Act.put, List.setIfInBounds_toArray, List.set_cons_zero, List.set_cons_succ, i64_w, i32_w]
                              rfl
                            refine pure_ (i := 5) (N := some 27) (v := ?_) (a' := ?_) #[true, true, true, true, true, true, false, false, false, false, false] rfl rfl (any_of HT_.out (by kernel_rfl)) (fun _ _ _ h => h) (Or.inl ⟨by rfl, ?_⟩) ?_ ?_
                            rotate_left
                            · intro w'
                              go_simp
                              with_reducible rfl
                            rotate_left
                            · simp only [Act.put, List.setIfInBounds_toArray, List.set_cons_zero, List.set_cons_succ, i64_w, i32_w]
                              rfl
                            refine pure_ (i := 6) (N := some 28) (v := ?_) (a' := ?_) #[true, true, true, true, true, true, true, false, false, false, false] rfl rfl (any_of HT_.out (by kernel_rfl)) (fun _ _ _ h => h) (Or.inl ⟨by rfl, ?_⟩) ?_ ?_
                            rotate_left
                            · intro w'
                              go_simp
                              with_reducible rfl
                            rotate_left
                            · simp only [Act.put, List.setIfInBounds_toArray, List.set_cons_zero, List.set_cons_succ, i64_w, i32_w]
                              rfl
                            refine one_ (i := 7) (N := some 4) #[true, true, true, true, true, true, true, true, false, false, false] rfl rfl (one_of HT_.out (by kernel_rfl)) (by decide) (fun K hK => ?_)
                            refine box_step ?hg (N := 4) ?hd (cs := #[.int .u64 0, .int .i64 0, .int .i64 0, .int .i64 0]) (t := 38) ?hr ?_; (case hd => rfl); (case hg => rfl); (case hr => first | (go_simp; done) | (go_simp; rfl))
                            intro gb143 hg w31 hbox hb
                            have n0_ := Aside0.mk (blk_below (g := gb133) (o := .cells #[.int .u64 t127, .int .i64 t128, .int .i64 t129, .int .i64 t130] 38 (0, 0)) (by (with_reducible repeat (first | refine blk_drewN ?_ _ | refine blk_drew ?_ | refine blk_alloc ?_ _)); exact BK133.out) hb)
                            have n1_ := Aside0.mk (below_step (by repeat (first | (with_reducible first | exact HB.out | apply below_alloc | apply pw_below_drewN | apply below_drew1 | refine below_set ?_ GE133.out) | exact HB.out)) hb)
                            have n2_ := Aside0.mk (hbox)
                            have n3_ := Aside0.mk ((by rw [hg]; exact (below_size (by repeat (first | (with_reducible first | exact HB.out | apply below_alloc | apply pw_below_drewN | apply below_drew1 | refine below_set ?_ GE133.out) | exact HB.out))) : w.heap.size ≤ gb143))
                            have n4_ := Aside0.mk ((by rw [hg]; exact (below_size (by repeat (first | (with_reducible first | exact HB.out | apply below_alloc | apply pw_below_drewN | apply below_drew1 | refine below_set ?_ GE133.out) | exact HB.out))) : w.heap.size ≤ gb143))
                            have n5_ := Aside0.mk ((by rw [hg]; exact Nat.ne_of_lt (blk_lt (g := gb133) (o := .cells #[.int .u64 t127, .int .i64 t128, .int .i64 t129, .int .i64 t130] 38 (0, 0)) (by (with_reducible repeat (first | refine blk_drewN ?_ _ | refine blk_drew ?_ | refine blk_alloc ?_ _)); exact BK133.out)) : gb133 ≠ gb143))
                            have n6_ := Aside0.mk ((by rw [hg]; exact Nat.ne_of_gt (blk_lt (g := gb133) (o := .cells #[.int .u64 t127, .int .i64 t128, .int .i64 t129, .int .i64 t130] 38 (0, 0)) (by (with_reducible repeat (first | refine blk_drewN ?_ _ | refine blk_drew ?_ | refine blk_alloc ?_ _)); exact BK133.out)) : gb143 ≠ gb133))
                            clear BK133
                            clear HB
                            have BK133 := n0_
                            have HB := n1_
                            have BK143 := n2_
                            have GW143 := n3_
                            have GE143 := n4_
                            have NB133_143 := n5_
                            have NB143_133 := n6_
                            clear n0_ n1_ n2_ n3_ n4_ n5_ n6_
                            clear hb hbox hg
                            refine hK.out _ _ ⟨(blk_cell BK133.out 0).trans rfl, (blk_cell BK133.out 1).trans rfl, (blk_cell BK133.out 2).trans rfl, (blk_cell BK133.out 3).trans rfl⟩ (fun hHeld => ?_)
                            clear hK K
                            refine norm_ (a' := ?_) ?_ ?_
                            rotate_left
                            · show Act.put _ (some 4) _ = _
                              simp only [Act.put, List.setIfInBounds_toArray, List.set_cons_zero, List.set_cons_succ, i64_w, i32_w]
                              rfl
                            exact norm_ (by simp only [putAll, Act.put, List.setIfInBounds_toArray, List.set_cons_zero, List.set_cons_succ]) (hCont (gb143) _ ⟨hHeld, (by (with_reducible repeat (first | refine blk_drewN ?_ _ | refine blk_drew ?_ | refine blk_alloc ?_ _)); exact BK133.out), (by (with_reducible repeat (first | refine blk_drewN ?_ _ | refine blk_drew ?_ | refine blk_alloc ?_ _)); exact BK143.out), GW143.out, GE143.out, NB133_143.out, NB143_133.out, (by repeat (first | (with_reducible first | exact HB.out | apply below_alloc | apply pw_below_drewN | apply below_drew1 | refine below_set ?_ GE133.out | refine below_set ?_ GE143.out) | exact HB.out))⟩)
                          · skip
                            refine box_step ?hg (N := 4) ?hd (cs := #[.int .u64 0, .int .i64 0, .int .i64 0, .int .i64 0]) (t := 38) ?hr ?_; (case hd => rfl); (case hg => rfl); (case hr => first | (go_simp; done) | (go_simp; rfl))
                            intro gb143 hg w30 hbox hb
                            have n0_ := Aside0.mk (blk_below (g := gb133) (o := .cells #[.int .u64 t127, .int .i64 t128, .int .i64 t129, .int .i64 t130] 38 (0, 0)) (by (with_reducible repeat (first | refine blk_drewN ?_ _ | refine blk_drew ?_ | refine blk_alloc ?_ _)); exact BK133.out) hb)
                            have n1_ := Aside0.mk (below_step (by repeat (first | (with_reducible first | exact HB.out | apply below_alloc | apply pw_below_drewN | apply below_drew1 | refine below_set ?_ GE133.out) | exact HB.out)) hb)
                            have n2_ := Aside0.mk (hbox)
                            have n3_ := Aside0.mk ((by rw [hg]; exact (below_size (by repeat (first | (with_reducible first | exact HB.out | apply below_alloc | apply pw_below_drewN | apply below_drew1 | refine below_set ?_ GE133.out) | exact HB.out))) : w.heap.size ≤ gb143))
                            have n4_ := Aside0.mk ((by rw [hg]; exact (below_size (by repeat (first | (with_reducible first | exact HB.out | apply below_alloc | apply pw_below_drewN | apply below_drew1 | refine below_set ?_ GE133.out) | exact HB.out))) : w.heap.size ≤ gb143))
                            have n5_ := Aside0.mk ((by rw [hg]; exact Nat.ne_of_lt (blk_lt (g := gb133) (o := .cells #[.int .u64 t127, .int .i64 t128, .int .i64 t129, .int .i64 t130] 38 (0, 0)) (by (with_reducible repeat (first | refine blk_drewN ?_ _ | refine blk_drew ?_ | refine blk_alloc ?_ _)); exact BK133.out)) : gb133 ≠ gb143))
                            have n6_ := Aside0.mk ((by rw [hg]; exact Nat.ne_of_gt (blk_lt (g := gb133) (o := .cells #[.int .u64 t127, .int .i64 t128, .int .i64 t129, .int .i64 t130] 38 (0, 0)) (by (with_reducible repeat (first | refine blk_drewN ?_ _ | refine blk_drew ?_ | refine blk_alloc ?_ _)); exact BK133.out)) : gb143 ≠ gb133))
                            clear BK133
                            clear HB
                            have BK133 := n0_
                            have HB := n1_
                            have BK143 := n2_
                            have GW143 := n3_
                            have GE143 := n4_
                            have NB133_143 := n5_
                            have NB143_133 := n6_
                            clear n0_ n1_ n2_ n3_ n4_ n5_ n6_
                            clear hb hbox hg
                            refine hK.out _ _ ⟨(blk_cell BK133.out 0).trans rfl, (blk_cell BK133.out 1).trans rfl, (blk_cell BK133.out 2).trans rfl, (blk_cell BK133.out 3).trans rfl⟩ (fun hHeld => ?_)
                            clear hK K
                            refine norm_ (a' := ?_) ?_ ?_
                            rotate_left
                            · show Act.put _ (some 4) _ = _
                              simp only [Act.put, List.setIfInBounds_toArray, List.set_cons_zero, List.set_cons_succ, i64_w, i32_w]
                              rfl
                            refine one_ (i := 2) (N := some 25) #[true, true, true, false, false, false, false, true, false, false, false] rfl rfl (one_of HT_.out (by kernel_rfl)) (by decide) (fun K hK => ?_)
                            refine goes_ Try.func18 (by kernel_rfl) rfl #[.agg #[.int .i64 t134, .int .i64 t135, .int .i64 t136], .agg #[.int .u64 t127, .int .i64 t128, .int .i64 t129, .int .i64 t130], .int .i64 3, .int .u64 2, .int .i64 14] (by rfl) rfl rfl (by (try simp only [List.map_toArray, List.map_cons, List.map_nil]); first | done | rfl | (simp only [List.length_drop, List.length_take]; rfl)) ?_
                            with_reducible refine (vote_Ask.calls t134 t135 t136 t127 t128 t129 t130 3 2 14 t137 t138 t139 t140 false t142 _ A5.out).mono ?_
                            rintro e w31 ⟨rfl, hb⟩
                            refine ⟨_, rfl, ?_⟩
                            have n0_ := Aside0.mk (blk_below (g := gb133) (o := .cells #[.int .u64 t127, .int .i64 t128, .int .i64 t129, .int .i64 t130] 38 (0, 0)) (by (with_reducible repeat (first | refine blk_drewN ?_ _ | refine blk_drew ?_ | refine blk_alloc ?_ _)); exact BK133.out) hb)
                            have n1_ := Aside0.mk (blk_below (g := gb143) (o := .cells #[.int .u64 0, .int .i64 0, .int .i64 0, .int .i64 0] 38 (0, 0)) (by (with_reducible repeat (first | refine blk_drewN ?_ _ | refine blk_drew ?_ | refine blk_alloc ?_ _)); exact BK143.out) hb)
                            have n2_ := Aside0.mk (below_step (by repeat (first | (with_reducible first | exact HB.out | apply below_alloc | apply pw_below_drewN | apply below_drew1 | refine below_set ?_ GE133.out | refine below_set ?_ GE143.out) | exact HB.out)) hb)
                            clear BK133
                            clear BK143
                            clear HB
                            have BK133 := n0_
                            have BK143 := n1_
                            have HB := n2_
                            clear n0_ n1_ n2_
                            (try clear hb)
                            (try clear hb2)
                            (try clear hk)
                            (try clear hi)
                            refine hK.out _ _ ⟨(blk_cell BK133.out 0).trans rfl, (blk_cell BK133.out 1).trans rfl, (blk_cell BK133.out 2).trans rfl, (blk_cell BK133.out 3).trans rfl⟩ (fun hHeld => ?_)
                            clear hK K
                            refine norm_ (a' := ?_) ?_ ?_
                            rotate_left
                            · show Act.put _ (some 25) _ = _
                              simp only [Act.put, List.setIfInBounds_toArray, List.set_cons_zero, List.set_cons_succ, i64_w, i32_w]
                              rfl
                            refine pure_ (i := 3) (N := some 22) (v := ?_) (a' := ?_) #[true, true, true, true, false, false, false, true, false, false, false] rfl rfl (any_of HT_.out (by kernel_rfl)) (fun _ _ _ h => h) (Or.inl ⟨by rfl, ?_⟩) ?_ ?_
                            rotate_left
                            · intro w'
                              go_simp
                              with_reducible rfl
                            rotate_left
                            · simp only [Act.put, List.setIfInBounds_toArray, List.set_cons_zero, List.set_cons_succ, i64_w, i32_w]
                              rfl
                            refine pure_ (i := 4) (N := some 26) (v := ?_) (a' := ?_) #[true, true, true, true, true, false, false, true, false, false, false] rfl rfl (any_of HT_.out (by kernel_rfl)) (fun _ _ _ h => h) (Or.inl ⟨by rfl, ?_⟩) ?_ ?_
                            rotate_left
                            · intro w'
                              go_simp
                              with_reducible rfl
                            rotate_left
                            · simp only [Act.put, List.setIfInBounds_toArray, List.set_cons_zero, List.set_cons_succ, i64_w, i32_w]
                              rfl
                            refine pure_ (i := 5) (N := some 27) (v := ?_) (a' := ?_) #[true, true, true, true, true, true, false, true, false, false, false] rfl rfl (any_of HT_.out (by kernel_rfl)) (fun _ _ _ h => h) (Or.inl ⟨by rfl, ?_⟩) ?_ ?_
                            rotate_left
                            · intro w'
                              go_simp
                              with_reducible rfl
                            rotate_left
                            · simp only [Act.put, List.setIfInBounds_toArray, List.set_cons_zero, List.set_cons_succ, i64_w, i32_w]
                              rfl
                            refine pure_ (i := 6) (N := some 28) (v := ?_) (a' := ?_) #[true, true, true, true, true, true, true, true, false, false, false] rfl rfl (any_of HT_.out (by kernel_rfl)) (fun _ _ _ h => h) (Or.inl ⟨by rfl, ?_⟩) ?_ ?_
                            rotate_left
                            · intro w'
                              go_simp
                              with_reducible rfl
                            rotate_left
                            · simp only [Act.put, List.setIfInBounds_toArray, List.set_cons_zero, List.set_cons_succ, i64_w, i32_w]
                              rfl
                            exact norm_ (by simp only [putAll, Act.put, List.setIfInBounds_toArray, List.set_cons_zero, List.set_cons_succ]) (hCont (gb143) _ ⟨hHeld, (by (with_reducible repeat (first | refine blk_drewN ?_ _ | refine blk_drew ?_ | refine blk_alloc ?_ _)); exact BK133.out), (by (with_reducible repeat (first | refine blk_drewN ?_ _ | refine blk_drew ?_ | refine blk_alloc ?_ _)); exact BK143.out), GW143.out, GE143.out, NB133_143.out, NB143_133.out, (by repeat (first | (with_reducible first | exact HB.out | apply below_alloc | apply pw_below_drewN | apply below_drew1 | refine below_set ?_ GE133.out | refine below_set ?_ GE143.out) | exact HB.out))⟩)
                        · skip
                          refine box_step ?hg (N := 4) ?hd (cs := #[.int .u64 0, .int .i64 0, .int .i64 0, .int .i64 0]) (t := 38) ?hr ?_; (case hd => rfl); (case hg => rfl); (case hr => first | (go_simp; done) | (go_simp; rfl))
                          intro gb143 hg w29 hbox hb
                          have n0_ := Aside0.mk (blk_below (g := gb133) (o := .cells #[.int .u64 t127, .int .i64 t128, .int .i64 t129, .int .i64 t130] 38 (0, 0)) (by (with_reducible repeat (first | refine blk_drewN ?_ _ | refine blk_drew ?_ | refine blk_alloc ?_ _)); exact BK133.out) hb)
                          have n1_ := Aside0.mk (below_step (by repeat (first | (with_reducible first | exact HB.out | apply below_alloc | apply pw_below_drewN | apply below_drew1 | refine below_set ?_ GE133.out) | exact HB.out)) hb)
                          have n2_ := Aside0.mk (hbox)
                          have n3_ := Aside0.mk ((by rw [hg]; exact (below_size (by repeat (first | (with_reducible first | exact HB.out | apply below_alloc | apply pw_below_drewN | apply below_drew1 | refine below_set ?_ GE133.out) | exact HB.out))) : w.heap.size ≤ gb143))
                          have n4_ := Aside0.mk ((by rw [hg]; exact (below_size (by repeat (first | (with_reducible first | exact HB.out | apply below_alloc | apply pw_below_drewN | apply below_drew1 | refine below_set ?_ GE133.out) | exact HB.out))) : w.heap.size ≤ gb143))
                          have n5_ := Aside0.mk ((by rw [hg]; exact Nat.ne_of_lt (blk_lt (g := gb133) (o := .cells #[.int .u64 t127, .int .i64 t128, .int .i64 t129, .int .i64 t130] 38 (0, 0)) (by (with_reducible repeat (first | refine blk_drewN ?_ _ | refine blk_drew ?_ | refine blk_alloc ?_ _)); exact BK133.out)) : gb133 ≠ gb143))
                          have n6_ := Aside0.mk ((by rw [hg]; exact Nat.ne_of_gt (blk_lt (g := gb133) (o := .cells #[.int .u64 t127, .int .i64 t128, .int .i64 t129, .int .i64 t130] 38 (0, 0)) (by (with_reducible repeat (first | refine blk_drewN ?_ _ | refine blk_drew ?_ | refine blk_alloc ?_ _)); exact BK133.out)) : gb143 ≠ gb133))
                          clear BK133
                          clear HB
                          have BK133 := n0_
                          have HB := n1_
                          have BK143 := n2_
                          have GW143 := n3_
                          have GE143 := n4_
                          have NB133_143 := n5_
                          have NB143_133 := n6_
                          clear n0_ n1_ n2_ n3_ n4_ n5_ n6_
                          clear hb hbox hg
                          refine hK.out _ _ ⟨(blk_cell BK133.out 0).trans rfl, (blk_cell BK133.out 1).trans rfl, (blk_cell BK133.out 2).trans rfl, (blk_cell BK133.out 3).trans rfl⟩ (fun hHeld => ?_)
                          clear hK K
                          refine norm_ (a' := ?_) ?_ ?_
                          rotate_left
                          · show Act.put _ (some 4) _ = _
                            simp only [Act.put, List.setIfInBounds_toArray, List.set_cons_zero, List.set_cons_succ, i64_w, i32_w]
                            rfl
                          refine one_ (i := 0) (N := some 23) #[true, true, false, false, false, false, false, true, false, false, false] rfl rfl (one_of HT_.out (by kernel_rfl)) (by decide) (fun K hK => ?_)
                          refine goes_ Try.func39 (by kernel_rfl) rfl #[] (by rfl) rfl rfl (by (try simp only [List.map_toArray, List.map_cons, List.map_nil]); first | done | rfl | (simp only [List.length_drop, List.length_take]; rfl)) ?_
                          with_reducible refine (tattlelaw17_ten.calls  t134 t135 t136 _ A4.out).mono ?_
                          rintro e w30 ⟨rfl, hb⟩
                          refine ⟨_, rfl, ?_⟩
                          have n0_ := Aside0.mk (blk_below (g := gb133) (o := .cells #[.int .u64 t127, .int .i64 t128, .int .i64 t129, .int .i64 t130] 38 (0, 0)) (by (with_reducible repeat (first | refine blk_drewN ?_ _ | refine blk_drew ?_ | refine blk_alloc ?_ _)); exact BK133.out) hb)
                          have n1_ := Aside0.mk (blk_below (g := gb143) (o := .cells #[.int .u64 0, .int .i64 0, .int .i64 0, .int .i64 0] 38 (0, 0)) (by (with_reducible repeat (first | refine blk_drewN ?_ _ | refine blk_drew ?_ | refine blk_alloc ?_ _)); exact BK143.out) hb)
                          have n2_ := Aside0.mk (below_step (by repeat (first | (with_reducible first | exact HB.out | apply below_alloc | apply pw_below_drewN | apply below_drew1 | refine below_set ?_ GE133.out | refine below_set ?_ GE143.out) | exact HB.out)) hb)
                          clear BK133
                          clear BK143
                          clear HB
                          have BK133 := n0_
                          have BK143 := n1_
                          have HB := n2_
                          clear n0_ n1_ n2_
                          (try clear hb)
                          (try clear hb2)
                          (try clear hk)
                          (try clear hi)
                          refine hK.out _ _ ⟨(blk_cell BK133.out 0).trans rfl, (blk_cell BK133.out 1).trans rfl, (blk_cell BK133.out 2).trans rfl, (blk_cell BK133.out 3).trans rfl⟩ (fun hHeld => ?_)
                          clear hK K
                          refine norm_ (a' := ?_) ?_ ?_
                          rotate_left
                          · show Act.put _ (some 23) _ = _
                            simp only [Act.put, List.setIfInBounds_toArray, List.set_cons_zero, List.set_cons_succ, i64_w, i32_w]
                            rfl
                          refine one_ (i := 2) (N := some 25) #[true, true, true, false, false, false, false, true, false, false, false] rfl rfl (one_of HT_.out (by kernel_rfl)) (by decide) (fun K hK => ?_)
                          refine goes_ Try.func18 (by kernel_rfl) rfl #[.agg #[.int .i64 t134, .int .i64 t135, .int .i64 t136], .agg #[.int .u64 t127, .int .i64 t128, .int .i64 t129, .int .i64 t130], .int .i64 3, .int .u64 2, .int .i64 14] (by rfl) rfl rfl (by (try simp only [List.map_toArray, List.map_cons, List.map_nil]); first | done | rfl | (simp only [List.length_drop, List.length_take]; rfl)) ?_
                          with_reducible refine (vote_Ask.calls t134 t135 t136 t127 t128 t129 t130 3 2 14 t137 t138 t139 t140 false t142 _ A5.out).mono ?_
                          rintro e w31 ⟨rfl, hb⟩
                          refine ⟨_, rfl, ?_⟩
                          have n0_ := Aside0.mk (blk_below (g := gb133) (o := .cells #[.int .u64 t127, .int .i64 t128, .int .i64 t129, .int .i64 t130] 38 (0, 0)) (by (with_reducible repeat (first | refine blk_drewN ?_ _ | refine blk_drew ?_ | refine blk_alloc ?_ _)); exact BK133.out) hb)
                          have n1_ := Aside0.mk (blk_below (g := gb143) (o := .cells #[.int .u64 0, .int .i64 0, .int .i64 0, .int .i64 0] 38 (0, 0)) (by (with_reducible repeat (first | refine blk_drewN ?_ _ | refine blk_drew ?_ | refine blk_alloc ?_ _)); exact BK143.out) hb)
                          have n2_ := Aside0.mk (below_step (by repeat (first | (with_reducible first | exact HB.out | apply below_alloc | apply pw_below_drewN | apply below_drew1 | refine below_set ?_ GE133.out | refine below_set ?_ GE143.out) | exact HB.out)) hb)
                          clear BK133
                          clear BK143
                          clear HB
                          have BK133 := n0_
                          have BK143 := n1_
                          have HB := n2_
                          clear n0_ n1_ n2_
                          (try clear hb)
                          (try clear hb2)
                          (try clear hk)
                          (try clear hi)
                          refine hK.out _ _ ⟨(blk_cell BK133.out 0).trans rfl, (blk_cell BK133.out 1).trans rfl, (blk_cell BK133.out 2).trans rfl, (blk_cell BK133.out 3).trans rfl⟩ (fun hHeld => ?_)
                          clear hK K
                          refine norm_ (a' := ?_) ?_ ?_
                          rotate_left
                          · show Act.put _ (some 25) _ = _
                            simp only [Act.put, List.setIfInBounds_toArray, List.set_cons_zero, List.set_cons_succ, i64_w, i32_w]
                            rfl
                          refine pure_ (i := 3) (N := some 22) (v := ?_) (a' := ?_) #[true, true, true, true, false, false, false, true, false, false, false] rfl rfl (any_of HT_.out (by kernel_rfl)) (fun _ _ _ h => h) (Or.inl ⟨by rfl, ?_⟩) ?_ ?_
                          rotate_left
                          · intro w'
                            go_simp
                            with_reducible rfl
                          rotate_left
                          · simp only [Act.put, List.setIfInBounds_toArray, List.set_cons_zero, List.set_cons_succ, i64_w, i32_w]
                            rfl
                          refine pure_ (i := 4) (N := some 26) (v := ?_) (a' := ?_) #[true, true, true, true, true, false, false, true, false, false, false] rfl rfl (any_of HT_.out (by kernel_rfl)) (fun _ _ _ h => h) (Or.inl ⟨by rfl, ?_⟩) ?_ ?_
                          rotate_left
                          · intro w'
                            go_simp
                            with_reducible rfl
                          rotate_left
                          · simp only [Act.put, List.setIfInBounds_toArray, List.set_cons_zero, List.set_cons_succ, i64_w, i32_w]
                            rfl
                          refine pure_ (i := 5) (N := some 27) (v := ?_) (a' := ?_) #[true, true, true, true, true, true, false, true, false, false, false] rfl rfl (any_of HT_.out (by kernel_rfl)) (fun _ _ _ h => h) (Or.inl ⟨by rfl, ?_⟩) ?_ ?_
                          rotate_left
                          · intro w'
                            go_simp
                            with_reducible rfl
                          rotate_left
                          · simp only [Act.put, List.setIfInBounds_toArray, List.set_cons_zero, List.set_cons_succ, i64_w, i32_w]
                            rfl
                          refine pure_ (i := 6) (N := some 28) (v := ?_) (a' := ?_) #[true, true, true, true, true, true, true, true, false, false, false] rfl rfl (any_of HT_.out (by kernel_rfl)) (fun _ _ _ h => h) (Or.inl ⟨by rfl, ?_⟩) ?_ ?_
                          rotate_left
                          · intro w'
                            go_simp
                            with_reducible rfl
                          rotate_left
                          · simp only [Act.put, List.setIfInBounds_toArray, List.set_cons_zero, List.set_cons_succ, i64_w, i32_w]
                            rfl
                          exact norm_ (by simp only [putAll, Act.put, List.setIfInBounds_toArray, List.set_cons_zero, List.set_cons_succ]) (hCont (gb143) _ ⟨hHeld, (by (with_reducible repeat (first | refine blk_drewN ?_ _ | refine blk_drew ?_ | refine blk_alloc ?_ _)); exact BK133.out), (by (with_reducible repeat (first | refine blk_drewN ?_ _ | refine blk_drew ?_ | refine blk_alloc ?_ _)); exact BK143.out), GW143.out, GE143.out, NB133_143.out, NB143_133.out, (by repeat (first | (with_reducible first | exact HB.out | apply below_alloc | apply pw_below_drewN | apply below_drew1 | refine below_set ?_ GE133.out | refine below_set ?_ GE143.out) | exact HB.out))⟩)
                      rintro gb143 w32 ⟨hS_, h0_, h1_, h2_, h3_, h4_, h5_, h6_⟩
                      have n0_ : Aside0 (w32.heap[gb133]? = some (.cells #[.int .u64 t127, .int .i64 t128, .int .i64 t129, .int .i64 t130] 38 (0, 0))) := ⟨h0_⟩
                      have n1_ : Aside0 (w32.heap[gb143]? = some (.cells #[.int .u64 0, .int .i64 0, .int .i64 0, .int .i64 0] 38 (0, 0))) := ⟨h1_⟩
                      have n2_ : Aside0 (w.heap.size ≤ gb143) := ⟨h2_⟩
                      have n3_ : Aside0 (w.heap.size ≤ gb143) := ⟨h3_⟩
                      have n4_ : Aside0 (gb133 ≠ gb143) := ⟨h4_⟩
                      have n5_ : Aside0 (gb143 ≠ gb133) := ⟨h5_⟩
                      have n6_ : Aside0 (Below w.heap.size w w32) := ⟨h6_⟩
                      clear BK133
                      clear HB
                      clear h0_ h1_ h2_ h3_ h4_ h5_ h6_
                      have BK133 := n0_
                      have BK143 := n1_
                      have GW143 := n2_
                      have GE143 := n3_
                      have NB133_143 := n4_
                      have NB143_133 := n5_
                      have HB := n6_
                      clear n0_ n1_ n2_ n3_ n4_ n5_ n6_
                      have hHeld : w32.cell? ⟨gb133, 0, none⟩ = some (.int .u64 t127) ∧ w32.cell? ⟨gb133, 1, none⟩ = some (.int .i64 t128) ∧ w32.cell? ⟨gb133, 2, none⟩ = some (.int .i64 t129) ∧ w32.cell? ⟨gb133, 3, none⟩ = some (.int .i64 t130) := hS_
                      refine norm_ (a' := ?_) ?_ ?_
                      rotate_left
                      · simp only [putAll, Act.put, List.setIfInBounds_toArray, List.set_cons_zero, List.set_cons_succ]
                        rfl
                      refine one_ (i := 8) (N := none) #[true, true, true, true, true, true, true, true, true, false, false] rfl rfl (one_of HT_.out (by kernel_rfl)) (by decide) (fun K hK => ?_)
                      have hs33 : w32.cell? ⟨gb143, 0, none⟩ = some (.int .u64 0) := (blk_cell BK143.out 0).trans rfl
                      have hfs33 := blk_frozen BK143.out 0
                      have hns33_0 := NB133_143.out
                      have hms33_0 := NB143_133.out
                      have hs34 : w32.cell? ⟨gb143, 1, none⟩ = some (.int .i64 0) := (blk_cell BK143.out 1).trans rfl
                      have hfs34 := blk_frozen BK143.out 1
                      have hns34_0 := NB133_143.out
                      have hms34_0 := NB143_133.out
                      have hs35 : w32.cell? ⟨gb143, 2, none⟩ = some (.int .i64 0) := (blk_cell BK143.out 2).trans rfl
                      have hfs35 := blk_frozen BK143.out 2
                      have hns35_0 := NB133_143.out
                      have hms35_0 := NB143_133.out
                      have hs36 : w32.cell? ⟨gb143, 3, none⟩ = some (.int .i64 0) := (blk_cell BK143.out 3).trans rfl
                      have hfs36 := blk_frozen BK143.out 3
                      have hns36_0 := NB133_143.out
                      have hms36_0 := NB143_133.out
                      refine skip_ (w1 := ?_) (by rfl) rfl ?_ ?_
                      rotate_left
                      · go_simp
                        rfl
                      refine hK.out _ _ ⟨((cell_far (p := ⟨gb143, _, none⟩) NB133_143.out _).trans (((cell_far (p := ⟨gb143, _, none⟩) NB133_143.out _).trans (((cell_far (p := ⟨gb143, _, none⟩) NB133_143.out _).trans (((cell_far (p := ⟨gb143, _, none⟩) NB133_143.out _).trans (hHeld.1)))))))), ((cell_far (p := ⟨gb143, _, none⟩) NB133_143.out _).trans (((cell_far (p := ⟨gb143, _, none⟩) NB133_143.out _).trans (((cell_far (p := ⟨gb143, _, none⟩) NB133_143.out _).trans (((cell_far (p := ⟨gb143, _, none⟩) NB133_143.out _).trans (hHeld.2.1)))))))), ((cell_far (p := ⟨gb143, _, none⟩) NB133_143.out _).trans (((cell_far (p := ⟨gb143, _, none⟩) NB133_143.out _).trans (((cell_far (p := ⟨gb143, _, none⟩) NB133_143.out _).trans (((cell_far (p := ⟨gb143, _, none⟩) NB133_143.out _).trans (hHeld.2.2.1)))))))), ((cell_far (p := ⟨gb143, _, none⟩) NB133_143.out _).trans (((cell_far (p := ⟨gb143, _, none⟩) NB133_143.out _).trans (((cell_far (p := ⟨gb143, _, none⟩) NB133_143.out _).trans (((cell_far (p := ⟨gb143, _, none⟩) NB133_143.out _).trans (hHeld.2.2.2))))))))⟩ (fun hHeld => ?_)
                      clear hK K
                      refine pure_ (i := 9) (N := some 5) (v := ?_) (a' := ?_) #[true, true, true, true, true, true, true, true, true, true, false] rfl rfl (any_of HT_.out (by kernel_rfl)) (fun _ _ _ h => h) (Or.inl ⟨by rfl, ?_⟩) ?_ ?_
                      rotate_left
                      · intro w'
                        go_simp
                        with_reducible rfl
                      rotate_left
                      · simp only [Act.put, List.setIfInBounds_toArray, List.set_cons_zero, List.set_cons_succ, i64_w, i32_w]
                        rfl
                      refine pure_ (i := 10) (N := some 6) (v := ?_) (a' := ?_) #[true, true, true, true, true, true, true, true, true, true, true] rfl rfl (any_of HT_.out (by kernel_rfl)) (fun _ _ _ h => h) (Or.inl ⟨by rfl, ?_⟩) ?_ ?_
                      rotate_left
                      · intro w'
                        go_simp
                        with_reducible rfl
                      rotate_left
                      · simp only [Act.put, List.setIfInBounds_toArray, List.set_cons_zero, List.set_cons_succ, i64_w, i32_w]
                        rfl
                      refine done_ (done_of HT_.out (by kernel_rfl)) ?_
                      try go_wp2
                      have n0_ : Aside0 (((((w32.setCell ⟨gb143, 0, none⟩ (.int .u64 t137)).setCell ⟨gb143, 1, none⟩ (.int .i64 t138)).setCell ⟨gb143, 2, none⟩ (.int .i64 t139)).setCell ⟨gb143, 3, none⟩ (.int .i64 t140)).heap[gb133]? = some (.cells #[.int .u64 t127, .int .i64 t128, .int .i64 t129, .int .i64 t130] 38 (0, 0))) := ⟨by (with_reducible repeat (first | refine blk_drewN ?_ _ | refine blk_drew ?_ | refine blk_alloc ?_ _)); refine blk_far ?_ NB133_143.out _; (with_reducible repeat (first | refine blk_drewN ?_ _ | refine blk_drew ?_ | refine blk_alloc ?_ _)); refine blk_far ?_ NB133_143.out _; (with_reducible repeat (first | refine blk_drewN ?_ _ | refine blk_drew ?_ | refine blk_alloc ?_ _)); refine blk_far ?_ NB133_143.out _; (with_reducible repeat (first | refine blk_drewN ?_ _ | refine blk_drew ?_ | refine blk_alloc ?_ _)); refine blk_far ?_ NB133_143.out _; (with_reducible repeat (first | refine blk_drewN ?_ _ | refine blk_drew ?_ | refine blk_alloc ?_ _)); exact BK133.out⟩
                      have n1_ : Aside0 (((((w32.setCell ⟨gb143, 0, none⟩ (.int .u64 t137)).setCell ⟨gb143, 1, none⟩ (.int .i64 t138)).setCell ⟨gb143, 2, none⟩ (.int .i64 t139)).setCell ⟨gb143, 3, none⟩ (.int .i64 t140)).heap[gb143]? = some (.cells #[.int .u64 t137, .int .i64 t138, .int .i64 t139, .int .i64 t140] 38 (0, 0))) := ⟨by (with_reducible repeat (first | refine blk_drewN ?_ _ | refine blk_drew ?_ | refine blk_alloc ?_ _)); refine blk_put (cs := #[.int .u64 t137, .int .i64 t138, .int .i64 t139, .int .i64 0]) ?_ 3 _ rfl; (with_reducible repeat (first | refine blk_drewN ?_ _ | refine blk_drew ?_ | refine blk_alloc ?_ _)); refine blk_put (cs := #[.int .u64 t137, .int .i64 t138, .int .i64 0, .int .i64 0]) ?_ 2 _ rfl; (with_reducible repeat (first | refine blk_drewN ?_ _ | refine blk_drew ?_ | refine blk_alloc ?_ _)); refine blk_put (cs := #[.int .u64 t137, .int .i64 0, .int .i64 0, .int .i64 0]) ?_ 1 _ rfl; (with_reducible repeat (first | refine blk_drewN ?_ _ | refine blk_drew ?_ | refine blk_alloc ?_ _)); refine blk_put (cs := #[.int .u64 0, .int .i64 0, .int .i64 0, .int .i64 0]) ?_ 0 _ rfl; (with_reducible repeat (first | refine blk_drewN ?_ _ | refine blk_drew ?_ | refine blk_alloc ?_ _)); exact BK143.out⟩
                      have n2_ : Aside0 (Below w.heap.size w ((((w32.setCell ⟨gb143, 0, none⟩ (.int .u64 t137)).setCell ⟨gb143, 1, none⟩ (.int .i64 t138)).setCell ⟨gb143, 2, none⟩ (.int .i64 t139)).setCell ⟨gb143, 3, none⟩ (.int .i64 t140))) := ⟨by repeat (first | (with_reducible first | exact HB.out | apply below_alloc | apply pw_below_drewN | apply below_drew1 | refine below_set ?_ GE133.out | refine below_set ?_ GE143.out) | exact HB.out)⟩
                      (try clear BK133)
                      (try clear BK143)
                      (try clear HB)
                      generalize ((((w32.setCell ⟨gb143, 0, none⟩ (.int .u64 t137)).setCell ⟨gb143, 1, none⟩ (.int .i64 t138)).setCell ⟨gb143, 2, none⟩ (.int .i64 t139)).setCell ⟨gb143, 3, none⟩ (.int .i64 t140)) = w37 at n0_ n1_ n2_ ⊢
                      have BK133 := n0_
                      have BK143 := n1_
                      have HB := n2_
                      clear n0_ n1_ n2_
                      have n0_ := Aside0.mk (blk_drew BK133.out)
                      have n1_ := Aside0.mk (blk_drew BK143.out)
                      have n2_ := Aside0.mk (below_drew1 HB.out)
                      clear BK133
                      clear BK143
                      clear HB
                      have BK133 := n0_
                      have BK143 := n1_
                      have HB := n2_
                      clear n0_ n1_ n2_
                      refine start_ (n := 11) (S := fun w' => w'.cell? ⟨gb143, 0, none⟩ = some (.int .u64 t137) ∧ w'.cell? ⟨gb143, 1, none⟩ = some (.int .i64 t138) ∧ w'.cell? ⟨gb143, 2, none⟩ = some (.int .i64 t139) ∧ w'.cell? ⟨gb143, 3, none⟩ = some (.int .i64 t140)) (ds := []) #[false, false, false, false, false, false, false, false, false, false, false] (by kernel_rfl) rfl rfl ⟨(blk_cell BK143.out 0).trans rfl, (blk_cell BK143.out 1).trans rfl, (blk_cell BK143.out 2).trans rfl, (blk_cell BK143.out 3).trans rfl⟩ (fun hHeld => ?_); refine with_tabW tattlelaw17_awake.tab3 tattlelaw17_awake.bits3 (fun HT_ HW_ => ?_)
                      generalize w37.drew = w38 at BK133 BK143 HB hHeld ⊢
                      refine take_ (i := 1) (N := some 31) (v := ?_) (a' := ?_) #[false, true, false, false, false, false, false, false, false, false, false] rfl rfl (take_ofW HT_.out HW_.out (by kernel_rfl)) (fun _ _ _ h => h) (Or.inl ⟨by rfl, ?_⟩) hHeld ?_ ?_
                      rotate_left
                      · rintro w' ⟨s0, s1, s2, s3⟩
                        go_simp
                        with_reducible rfl
                      rotate_left
                      · simp only [Act.put, List.setIfInBounds_toArray, List.set_cons_zero, List.set_cons_succ, i64_w, i32_w]
                        rfl
                      refine join_ (σ := Nat) 3 #[true, true, true, true, true, true, true, true, false, false, false] (fun s_ => [(30, .agg #[.int .i64 t144, .int .i64 t145, .int .i64 t146]), (32, .tuple #[.agg #[.int .u64 t147, .int .i64 t148, .int .i64 t149, .int .i64 t150], .bool true, .int .i64 t152]), (7, .pointer (some ⟨s_, 0, none⟩)), (29, .tuple #[.agg #[.int .u64 t147, .int .i64 t148, .int .i64 t149, .int .i64 t150], .bool true, .int .i64 t152]), (33, .agg #[.int .u64 t147, .int .i64 t148, .int .i64 t149, .int .i64 t150]), (34, .bool true), (35, .int .i64 t152)]) (fun s_ w' => (w'.cell? ⟨gb143, 0, none⟩ = some (.int .u64 t137) ∧ w'.cell? ⟨gb143, 1, none⟩ = some (.int .i64 t138) ∧ w'.cell? ⟨gb143, 2, none⟩ = some (.int .i64 t139) ∧ w'.cell? ⟨gb143, 3, none⟩ = some (.int .i64 t140)) ∧ (w'.heap[gb133]? = some (.cells #[.int .u64 t127, .int .i64 t128, .int .i64 t129, .int .i64 t130] 38 (0, 0))) ∧ (w'.heap[gb143]? = some (.cells #[.int .u64 t137, .int .i64 t138, .int .i64 t139, .int .i64 t140] 38 (0, 0))) ∧ (w'.heap[s_]? = some (.cells #[.int .u64 0, .int .i64 0, .int .i64 0, .int .i64 0] 38 (0, 0))) ∧ (w.heap.size ≤ s_) ∧ (w.heap.size ≤ s_) ∧ (gb133 ≠ s_) ∧ (s_ ≠ gb133) ∧ (gb143 ≠ s_) ∧ (s_ ≠ gb143) ∧ (Below w.heap.size w w')) ?_ ?_
                      rotate_left
                      · intro hCont
                        refine two_ (i := 0) (j := 7) (Ni := some 30) (Nj := some 7) #[true, true, false, false, false, false, false, false, false, false, false] #[false, true, false, false, false, false, false, true, false, false, false] rfl rfl rfl rfl (two_of HT_.out (by kernel_rfl)) (by decide) (by decide) (fun K hK => ?_) (fun K hK => ?_)
                        · skip
                          refine goes_ Try.func39 (by kernel_rfl) rfl #[] (by rfl) rfl rfl (by (try simp only [List.map_toArray, List.map_cons, List.map_nil]); first | done | rfl | (simp only [List.length_drop, List.length_take]; rfl)) ?_
                          with_reducible refine (tattlelaw17_ten.calls  t144 t145 t146 _ A6.out).mono ?_
                          rintro e w39 ⟨rfl, hb⟩
                          refine ⟨_, rfl, ?_⟩
                          have n0_ := Aside0.mk (blk_below (g := gb133) (o := .cells #[.int .u64 t127, .int .i64 t128, .int .i64 t129, .int .i64 t130] 38 (0, 0)) (by (with_reducible repeat (first | refine blk_drewN ?_ _ | refine blk_drew ?_ | refine blk_alloc ?_ _)); exact BK133.out) hb)
                          have n1_ := Aside0.mk (blk_below (g := gb143) (o := .cells #[.int .u64 t137, .int .i64 t138, .int .i64 t139, .int .i64 t140] 38 (0, 0)) (by (with_reducible repeat (first | refine blk_drewN ?_ _ | refine blk_drew ?_ | refine blk_alloc ?_ _)); exact BK143.out) hb)
                          have n2_ := Aside0.mk (below_step (by repeat (first | (with_reducible first | exact HB.out | apply below_alloc | apply pw_below_drewN | apply below_drew1 | refine below_set ?_ GE133.out | refine below_set ?_ GE143.out) | exact HB.out)) hb)
                          clear BK133
                          clear BK143
                          clear HB
                          have BK133 := n0_
                          have BK143 := n1_
                          have HB := n2_
                          clear n0_ n1_ n2_
                          (try clear hb)
                          (try clear hb2)
                          (try clear hk)
                          (try clear hi)
                          refine hK.out _ _ ⟨(blk_cell BK143.out 0).trans rfl, (blk_cell BK143.out 1).trans rfl, (blk_cell BK143.out 2).trans rfl, (blk_cell BK143.out 3).trans rfl⟩ (fun hHeld => ?_)
                          clear hK K
                          refine norm_ (a' := ?_) ?_ ?_
                          rotate_left
                          · show Act.put _ (some 30) _ = _
                            simp only [Act.put, List.setIfInBounds_toArray, List.set_cons_zero, List.set_cons_succ, i64_w, i32_w]
                            rfl
                          refine two_ (i := 2) (j := 7) (Ni := some 32) (Nj := some 7) #[true, true, true, false, false, false, false, false, false, false, false] #[true, true, false, false, false, false, false, true, false, false, false] rfl rfl rfl rfl (two_of HT_.out (by kernel_rfl)) (by decide) (by decide) (fun K hK => ?_) (fun K hK => ?_)
                          · skip
                            refine goes_ Try.func18 (by kernel_rfl) rfl #[.agg #[.int .i64 t144, .int .i64 t145, .int .i64 t146], .agg #[.int .u64 t137, .int .i64 t138, .int .i64 t139, .int .i64 t140], .int .i64 3, .int .u64 2, .int .i64 15] (by rfl) rfl rfl (by (try simp only [List.map_toArray, List.map_cons, List.map_nil]); first | done | rfl | (simp only [List.length_drop, List.length_take]; rfl)) ?_
                            with_reducible refine (vote_Ask.calls t144 t145 t146 t137 t138 t139 t140 3 2 15 t147 t148 t149 t150 true t152 _ A7.out).mono ?_
                            rintro e w40 ⟨rfl, hb⟩
                            refine ⟨_, rfl, ?_⟩
                            have n0_ := Aside0.mk (blk_below (g := gb133) (o := .cells #[.int .u64 t127, .int .i64 t128, .int .i64 t129, .int .i64 t130] 38 (0, 0)) (by (with_reducible repeat (first | refine blk_drewN ?_ _ | refine blk_drew ?_ | refine blk_alloc ?_ _)); exact BK133.out) hb)
                            have n1_ := Aside0.mk (blk_below (g := gb143) (o := .cells #[.int .u64 t137, .int .i64 t138, .int .i64 t139, .int .i64 t140] 38 (0, 0)) (by (with_reducible repeat (first | refine blk_drewN ?_ _ | refine blk_drew ?_ | refine blk_alloc ?_ _)); exact BK143.out) hb)
                            have n2_ := Aside0.mk (below_step (by repeat (first | (with_reducible first | exact HB.out | apply below_alloc | apply pw_below_drewN | apply below_drew1 | refine below_set ?_ GE133.out | refine below_set ?_ GE143.out) | exact HB.out)) hb)
                            clear BK133
                            clear BK143
                            clear HB
                            have BK133 := n0_
                            have BK143 := n1_
                            have HB := n2_
                            clear n0_ n1_ n2_
                            (try clear hb)
                            (try clear hb2)
                            (try clear hk)
                            (try clear hi)
                            refine hK.out _ _ ⟨(blk_cell BK143.out 0).trans rfl, (blk_cell BK143.out 1).trans rfl, (blk_cell BK143.out 2).trans rfl, (blk_cell BK143.out 3).trans rfl⟩ (fun hHeld => ?_)
                            clear hK K
                            refine norm_ (a' := ?_) ?_ ?_
                            rotate_left
                            · show Act.put _ (some 32) _ = _
                              simp only [Act.put, List.setIfInBounds_toArray, List.set_cons_zero, List.set_cons_succ, i64_w, i32_w]
                              rfl
                            refine pure_ (i := 3) (N := some 29) (v := ?_) (a' := ?_) #[true, true, true, true, false, false, false, false, false, false, false] rfl rfl (any_of HT_.out (by kernel_rfl)) (fun _ _ _ h => h) (Or.inl ⟨by rfl, ?_⟩) ?_ ?_
                            rotate_left
                            · intro w'
                              go_simp
                              with_reducible rfl
                            rotate_left
                            · simp only [Act.put, List.setIfInBounds_toArray, List.set_cons_zero, List.set_cons_succ, i64_w, i32_w]
                              rfl
                            refine pure_ (i := 4) (N := some 33) (v := ?_) (a' := ?_) #[true, true, true, true, true, false, false, false, false, false, false] rfl rfl (any_of HT_.out (by kernel_rfl)) (fun _ _ _ h => h) (Or.inl ⟨by rfl, ?_⟩) ?_ ?_
                            rotate_left
                            · intro w'
                              go_simp
                              with_reducible rfl
                            rotate_left
                            · simp only [Act.put, List.setIfInBounds_toArray, List.set_cons_zero, List.set_cons_succ, i64_w, i32_w]
                              rfl
                            refine pure_ (i := 5) (N := some 34) (v := ?_) (a' := ?_) #[true, true, true, true, true, true, false, false, false, false, false] rfl rfl (any_of HT_.out (by kernel_rfl)) (fun _ _ _ h => h) (Or.inl ⟨by rfl, ?_⟩) ?_ ?_
                            rotate_left
                            · intro w'
                              go_simp
                              with_reducible rfl
                            rotate_left
                            · simp only [Act.put, List.setIfInBounds_toArray, List.set_cons_zero, List.set_cons_succ, i64_w, i32_w]
                              rfl
                            refine pure_ (i := 6) (N := some 35) (v := ?_) (a' := ?_) #[true, true, true, true, true, true, true, false, false, false, false] rfl rfl (any_of HT_.out (by kernel_rfl)) (fun _ _ _ h => h) (Or.inl ⟨by rfl, ?_⟩) ?_ ?_
                            rotate_left
                            · intro w'
                              go_simp
                              with_reducible rfl
                            rotate_left
                            · simp only [Act.put, List.setIfInBounds_toArray, List.set_cons_zero, List.set_cons_succ, i64_w, i32_w]
                              rfl
                            refine one_ (i := 7) (N := some 7) #[true, true, true, true, true, true, true, true, false, false, false] rfl rfl (one_of HT_.out (by kernel_rfl)) (by decide) (fun K hK => ?_)
                            refine box_step ?hg (N := 7) ?hd (cs := #[.int .u64 0, .int .i64 0, .int .i64 0, .int .i64 0]) (t := 38) ?hr ?_; (case hd => rfl); (case hg => rfl); (case hr => first | (go_simp; done) | (go_simp; rfl))
                            intro gb153 hg w41 hbox hb
                            have n0_ := Aside0.mk (blk_below (g := gb133) (o := .cells #[.int .u64 t127, .int .i64 t128, .int .i64 t129, .int .i64 t130] 38 (0, 0)) (by (with_reducible repeat (first | refine blk_drewN ?_ _ | refine blk_drew ?_ | refine blk_alloc ?_ _)); exact BK133.out) hb)
                            have n1_ := Aside0.mk (blk_below (g := gb143) (o := .cells #[.int .u64 t137, .int .i64 t138, .int .i64 t139, .int .i64 t140] 38 (0, 0)) (by (with_reducible repeat (first | refine blk_drewN ?_ _ | refine blk_drew ?_ | refine blk_alloc ?_ _)); exact BK143.out) hb)
                            have n2_ := Aside0.mk (below_step (by repeat (first | (with_reducible first | exact HB.out | apply below_alloc | apply pw_below_drewN | apply below_drew1 | refine below_set ?_ GE133.out | refine below_set ?_ GE143.out) | exact HB.out)) hb)
                            have n3_ := Aside0.mk (hbox)
                            have n4_ := Aside0.mk ((by rw [hg]; exact (below_size (by repeat (first | (with_reducible first | exact HB.out | apply below_alloc | apply pw_below_drewN | apply below_drew1 | refine below_set ?_ GE133.out | refine below_set ?_ GE143.out) | exact HB.out))) : w.heap.size ≤ gb153))
                            have n5_ := Aside0.mk ((by rw [hg]; exact (below_size (by repeat (first | (with_reducible first | exact HB.out | apply below_alloc | apply pw_below_drewN | apply below_drew1 | refine below_set ?_ GE133.out | refine below_set ?_ GE143.out) | exact HB.out))) : w.heap.size ≤ gb153))
                            have n6_ := Aside0.mk ((by rw [hg]; exact Nat.ne_of_lt (blk_lt (g := gb133) (o := .cells #[.int .u64 t127, .int .i64 t128, .int .i64 t129, .int .i64 t130] 38 (0, 0)) (by (with_reducible repeat (first | refine blk_drewN ?_ _ | refine blk_drew ?_ | refine blk_alloc ?_ _)); exact BK133.out)) : gb133 ≠ gb153))
                            have n7_ := Aside0.mk ((by rw [hg]; exact Nat.ne_of_gt (blk_lt (g := gb133) (o := .cells #[.int .u64 t127, .int .i64 t128, .int .i64 t129, .int .i64 t130] 38 (0, 0)) (by (with_reducible repeat (first | refine blk_drewN ?_ _ | refine blk_drew ?_ | refine blk_alloc ?_ _)); exact BK133.out)) : gb153 ≠ gb133))
                            have n8_ := Aside0.mk ((by rw [hg]; exact Nat.ne_of_lt (blk_lt (g := gb143) (o := .cells #[.int .u64 t137, .int .i64 t138, .int .i64 t139, .int .i64 t140] 38 (0, 0)) (by (with_reducible repeat (first | refine blk_drewN ?_ _ | refine blk_drew ?_ | refine blk_alloc ?_ _)); exact BK143.out)) : gb143 ≠ gb153))
                            have n9_ := Aside0.mk ((by rw [hg]; exact Nat.ne_of_gt (blk_lt (g := gb143) (o := .cells #[.int .u64 t137, .int .i64 t138, .int .i64 t139, .int .i64 t140] 38 (0, 0)) (by (with_reducible repeat (first | refine blk_drewN ?_ _ | refine blk_drew ?_ | refine blk_alloc ?_ _)); exact BK143.out)) : gb153 ≠ gb143))
                            clear BK133
                            clear BK143
                            clear HB
                            have BK133 := n0_
                            have BK143 := n1_
                            have HB := n2_
                            have BK153 := n3_
                            have GW153 := n4_
                            have GE153 := n5_
                            have NB133_153 := n6_
                            have NB153_133 := n7_
                            have NB143_153 := n8_
                            have NB153_143 := n9_
                            clear n0_ n1_ n2_ n3_ n4_ n5_ n6_ n7_ n8_ n9_
                            clear hb hbox hg
                            refine hK.out _ _ ⟨(blk_cell BK143.out 0).trans rfl, (blk_cell BK143.out 1).trans rfl, (blk_cell BK143.out 2).trans rfl, (blk_cell BK143.out 3).trans rfl⟩ (fun hHeld => ?_)
                            clear hK K
                            refine norm_ (a' := ?_) ?_ ?_
                            rotate_left
                            · show Act.put _ (some 7) _ = _
                              simp only [Act.put, List.setIfInBounds_toArray, List.set_cons_zero, List.set_cons_succ, i64_w, i32_w]
                              rfl
                            exact norm_ (by simp only [putAll, Act.put, List.setIfInBounds_toArray, List.set_cons_zero, List.set_cons_succ]) (hCont (gb153) _ ⟨hHeld, (by (with_reducible repeat (first | refine blk_drewN ?_ _ | refine blk_drew ?_ | refine blk_alloc ?_ _)); exact BK133.out), (by (with_reducible repeat (first | refine blk_drewN ?_ _ | refine blk_drew ?_ | refine blk_alloc ?_ _)); exact BK143.out), (by (with_reducible repeat (first | refine blk_drewN ?_ _ | refine blk_drew ?_ | refine blk_alloc ?_ _)); exact BK153.out), GW153.out, GE153.out, NB133_153.out, NB153_133.out, NB143_153.out, NB153_143.out, (by repeat (first | (with_reducible first | exact HB.out | apply below_alloc | apply pw_below_drewN | apply below_drew1 | refine below_set ?_ GE133.out | refine below_set ?_ GE143.out | refine below_set ?_ GE153.out) | exact HB.out))⟩)
                          · skip
                            refine box_step ?hg (N := 7) ?hd (cs := #[.int .u64 0, .int .i64 0, .int .i64 0, .int .i64 0]) (t := 38) ?hr ?_; (case hd => rfl); (case hg => rfl); (case hr => first | (go_simp; done) | (go_simp; rfl))
                            intro gb153 hg w40 hbox hb
                            have n0_ := Aside0.mk (blk_below (g := gb133) (o := .cells #[.int .u64 t127, .int .i64 t128, .int .i64 t129, .int .i64 t130] 38 (0, 0)) (by (with_reducible repeat (first | refine blk_drewN ?_ _ | refine blk_drew ?_ | refine blk_alloc ?_ _)); exact BK133.out) hb)
                            have n1_ := Aside0.mk (blk_below (g := gb143) (o := .cells #[.int .u64 t137, .int .i64 t138, .int .i64 t139, .int .i64 t140] 38 (0, 0)) (by (with_reducible repeat (first | refine blk_drewN ?_ _ | refine blk_drew ?_ | refine blk_alloc ?_ _)); exact BK143.out) hb)
                            have n2_ := Aside0.mk (below_step (by repeat (first | (with_reducible first | exact HB.out | apply below_alloc | apply pw_below_drewN | apply below_drew1 | refine below_set ?_ GE133.out | refine below_set ?_ GE143.out) | exact HB.out)) hb)
                            have n3_ := Aside0.mk (hbox)
                            have n4_ := Aside0.mk ((by rw [hg]; exact (below_size (by repeat (first | (with_reducible first | exact HB.out | apply below_alloc | apply pw_below_drewN | apply below_drew1 | refine below_set ?_ GE133.out | refine below_set ?_ GE143.out) | exact HB.out))) : w.heap.size ≤ gb153))
                            have n5_ := Aside0.mk ((by rw [hg]; exact (below_size (by repeat (first | (with_reducible first | exact HB.out | apply below_alloc | apply pw_below_drewN | apply below_drew1 | refine below_set ?_ GE133.out | refine below_set ?_ GE143.out) | exact HB.out))) : w.heap.size ≤ gb153))
                            have n6_ := Aside0.mk ((by rw [hg]; exact Nat.ne_of_lt (blk_lt (g := gb133) (o := .cells #[.int .u64 t127, .int .i64 t128, .int .i64 t129, .int .i64 t130] 38 (0, 0)) (by (with_reducible repeat (first | refine blk_drewN ?_ _ | refine blk_drew ?_ | refine blk_alloc ?_ _)); exact BK133.out)) : gb133 ≠ gb153))
                            have n7_ := Aside0.mk ((by rw [hg]; exact Nat.ne_of_gt (blk_lt (g := gb133) (o := .cells #[.int .u64 t127, .int .i64 t128, .int .i64 t129, .int .i64 t130] 38 (0, 0)) (by (with_reducible repeat (first | refine blk_drewN ?_ _ | refine blk_drew ?_ | refine blk_alloc ?_ _)); exact BK133.out)) : gb153 ≠ gb133))
                            have n8_ := Aside0.mk ((by rw [hg]; exact Nat.ne_of_lt (blk_lt (g := gb143) (o := .cells #[.int .u64 t137, .int .i64 t138, .int .i64 t139, .int .i64 t140] 38 (0, 0)) (by (with_reducible repeat (first | refine blk_drewN ?_ _ | refine blk_drew ?_ | refine blk_alloc ?_ _)); exact BK143.out)) : gb143 ≠ gb153))
                            have n9_ := Aside0.mk ((by rw [hg]; exact Nat.ne_of_gt (blk_lt (g := gb143) (o := .cells #[.int .u64 t137, .int .i64 t138, .int .i64 t139, .int .i64 t140] 38 (0, 0)) (by (with_reducible repeat (first | refine blk_drewN ?_ _ | refine blk_drew ?_ | refine blk_alloc ?_ _)); exact BK143.out)) : gb153 ≠ gb143))
                            clear BK133
                            clear BK143
                            clear HB
                            have BK133 := n0_
                            have BK143 := n1_
                            have HB := n2_
                            have BK153 := n3_
                            have GW153 := n4_
                            have GE153 := n5_
                            have NB133_153 := n6_
                            have NB153_133 := n7_
                            have NB143_153 := n8_
                            have NB153_143 := n9_
                            clear n0_ n1_ n2_ n3_ n4_ n5_ n6_ n7_ n8_ n9_
                            clear hb hbox hg
                            refine hK.out _ _ ⟨(blk_cell BK143.out 0).trans rfl, (blk_cell BK143.out 1).trans rfl, (blk_cell BK143.out 2).trans rfl, (blk_cell BK143.out 3).trans rfl⟩ (fun hHeld => ?_)
                            clear hK K
                            refine norm_ (a' := ?_) ?_ ?_
                            rotate_left
                            · show Act.put _ (some 7) _ = _
                              simp only [Act.put, List.setIfInBounds_toArray, List.set_cons_zero, List.set_cons_succ, i64_w, i32_w]
                              rfl
                            refine one_ (i := 2) (N := some 32) #[true, true, true, false, false, false, false, true, false, false, false] rfl rfl (one_of HT_.out (by kernel_rfl)) (by decide) (fun K hK => ?_)
                            refine goes_ Try.func18 (by kernel_rfl) rfl #[.agg #[.int .i64 t144, .int .i64 t145, .int .i64 t146], .agg #[.int .u64 t137, .int .i64 t138, .int .i64 t139, .int .i64 t140], .int .i64 3, .int .u64 2, .int .i64 15] (by rfl) rfl rfl (by (try simp only [List.map_toArray, List.map_cons, List.map_nil]); first | done | rfl | (simp only [List.length_drop, List.length_take]; rfl)) ?_
                            with_reducible refine (vote_Ask.calls t144 t145 t146 t137 t138 t139 t140 3 2 15 t147 t148 t149 t150 true t152 _ A7.out).mono ?_
                            rintro e w41 ⟨rfl, hb⟩
                            refine ⟨_, rfl, ?_⟩
                            have n0_ := Aside0.mk (blk_below (g := gb133) (o := .cells #[.int .u64 t127, .int .i64 t128, .int .i64 t129, .int .i64 t130] 38 (0, 0)) (by (with_reducible repeat (first | refine blk_drewN ?_ _ | refine blk_drew ?_ | refine blk_alloc ?_ _)); exact BK133.out) hb)
                            have n1_ := Aside0.mk (blk_below (g := gb143) (o := .cells #[.int .u64 t137, .int .i64 t138, .int .i64 t139, .int .i64 t140] 38 (0, 0)) (by (with_reducible repeat (first | refine blk_drewN ?_ _ | refine blk_drew ?_ | refine blk_alloc ?_ _)); exact BK143.out) hb)
                            have n2_ := Aside0.mk (blk_below (g := gb153) (o := .cells #[.int .u64 0, .int .i64 0, .int .i64 0, .int .i64 0] 38 (0, 0)) (by (with_reducible repeat (first | refine blk_drewN ?_ _ | refine blk_drew ?_ | refine blk_alloc ?_ _)); exact BK153.out) hb)
                            have n3_ := Aside0.mk (below_step (by repeat (first | (with_reducible first | exact HB.out | apply below_alloc | apply pw_below_drewN | apply below_drew1 | refine below_set ?_ GE133.out | refine below_set ?_ GE143.out | refine below_set ?_ GE153.out) | exact HB.out)) hb)
                            clear BK133
                            clear BK143
                            clear BK153
                            clear HB
                            have BK133 := n0_
                            have BK143 := n1_
                            have BK153 := n2_
                            have HB := n3_
                            clear n0_ n1_ n2_ n3_
                            (try clear hb)
                            (try clear hb2)
                            (try clear hk)
                            (try clear hi)
                            refine hK.out _ _ ⟨(blk_cell BK143.out 0).trans rfl, (blk_cell BK143.out 1).trans rfl, (blk_cell BK143.out 2).trans rfl, (blk_cell BK143.out 3).trans rfl⟩ (fun hHeld => ?_)
                            clear hK K
                            refine norm_ (a' := ?_) ?_ ?_
                            rotate_left
                            · show Act.put _ (some 32) _ = _
                              simp only [Act.put, List.setIfInBounds_toArray, List.set_cons_zero, List.set_cons_succ, i64_w, i32_w]
                              rfl
                            refine pure_ (i := 3) (N := some 29) (v := ?_) (a' := ?_) #[true, true, true, true, false, false, false, true, false, false, false] rfl rfl (any_of HT_.out (by kernel_rfl)) (fun _ _ _ h => h) (Or.inl ⟨by rfl, ?_⟩) ?_ ?_
                            rotate_left
                            · intro w'
                              go_simp
                              with_reducible rfl
                            rotate_left
                            · simp only [Act.put, List.setIfInBounds_toArray, List.set_cons_zero, List.set_cons_succ, i64_w, i32_w]
                              rfl
                            refine pure_ (i := 4) (N := some 33) (v := ?_) (a' := ?_) #[true, true, true, true, true, false, false, true, false, false, false] rfl rfl (any_of HT_.out (by kernel_rfl)) (fun _ _ _ h => h) (Or.inl ⟨by rfl, ?_⟩) ?_ ?_
                            rotate_left
                            · intro w'
                              go_simp
                              with_reducible rfl
                            rotate_left
                            · simp only [Act.put, List.setIfInBounds_toArray, List.set_cons_zero, List.set_cons_succ, i64_w, i32_w]
                              rfl
                            refine pure_ (i := 5) (N := some 34) (v := ?_) (a' := ?_) #[true, true, true, true, true, true, false, true, false, false, false] rfl rfl (any_of HT_.out (by kernel_rfl)) (fun _ _ _ h => h) (Or.inl ⟨by rfl, ?_⟩) ?_ ?_
                            rotate_left
                            · intro w'
                              go_simp
                              with_reducible rfl
                            rotate_left
                            · simp only [Act.put, List.setIfInBounds_toArray, List.set_cons_zero, List.set_cons_succ, i64_w, i32_w]
                              rfl
                            refine pure_ (i := 6) (N := some 35) (v := ?_) (a' := ?_) #[true, true, true, true, true, true, true, true, false, false, false] rfl rfl (any_of HT_.out (by kernel_rfl)) (fun _ _ _ h => h) (Or.inl ⟨by rfl, ?_⟩) ?_ ?_
                            rotate_left
                            · intro w'
                              go_simp
                              with_reducible rfl
                            rotate_left
                            · simp only [Act.put, List.setIfInBounds_toArray, List.set_cons_zero, List.set_cons_succ, i64_w, i32_w]
                              rfl
                            exact norm_ (by simp only [putAll, Act.put, List.setIfInBounds_toArray, List.set_cons_zero, List.set_cons_succ]) (hCont (gb153) _ ⟨hHeld, (by (with_reducible repeat (first | refine blk_drewN ?_ _ | refine blk_drew ?_ | refine blk_alloc ?_ _)); exact BK133.out), (by (with_reducible repeat (first | refine blk_drewN ?_ _ | refine blk_drew ?_ | refine blk_alloc ?_ _)); exact BK143.out), (by (with_reducible repeat (first | refine blk_drewN ?_ _ | refine blk_drew ?_ | refine blk_alloc ?_ _)); exact BK153.out), GW153.out, GE153.out, NB133_153.out, NB153_133.out, NB143_153.out, NB153_143.out, (by repeat (first | (with_reducible first | exact HB.out | apply below_alloc | apply pw_below_drewN | apply below_drew1 | refine below_set ?_ GE133.out | refine below_set ?_ GE143.out | refine below_set ?_ GE153.out) | exact HB.out))⟩)
                        · skip
                          refine box_step ?hg (N := 7) ?hd (cs := #[.int .u64 0, .int .i64 0, .int .i64 0, .int .i64 0]) (t := 38) ?hr ?_; (case hd => rfl); (case hg => rfl); (case hr => first | (go_simp; done) | (go_simp; rfl))
                          intro gb153 hg w39 hbox hb
                          have n0_ := Aside0.mk (blk_below (g := gb133) (o := .cells #[.int .u64 t127, .int .i64 t128, .int .i64 t129, .int .i64 t130] 38 (0, 0)) (by (with_reducible repeat (first | refine blk_drewN ?_ _ | refine blk_drew ?_ | refine blk_alloc ?_ _)); exact BK133.out) hb)
                          have n1_ := Aside0.mk (blk_below (g := gb143) (o := .cells #[.int .u64 t137, .int .i64 t138, .int .i64 t139, .int .i64 t140] 38 (0, 0)) (by (with_reducible repeat (first | refine blk_drewN ?_ _ | refine blk_drew ?_ | refine blk_alloc ?_ _)); exact BK143.out) hb)
                          have n2_ := Aside0.mk (below_step (by repeat (first | (with_reducible first | exact HB.out | apply below_alloc | apply pw_below_drewN | apply below_drew1 | refine below_set ?_ GE133.out | refine below_set ?_ GE143.out) | exact HB.out)) hb)
                          have n3_ := Aside0.mk (hbox)
                          have n4_ := Aside0.mk ((by rw [hg]; exact (below_size (by repeat (first | (with_reducible first | exact HB.out | apply below_alloc | apply pw_below_drewN | apply below_drew1 | refine below_set ?_ GE133.out | refine below_set ?_ GE143.out) | exact HB.out))) : w.heap.size ≤ gb153))
                          have n5_ := Aside0.mk ((by rw [hg]; exact (below_size (by repeat (first | (with_reducible first | exact HB.out | apply below_alloc | apply pw_below_drewN | apply below_drew1 | refine below_set ?_ GE133.out | refine below_set ?_ GE143.out) | exact HB.out))) : w.heap.size ≤ gb153))
                          have n6_ := Aside0.mk ((by rw [hg]; exact Nat.ne_of_lt (blk_lt (g := gb133) (o := .cells #[.int .u64 t127, .int .i64 t128, .int .i64 t129, .int .i64 t130] 38 (0, 0)) (by (with_reducible repeat (first | refine blk_drewN ?_ _ | refine blk_drew ?_ | refine blk_alloc ?_ _)); exact BK133.out)) : gb133 ≠ gb153))
                          have n7_ := Aside0.mk ((by rw [hg]; exact Nat.ne_of_gt (blk_lt (g := gb133) (o := .cells #[.int .u64 t127, .int .i64 t128, .int .i64 t129, .int .i64 t130] 38 (0, 0)) (by (with_reducible repeat (first | refine blk_drewN ?_ _ | refine blk_drew ?_ | refine blk_alloc ?_ _)); exact BK133.out)) : gb153 ≠ gb133))
                          have n8_ := Aside0.mk ((by rw [hg]; exact Nat.ne_of_lt (blk_lt (g := gb143) (o := .cells #[.int .u64 t137, .int .i64 t138, .int .i64 t139, .int .i64 t140] 38 (0, 0)) (by (with_reducible repeat (first | refine blk_drewN ?_ _ | refine blk_drew ?_ | refine blk_alloc ?_ _)); exact BK143.out)) : gb143 ≠ gb153))
                          have n9_ := Aside0.mk ((by rw [hg]; exact Nat.ne_of_gt (blk_lt (g := gb143) (o := .cells #[.int .u64 t137, .int .i64 t138, .int .i64 t139, .int .i64 t140] 38 (0, 0)) (by (with_reducible repeat (first | refine blk_drewN ?_ _ | refine blk_drew ?_ | refine blk_alloc ?_ _)); exact BK143.out)) : gb153 ≠ gb143))
                          clear BK133
                          clear BK143
                          clear HB
                          have BK133 := n0_
                          have BK143 := n1_
                          have HB := n2_
                          have BK153 := n3_
                          have GW153 := n4_
                          have GE153 := n5_
                          have NB133_153 := n6_
                          have NB153_133 := n7_
                          have NB143_153 := n8_
                          have NB153_143 := n9_
                          clear n0_ n1_ n2_ n3_ n4_ n5_ n6_ n7_ n8_ n9_
                          clear hb hbox hg
                          refine hK.out _ _ ⟨(blk_cell BK143.out 0).trans rfl, (blk_cell BK143.out 1).trans rfl, (blk_cell BK143.out 2).trans rfl, (blk_cell BK143.out 3).trans rfl⟩ (fun hHeld => ?_)
                          clear hK K
                          refine norm_ (a' := ?_) ?_ ?_
                          rotate_left
                          · show Act.put _ (some 7) _ = _
                            simp only [Act.put, List.setIfInBounds_toArray, List.set_cons_zero, List.set_cons_succ, i64_w, i32_w]
                            rfl
                          refine one_ (i := 0) (N := some 30) #[true, true, false, false, false, false, false, true, false, false, false] rfl rfl (one_of HT_.out (by kernel_rfl)) (by decide) (fun K hK => ?_)
                          refine goes_ Try.func39 (by kernel_rfl) rfl #[] (by rfl) rfl rfl (by (try simp only [List.map_toArray, List.map_cons, List.map_nil]); first | done | rfl | (simp only [List.length_drop, List.length_take]; rfl)) ?_
                          with_reducible refine (tattlelaw17_ten.calls  t144 t145 t146 _ A6.out).mono ?_
                          rintro e w40 ⟨rfl, hb⟩
                          refine ⟨_, rfl, ?_⟩
                          have n0_ := Aside0.mk (blk_below (g := gb133) (o := .cells #[.int .u64 t127, .int .i64 t128, .int .i64 t129, .int .i64 t130] 38 (0, 0)) (by (with_reducible repeat (first | refine blk_drewN ?_ _ | refine blk_drew ?_ | refine blk_alloc ?_ _)); exact BK133.out) hb)
                          have n1_ := Aside0.mk (blk_below (g := gb143) (o := .cells #[.int .u64 t137, .int .i64 t138, .int .i64 t139, .int .i64 t140] 38 (0, 0)) (by (with_reducible repeat (first | refine blk_drewN ?_ _ | refine blk_drew ?_ | refine blk_alloc ?_ _)); exact BK143.out) hb)
                          have n2_ := Aside0.mk (blk_below (g := gb153) (o := .cells #[.int .u64 0, .int .i64 0, .int .i64 0, .int .i64 0] 38 (0, 0)) (by (with_reducible repeat (first | refine blk_drewN ?_ _ | refine blk_drew ?_ | refine blk_alloc ?_ _)); exact BK153.out) hb)
                          have n3_ := Aside0.mk (below_step (by repeat (first | (with_reducible first | exact HB.out | apply below_alloc | apply pw_below_drewN | apply below_drew1 | refine below_set ?_ GE133.out | refine below_set ?_ GE143.out | refine below_set ?_ GE153.out) | exact HB.out)) hb)
                          clear BK133
                          clear BK143
                          clear BK153
                          clear HB
                          have BK133 := n0_
                          have BK143 := n1_
                          have BK153 := n2_
                          have HB := n3_
                          clear n0_ n1_ n2_ n3_
                          (try clear hb)
                          (try clear hb2)
                          (try clear hk)
                          (try clear hi)
                          refine hK.out _ _ ⟨(blk_cell BK143.out 0).trans rfl, (blk_cell BK143.out 1).trans rfl, (blk_cell BK143.out 2).trans rfl, (blk_cell BK143.out 3).trans rfl⟩ (fun hHeld => ?_)
                          clear hK K
                          refine norm_ (a' := ?_) ?_ ?_
                          rotate_left
                          · show Act.put _ (some 30) _ = _
                            simp only [Act.put, List.setIfInBounds_toArray, List.set_cons_zero, List.set_cons_succ, i64_w, i32_w]
                            rfl
                          refine one_ (i := 2) (N := some 32) #[true, true, true, false, false, false, false, true, false, false, false] rfl rfl (one_of HT_.out (by kernel_rfl)) (by decide) (fun K hK => ?_)
                          refine goes_ Try.func18 (by kernel_rfl) rfl #[.agg #[.int .i64 t144, .int .i64 t145, .int .i64 t146], .agg #[.int .u64 t137, .int .i64 t138, .int .i64 t139, .int .i64 t140], .int .i64 3, .int .u64 2, .int .i64 15] (by rfl) rfl rfl (by (try simp only [List.map_toArray, List.map_cons, List.map_nil]); first | done | rfl | (simp only [List.length_drop, List.length_take]; rfl)) ?_
                          with_reducible refine (vote_Ask.calls t144 t145 t146 t137 t138 t139 t140 3 2 15 t147 t148 t149 t150 true t152 _ A7.out).mono ?_
                          rintro e w41 ⟨rfl, hb⟩
                          refine ⟨_, rfl, ?_⟩
                          have n0_ := Aside0.mk (blk_below (g := gb133) (o := .cells #[.int .u64 t127, .int .i64 t128, .int .i64 t129, .int .i64 t130] 38 (0, 0)) (by (with_reducible repeat (first | refine blk_drewN ?_ _ | refine blk_drew ?_ | refine blk_alloc ?_ _)); exact BK133.out) hb)
                          have n1_ := Aside0.mk (blk_below (g := gb143) (o := .cells #[.int .u64 t137, .int .i64 t138, .int .i64 t139, .int .i64 t140] 38 (0, 0)) (by (with_reducible repeat (first | refine blk_drewN ?_ _ | refine blk_drew ?_ | refine blk_alloc ?_ _)); exact BK143.out) hb)
                          have n2_ := Aside0.mk (blk_below (g := gb153) (o := .cells #[.int .u64 0, .int .i64 0, .int .i64 0, .int .i64 0] 38 (0, 0)) (by (with_reducible repeat (first | refine blk_drewN ?_ _ | refine blk_drew ?_ | refine blk_alloc ?_ _)); exact BK153.out) hb)
                          have n3_ := Aside0.mk (below_step (by repeat (first | (with_reducible first | exact HB.out | apply below_alloc | apply pw_below_drewN | apply below_drew1 | refine below_set ?_ GE133.out | refine below_set ?_ GE143.out | refine below_set ?_ GE153.out) | exact HB.out)) hb)
                          clear BK133
                          clear BK143
                          clear BK153
                          clear HB
                          have BK133 := n0_
                          have BK143 := n1_
                          have BK153 := n2_
                          have HB := n3_
                          clear n0_ n1_ n2_ n3_
                          (try clear hb)
                          (try clear hb2)
                          (try clear hk)
                          (try clear hi)
                          refine hK.out _ _ ⟨(blk_cell BK143.out 0).trans rfl, (blk_cell BK143.out 1).trans rfl, (blk_cell BK143.out 2).trans rfl, (blk_cell BK143.out 3).trans rfl⟩ (fun hHeld => ?_)
                          clear hK K
                          refine norm_ (a' := ?_) ?_ ?_
                          rotate_left
                          · show Act.put _ (some 32) _ = _
                            simp only [Act.put, List.setIfInBounds_toArray, List.set_cons_zero, List.set_cons_succ, i64_w, i32_w]
                            rfl
                          refine pure_ (i := 3) (N := some 29) (v := ?_) (a' := ?_) #[true, true, true, true, false, false, false, true, false, false, false] rfl rfl (any_of HT_.out (by kernel_rfl)) (fun _ _ _ h => h) (Or.inl ⟨by rfl, ?_⟩) ?_ ?_
                          rotate_left
                          · intro w'
                            go_simp
                            with_reducible rfl
                          rotate_left
                          · simp only [Act.put, List.setIfInBounds_toArray, List.set_cons_zero, List.set_cons_succ, i64_w, i32_w]
                            rfl
                          refine pure_ (i := 4) (N := some 33) (v := ?_) (a' := ?_) #[true, true, true, true, true, false, false, true, false, false, false] rfl rfl (any_of HT_.out (by kernel_rfl)) (fun _ _ _ h => h) (Or.inl ⟨by rfl, ?_⟩) ?_ ?_
                          rotate_left
                          · intro w'
                            go_simp
                            with_reducible rfl
                          rotate_left
                          · simp only [Act.put, List.setIfInBounds_toArray, List.set_cons_zero, List.set_cons_succ, i64_w, i32_w]
                            rfl
                          refine pure_ (i := 5) (N := some 34) (v := ?_) (a' := ?_) #[true, true, true, true, true, true, false, true, false, false, false] rfl rfl (any_of HT_.out (by kernel_rfl)) (fun _ _ _ h => h) (Or.inl ⟨by rfl, ?_⟩) ?_ ?_
                          rotate_left
                          · intro w'
                            go_simp
                            with_reducible rfl
                          rotate_left
                          · simp only [Act.put, List.setIfInBounds_toArray, List.set_cons_zero, List.set_cons_succ, i64_w, i32_w]
                            rfl
                          refine pure_ (i := 6) (N := some 35) (v := ?_) (a' := ?_) #[true, true, true, true, true, true, true, true, false, false, false] rfl rfl (any_of HT_.out (by kernel_rfl)) (fun _ _ _ h => h) (Or.inl ⟨by rfl, ?_⟩) ?_ ?_
                          rotate_left
                          · intro w'
                            go_simp
                            with_reducible rfl
                          rotate_left
                          · simp only [Act.put, List.setIfInBounds_toArray, List.set_cons_zero, List.set_cons_succ, i64_w, i32_w]
                            rfl
                          exact norm_ (by simp only [putAll, Act.put, List.setIfInBounds_toArray, List.set_cons_zero, List.set_cons_succ]) (hCont (gb153) _ ⟨hHeld, (by (with_reducible repeat (first | refine blk_drewN ?_ _ | refine blk_drew ?_ | refine blk_alloc ?_ _)); exact BK133.out), (by (with_reducible repeat (first | refine blk_drewN ?_ _ | refine blk_drew ?_ | refine blk_alloc ?_ _)); exact BK143.out), (by (with_reducible repeat (first | refine blk_drewN ?_ _ | refine blk_drew ?_ | refine blk_alloc ?_ _)); exact BK153.out), GW153.out, GE153.out, NB133_153.out, NB153_133.out, NB143_153.out, NB153_143.out, (by repeat (first | (with_reducible first | exact HB.out | apply below_alloc | apply pw_below_drewN | apply below_drew1 | refine below_set ?_ GE133.out | refine below_set ?_ GE143.out | refine below_set ?_ GE153.out) | exact HB.out))⟩)
                      rintro gb153 w42 ⟨hS_, h0_, h1_, h2_, h3_, h4_, h5_, h6_, h7_, h8_, h9_⟩
                      have n0_ : Aside0 (w42.heap[gb133]? = some (.cells #[.int .u64 t127, .int .i64 t128, .int .i64 t129, .int .i64 t130] 38 (0, 0))) := ⟨h0_⟩
                      have n1_ : Aside0 (w42.heap[gb143]? = some (.cells #[.int .u64 t137, .int .i64 t138, .int .i64 t139, .int .i64 t140] 38 (0, 0))) := ⟨h1_⟩
                      have n2_ : Aside0 (w42.heap[gb153]? = some (.cells #[.int .u64 0, .int .i64 0, .int .i64 0, .int .i64 0] 38 (0, 0))) := ⟨h2_⟩
                      have n3_ : Aside0 (w.heap.size ≤ gb153) := ⟨h3_⟩
                      have n4_ : Aside0 (w.heap.size ≤ gb153) := ⟨h4_⟩
                      have n5_ : Aside0 (gb133 ≠ gb153) := ⟨h5_⟩
                      have n6_ : Aside0 (gb153 ≠ gb133) := ⟨h6_⟩
                      have n7_ : Aside0 (gb143 ≠ gb153) := ⟨h7_⟩
                      have n8_ : Aside0 (gb153 ≠ gb143) := ⟨h8_⟩
                      have n9_ : Aside0 (Below w.heap.size w w42) := ⟨h9_⟩
                      clear BK133
                      clear BK143
                      clear HB
                      clear h0_ h1_ h2_ h3_ h4_ h5_ h6_ h7_ h8_ h9_
                      have BK133 := n0_
                      have BK143 := n1_
                      have BK153 := n2_
                      have GW153 := n3_
                      have GE153 := n4_
                      have NB133_153 := n5_
                      have NB153_133 := n6_
                      have NB143_153 := n7_
                      have NB153_143 := n8_
                      have HB := n9_
                      clear n0_ n1_ n2_ n3_ n4_ n5_ n6_ n7_ n8_ n9_
                      have hHeld : w42.cell? ⟨gb143, 0, none⟩ = some (.int .u64 t137) ∧ w42.cell? ⟨gb143, 1, none⟩ = some (.int .i64 t138) ∧ w42.cell? ⟨gb143, 2, none⟩ = some (.int .i64 t139) ∧ w42.cell? ⟨gb143, 3, none⟩ = some (.int .i64 t140) := hS_
                      refine norm_ (a' := ?_) ?_ ?_
                      rotate_left
                      · simp only [putAll, Act.put, List.setIfInBounds_toArray, List.set_cons_zero, List.set_cons_succ]
                        rfl
                      refine one_ (i := 8) (N := none) #[true, true, true, true, true, true, true, true, true, false, false] rfl rfl (one_of HT_.out (by kernel_rfl)) (by decide) (fun K hK => ?_)
                      have hs43 : w42.cell? ⟨gb153, 0, none⟩ = some (.int .u64 0) := (blk_cell BK153.out 0).trans rfl
                      have hfs43 := blk_frozen BK153.out 0
                      have hns43_0 := NB133_153.out
                      have hns43_1 := NB143_153.out
                      have hms43_0 := NB153_133.out
                      have hms43_1 := NB153_143.out
                      have hs44 : w42.cell? ⟨gb153, 1, none⟩ = some (.int .i64 0) := (blk_cell BK153.out 1).trans rfl
                      have hfs44 := blk_frozen BK153.out 1
                      have hns44_0 := NB133_153.out
                      have hns44_1 := NB143_153.out
                      have hms44_0 := NB153_133.out
                      have hms44_1 := NB153_143.out
                      have hs45 : w42.cell? ⟨gb153, 2, none⟩ = some (.int .i64 0) := (blk_cell BK153.out 2).trans rfl
                      have hfs45 := blk_frozen BK153.out 2
                      have hns45_0 := NB133_153.out
                      have hns45_1 := NB143_153.out
                      have hms45_0 := NB153_133.out
                      have hms45_1 := NB153_143.out
                      have hs46 : w42.cell? ⟨gb153, 3, none⟩ = some (.int .i64 0) := (blk_cell BK153.out 3).trans rfl
                      have hfs46 := blk_frozen BK153.out 3
                      have hns46_0 := NB133_153.out
                      have hns46_1 := NB143_153.out
                      have hms46_0 := NB153_133.out
                      have hms46_1 := NB153_143.out
                      refine skip_ (w1 := ?_) (by rfl) rfl ?_ ?_
                      rotate_left
                      · go_simp
                        rfl
                      refine hK.out _ _ ⟨((cell_far (p := ⟨gb153, _, none⟩) NB143_153.out _).trans (((cell_far (p := ⟨gb153, _, none⟩) NB143_153.out _).trans (((cell_far (p := ⟨gb153, _, none⟩) NB143_153.out _).trans (((cell_far (p := ⟨gb153, _, none⟩) NB143_153.out _).trans (hHeld.1)))))))), ((cell_far (p := ⟨gb153, _, none⟩) NB143_153.out _).trans (((cell_far (p := ⟨gb153, _, none⟩) NB143_153.out _).trans (((cell_far (p := ⟨gb153, _, none⟩) NB143_153.out _).trans (((cell_far (p := ⟨gb153, _, none⟩) NB143_153.out _).trans (hHeld.2.1)))))))), ((cell_far (p := ⟨gb153, _, none⟩) NB143_153.out _).trans (((cell_far (p := ⟨gb153, _, none⟩) NB143_153.out _).trans (((cell_far (p := ⟨gb153, _, none⟩) NB143_153.out _).trans (((cell_far (p := ⟨gb153, _, none⟩) NB143_153.out _).trans (hHeld.2.2.1)))))))), ((cell_far (p := ⟨gb153, _, none⟩) NB143_153.out _).trans (((cell_far (p := ⟨gb153, _, none⟩) NB143_153.out _).trans (((cell_far (p := ⟨gb153, _, none⟩) NB143_153.out _).trans (((cell_far (p := ⟨gb153, _, none⟩) NB143_153.out _).trans (hHeld.2.2.2))))))))⟩ (fun hHeld => ?_)
                      clear hK K
                      refine pure_ (i := 9) (N := some 8) (v := ?_) (a' := ?_) #[true, true, true, true, true, true, true, true, true, true, false] rfl rfl (any_of HT_.out (by kernel_rfl)) (fun _ _ _ h => h) (Or.inl ⟨by rfl, ?_⟩) ?_ ?_
                      rotate_left
                      · intro w'
                        go_simp
                        with_reducible rfl
                      rotate_left
                      · simp only [Act.put, List.setIfInBounds_toArray, List.set_cons_zero, List.set_cons_succ, i64_w, i32_w]
                        rfl
                      refine pure_ (i := 10) (N := some 9) (v := ?_) (a' := ?_) #[true, true, true, true, true, true, true, true, true, true, true] rfl rfl (any_of HT_.out (by kernel_rfl)) (fun _ _ _ h => h) (Or.inl ⟨by rfl, ?_⟩) ?_ ?_
                      rotate_left
                      · intro w'
                        go_simp
                        with_reducible rfl
                      rotate_left
                      · simp only [Act.put, List.setIfInBounds_toArray, List.set_cons_zero, List.set_cons_succ, i64_w, i32_w]
                        rfl
                      refine done_ (done_of HT_.out (by kernel_rfl)) ?_
                      try go_wp2_with (first | ((with_reducible refine gate_callee (f := 39) rfl ?_); refine goesL_ (some 37) rfl rfl Try.func39 (by kernel_rfl) rfl #[] rfl (by (try simp only [List.map_toArray, List.map_cons, List.map_nil]); first | done | rfl | (simp only [List.length_drop, List.length_take]; rfl)) ?_; (with_reducible refine (tattlelaw17_ten.calls  t154 t155 t156 _ A8.out).mono ?_); rintro e w47 ⟨rfl, hb⟩; refine ⟨_, rfl, ?_⟩; have n0_ := Aside0.mk (blk_below (g := gb133) (o := .cells #[.int .u64 t127, .int .i64 t128, .int .i64 t129, .int .i64 t130] 38 (0, 0)) (by (with_reducible repeat (first | refine blk_drewN ?_ _ | refine blk_drew ?_ | refine blk_alloc ?_ _)); refine blk_far ?_ NB133_153.out _; (with_reducible repeat (first | refine blk_drewN ?_ _ | refine blk_drew ?_ | refine blk_alloc ?_ _)); refine blk_far ?_ NB133_153.out _; (with_reducible repeat (first | refine blk_drewN ?_ _ | refine blk_drew ?_ | refine blk_alloc ?_ _)); refine blk_far ?_ NB133_153.out _; (with_reducible repeat (first | refine blk_drewN ?_ _ | refine blk_drew ?_ | refine blk_alloc ?_ _)); refine blk_far ?_ NB133_153.out _; (with_reducible repeat (first | refine blk_drewN ?_ _ | refine blk_drew ?_ | refine blk_alloc ?_ _)); exact BK133.out) hb); have n1_ := Aside0.mk (blk_below (g := gb143) (o := .cells #[.int .u64 t137, .int .i64 t138, .int .i64 t139, .int .i64 t140] 38 (0, 0)) (by (with_reducible repeat (first | refine blk_drewN ?_ _ | refine blk_drew ?_ | refine blk_alloc ?_ _)); refine blk_far ?_ NB143_153.out _; (with_reducible repeat (first | refine blk_drewN ?_ _ | refine blk_drew ?_ | refine blk_alloc ?_ _)); refine blk_far ?_ NB143_153.out _; (with_reducible repeat (first | refine blk_drewN ?_ _ | refine blk_drew ?_ | refine blk_alloc ?_ _)); refine blk_far ?_ NB143_153.out _; (with_reducible repeat (first | refine blk_drewN ?_ _ | refine blk_drew ?_ | refine blk_alloc ?_ _)); refine blk_far ?_ NB143_153.out _; (with_reducible repeat (first | refine blk_drewN ?_ _ | refine blk_drew ?_ | refine blk_alloc ?_ _)); exact BK143.out) hb); have n2_ := Aside0.mk (blk_below (g := gb153) (o := .cells #[.int .u64 t147, .int .i64 t148, .int .i64 t149, .int .i64 t150] 38 (0, 0)) (by (with_reducible repeat (first | refine blk_drewN ?_ _ | refine blk_drew ?_ | refine blk_alloc ?_ _)); refine blk_put (cs := #[.int .u64 t147, .int .i64 t148, .int .i64 t149, .int .i64 0]) ?_ 3 _ rfl; (with_reducible repeat (first | refine blk_drewN ?_ _ | refine blk_drew ?_ | refine blk_alloc ?_ _)); refine blk_put (cs := #[.int .u64 t147, .int .i64 t148, .int .i64 0, .int .i64 0]) ?_ 2 _ rfl; (with_reducible repeat (first | refine blk_drewN ?_ _ | refine blk_drew ?_ | refine blk_alloc ?_ _)); refine blk_put (cs := #[.int .u64 t147, .int .i64 0, .int .i64 0, .int .i64 0]) ?_ 1 _ rfl; (with_reducible repeat (first | refine blk_drewN ?_ _ | refine blk_drew ?_ | refine blk_alloc ?_ _)); refine blk_put (cs := #[.int .u64 0, .int .i64 0, .int .i64 0, .int .i64 0]) ?_ 0 _ rfl; (with_reducible repeat (first | refine blk_drewN ?_ _ | refine blk_drew ?_ | refine blk_alloc ?_ _)); exact BK153.out) hb); have n3_ := Aside0.mk (below_step (by repeat (first | (with_reducible first | exact HB.out | apply below_alloc | apply pw_below_drewN | apply below_drew1 | refine below_set ?_ GE133.out | refine below_set ?_ GE143.out | refine below_set ?_ GE153.out) | exact HB.out)) hb); clear BK133; clear BK143; clear BK153; clear HB; have BK133 := n0_; have BK143 := n1_; have BK153 := n2_; have HB := n3_; clear n0_ n1_ n2_ n3_; (try clear hb); (try clear hb2); (try clear hk); (try clear hi)) | ((with_reducible refine gate_callee (f := 41) rfl ?_); refine goesL_ (some 38) rfl rfl Try.func41 (by kernel_rfl) rfl #[.agg #[.int .i64 t154, .int .i64 t155, .int .i64 t156], .int .u64 0, .int .i64 (-1), .int .i64 0] rfl (by (try simp only [List.map_toArray, List.map_cons, List.map_nil]); first | done | rfl | (simp only [List.length_drop, List.length_take]; rfl)) ?_; (with_reducible refine (vote_Restart.calls t154 t155 t156 0 (-1) 0 t157 t158 t159 t160 t161 _ A9.out).mono ?_); rintro e w48 ⟨rfl, hb⟩; refine ⟨_, rfl, ?_⟩; have n0_ := Aside0.mk (blk_below (g := gb133) (o := .cells #[.int .u64 t127, .int .i64 t128, .int .i64 t129, .int .i64 t130] 38 (0, 0)) (by (with_reducible repeat (first | refine blk_drewN ?_ _ | refine blk_drew ?_ | refine blk_alloc ?_ _)); exact BK133.out) hb); have n1_ := Aside0.mk (blk_below (g := gb143) (o := .cells #[.int .u64 t137, .int .i64 t138, .int .i64 t139, .int .i64 t140] 38 (0, 0)) (by (with_reducible repeat (first | refine blk_drewN ?_ _ | refine blk_drew ?_ | refine blk_alloc ?_ _)); exact BK143.out) hb); have n2_ := Aside0.mk (blk_below (g := gb153) (o := .cells #[.int .u64 t147, .int .i64 t148, .int .i64 t149, .int .i64 t150] 38 (0, 0)) (by (with_reducible repeat (first | refine blk_drewN ?_ _ | refine blk_drew ?_ | refine blk_alloc ?_ _)); exact BK153.out) hb); have n3_ := Aside0.mk (below_step (by repeat (first | (with_reducible first | exact HB.out | apply below_alloc | apply pw_below_drewN | apply below_drew1 | refine below_set ?_ GE133.out | refine below_set ?_ GE143.out | refine below_set ?_ GE153.out) | exact HB.out)) hb); clear BK133; clear BK143; clear BK153; clear HB; have BK133 := n0_; have BK143 := n1_; have BK153 := n2_; have HB := n3_; clear n0_ n1_ n2_ n3_; (try clear hb); (try clear hb2); (try clear hk); (try clear hi)) | ((with_reducible refine gate_dst (N := 10) rfl ?_); refine box_event ?hg (N := 10) ?hd (cs := #[.int .u64 0, .int .i64 0, .int .i64 0, .int .i64 0]) (t := 38) ?hr ?_; (case hd => rfl); (case hg => rfl); (case hr => first | (go_simp; done) | (go_simp; rfl)); intro gb162 hg w49 hbox hb; have n0_ := Aside0.mk (blk_below (g := gb133) (o := .cells #[.int .u64 t127, .int .i64 t128, .int .i64 t129, .int .i64 t130] 38 (0, 0)) (by (with_reducible repeat (first | refine blk_drewN ?_ _ | refine blk_drew ?_ | refine blk_alloc ?_ _)); exact BK133.out) hb); have n1_ := Aside0.mk (blk_below (g := gb143) (o := .cells #[.int .u64 t137, .int .i64 t138, .int .i64 t139, .int .i64 t140] 38 (0, 0)) (by (with_reducible repeat (first | refine blk_drewN ?_ _ | refine blk_drew ?_ | refine blk_alloc ?_ _)); exact BK143.out) hb); have n2_ := Aside0.mk (blk_below (g := gb153) (o := .cells #[.int .u64 t147, .int .i64 t148, .int .i64 t149, .int .i64 t150] 38 (0, 0)) (by (with_reducible repeat (first | refine blk_drewN ?_ _ | refine blk_drew ?_ | refine blk_alloc ?_ _)); exact BK153.out) hb); have n3_ := Aside0.mk (below_step (by repeat (first | (with_reducible first | exact HB.out | apply below_alloc | apply pw_below_drewN | apply below_drew1 | refine below_set ?_ GE133.out | refine below_set ?_ GE143.out | refine below_set ?_ GE153.out) | exact HB.out)) hb); have n4_ := Aside0.mk (hbox); have n5_ := Aside0.mk ((by rw [hg]; exact (below_size (by repeat (first | (with_reducible first | exact HB.out | apply below_alloc | apply pw_below_drewN | apply below_drew1 | refine below_set ?_ GE133.out | refine below_set ?_ GE143.out | refine below_set ?_ GE153.out) | exact HB.out))) : w.heap.size ≤ gb162)); have n6_ := Aside0.mk ((by rw [hg]; exact (below_size (by repeat (first | (with_reducible first | exact HB.out | apply below_alloc | apply pw_below_drewN | apply below_drew1 | refine below_set ?_ GE133.out | refine below_set ?_ GE143.out | refine below_set ?_ GE153.out) | exact HB.out))) : w.heap.size ≤ gb162)); have n7_ := Aside0.mk ((by rw [hg]; exact Nat.ne_of_lt (blk_lt (g := gb133) (o := .cells #[.int .u64 t127, .int .i64 t128, .int .i64 t129, .int .i64 t130] 38 (0, 0)) (by (with_reducible repeat (first | refine blk_drewN ?_ _ | refine blk_drew ?_ | refine blk_alloc ?_ _)); exact BK133.out)) : gb133 ≠ gb162)); have n8_ := Aside0.mk ((by rw [hg]; exact Nat.ne_of_gt (blk_lt (g := gb133) (o := .cells #[.int .u64 t127, .int .i64 t128, .int .i64 t129, .int .i64 t130] 38 (0, 0)) (by (with_reducible repeat (first | refine blk_drewN ?_ _ | refine blk_drew ?_ | refine blk_alloc ?_ _)); exact BK133.out)) : gb162 ≠ gb133)); have n9_ := Aside0.mk ((by rw [hg]; exact Nat.ne_of_lt (blk_lt (g := gb143) (o := .cells #[.int .u64 t137, .int .i64 t138, .int .i64 t139, .int .i64 t140] 38 (0, 0)) (by (with_reducible repeat (first | refine blk_drewN ?_ _ | refine blk_drew ?_ | refine blk_alloc ?_ _)); exact BK143.out)) : gb143 ≠ gb162)); have n10_ := Aside0.mk ((by rw [hg]; exact Nat.ne_of_gt (blk_lt (g := gb143) (o := .cells #[.int .u64 t137, .int .i64 t138, .int .i64 t139, .int .i64 t140] 38 (0, 0)) (by (with_reducible repeat (first | refine blk_drewN ?_ _ | refine blk_drew ?_ | refine blk_alloc ?_ _)); exact BK143.out)) : gb162 ≠ gb143)); have n11_ := Aside0.mk ((by rw [hg]; exact Nat.ne_of_lt (blk_lt (g := gb153) (o := .cells #[.int .u64 t147, .int .i64 t148, .int .i64 t149, .int .i64 t150] 38 (0, 0)) (by (with_reducible repeat (first | refine blk_drewN ?_ _ | refine blk_drew ?_ | refine blk_alloc ?_ _)); exact BK153.out)) : gb153 ≠ gb162)); have n12_ := Aside0.mk ((by rw [hg]; exact Nat.ne_of_gt (blk_lt (g := gb153) (o := .cells #[.int .u64 t147, .int .i64 t148, .int .i64 t149, .int .i64 t150] 38 (0, 0)) (by (with_reducible repeat (first | refine blk_drewN ?_ _ | refine blk_drew ?_ | refine blk_alloc ?_ _)); exact BK153.out)) : gb162 ≠ gb153)); clear BK133; clear BK143; clear BK153; clear HB; have BK133 := n0_; have BK143 := n1_; have BK153 := n2_; have HB := n3_; have BK162 := n4_; have GW162 := n5_; have GE162 := n6_; have NB133_162 := n7_; have NB162_133 := n8_; have NB143_162 := n9_; have NB162_143 := n10_; have NB153_162 := n11_; have NB162_153 := n12_; clear n0_ n1_ n2_ n3_ n4_ n5_ n6_ n7_ n8_ n9_ n10_ n11_ n12_; clear hb hbox hg; have hnb50 := NB162_133.out; have hnc50 := NB133_162.out; have hnb51 := NB162_143.out; have hnc51 := NB143_162.out; have hnb52 := NB162_153.out; have hnc52 := NB153_162.out; have hcz53_0 : w49.cell? ⟨gb162, 0, none⟩ = some (.int .u64 0) := (blk_cell BK162.out 0).trans rfl; have hcz53_1 : w49.cell? ⟨gb162, 1, none⟩ = some (.int .i64 0) := (blk_cell BK162.out 1).trans rfl; have hcz53_2 : w49.cell? ⟨gb162, 2, none⟩ = some (.int .i64 0) := (blk_cell BK162.out 2).trans rfl; have hcz53_3 : w49.cell? ⟨gb162, 3, none⟩ = some (.int .i64 0) := (blk_cell BK162.out 3).trans rfl; have hfz53_0 := blk_frozen BK162.out 0; have hfz53_1 := blk_frozen BK162.out 1; have hfz53_2 := blk_frozen BK162.out 2; have hfz53_3 := blk_frozen BK162.out 3))
                      have n0_ : Aside0 (((((w49.setCell ⟨gb162, 0, none⟩ (.int .u64 t157)).setCell ⟨gb162, 1, none⟩ (.int .i64 t158)).setCell ⟨gb162, 2, none⟩ (.int .i64 t159)).setCell ⟨gb162, 3, none⟩ (.int .i64 t160)).heap[gb133]? = some (.cells #[.int .u64 t127, .int .i64 t128, .int .i64 t129, .int .i64 t130] 38 (0, 0))) := ⟨by (with_reducible repeat (first | refine blk_drewN ?_ _ | refine blk_drew ?_ | refine blk_alloc ?_ _)); refine blk_far ?_ NB133_162.out _; (with_reducible repeat (first | refine blk_drewN ?_ _ | refine blk_drew ?_ | refine blk_alloc ?_ _)); refine blk_far ?_ NB133_162.out _; (with_reducible repeat (first | refine blk_drewN ?_ _ | refine blk_drew ?_ | refine blk_alloc ?_ _)); refine blk_far ?_ NB133_162.out _; (with_reducible repeat (first | refine blk_drewN ?_ _ | refine blk_drew ?_ | refine blk_alloc ?_ _)); refine blk_far ?_ NB133_162.out _; (with_reducible repeat (first | refine blk_drewN ?_ _ | refine blk_drew ?_ | refine blk_alloc ?_ _)); exact BK133.out⟩
                      have n1_ : Aside0 (((((w49.setCell ⟨gb162, 0, none⟩ (.int .u64 t157)).setCell ⟨gb162, 1, none⟩ (.int .i64 t158)).setCell ⟨gb162, 2, none⟩ (.int .i64 t159)).setCell ⟨gb162, 3, none⟩ (.int .i64 t160)).heap[gb143]? = some (.cells #[.int .u64 t137, .int .i64 t138, .int .i64 t139, .int .i64 t140] 38 (0, 0))) := ⟨by (with_reducible repeat (first | refine blk_drewN ?_ _ | refine blk_drew ?_ | refine blk_alloc ?_ _)); refine blk_far ?_ NB143_162.out _; (with_reducible repeat (first | refine blk_drewN ?_ _ | refine blk_drew ?_ | refine blk_alloc ?_ _)); refine blk_far ?_ NB143_162.out _; (with_reducible repeat (first | refine blk_drewN ?_ _ | refine blk_drew ?_ | refine blk_alloc ?_ _)); refine blk_far ?_ NB143_162.out _; (with_reducible repeat (first | refine blk_drewN ?_ _ | refine blk_drew ?_ | refine blk_alloc ?_ _)); refine blk_far ?_ NB143_162.out _; (with_reducible repeat (first | refine blk_drewN ?_ _ | refine blk_drew ?_ | refine blk_alloc ?_ _)); exact BK143.out⟩
                      have n2_ : Aside0 (((((w49.setCell ⟨gb162, 0, none⟩ (.int .u64 t157)).setCell ⟨gb162, 1, none⟩ (.int .i64 t158)).setCell ⟨gb162, 2, none⟩ (.int .i64 t159)).setCell ⟨gb162, 3, none⟩ (.int .i64 t160)).heap[gb153]? = some (.cells #[.int .u64 t147, .int .i64 t148, .int .i64 t149, .int .i64 t150] 38 (0, 0))) := ⟨by (with_reducible repeat (first | refine blk_drewN ?_ _ | refine blk_drew ?_ | refine blk_alloc ?_ _)); refine blk_far ?_ NB153_162.out _; (with_reducible repeat (first | refine blk_drewN ?_ _ | refine blk_drew ?_ | refine blk_alloc ?_ _)); refine blk_far ?_ NB153_162.out _; (with_reducible repeat (first | refine blk_drewN ?_ _ | refine blk_drew ?_ | refine blk_alloc ?_ _)); refine blk_far ?_ NB153_162.out _; (with_reducible repeat (first | refine blk_drewN ?_ _ | refine blk_drew ?_ | refine blk_alloc ?_ _)); refine blk_far ?_ NB153_162.out _; (with_reducible repeat (first | refine blk_drewN ?_ _ | refine blk_drew ?_ | refine blk_alloc ?_ _)); exact BK153.out⟩
                      have n3_ : Aside0 (((((w49.setCell ⟨gb162, 0, none⟩ (.int .u64 t157)).setCell ⟨gb162, 1, none⟩ (.int .i64 t158)).setCell ⟨gb162, 2, none⟩ (.int .i64 t159)).setCell ⟨gb162, 3, none⟩ (.int .i64 t160)).heap[gb162]? = some (.cells #[.int .u64 t157, .int .i64 t158, .int .i64 t159, .int .i64 t160] 38 (0, 0))) := ⟨by (with_reducible repeat (first | refine blk_drewN ?_ _ | refine blk_drew ?_ | refine blk_alloc ?_ _)); refine blk_put (cs := #[.int .u64 t157, .int .i64 t158, .int .i64 t159, .int .i64 0]) ?_ 3 _ rfl; (with_reducible repeat (first | refine blk_drewN ?_ _ | refine blk_drew ?_ | refine blk_alloc ?_ _)); refine blk_put (cs := #[.int .u64 t157, .int .i64 t158, .int .i64 0, .int .i64 0]) ?_ 2 _ rfl; (with_reducible repeat (first | refine blk_drewN ?_ _ | refine blk_drew ?_ | refine blk_alloc ?_ _)); refine blk_put (cs := #[.int .u64 t157, .int .i64 0, .int .i64 0, .int .i64 0]) ?_ 1 _ rfl; (with_reducible repeat (first | refine blk_drewN ?_ _ | refine blk_drew ?_ | refine blk_alloc ?_ _)); refine blk_put (cs := #[.int .u64 0, .int .i64 0, .int .i64 0, .int .i64 0]) ?_ 0 _ rfl; (with_reducible repeat (first | refine blk_drewN ?_ _ | refine blk_drew ?_ | refine blk_alloc ?_ _)); exact BK162.out⟩
                      have n4_ : Aside0 (Below w.heap.size w ((((w49.setCell ⟨gb162, 0, none⟩ (.int .u64 t157)).setCell ⟨gb162, 1, none⟩ (.int .i64 t158)).setCell ⟨gb162, 2, none⟩ (.int .i64 t159)).setCell ⟨gb162, 3, none⟩ (.int .i64 t160))) := ⟨by repeat (first | (with_reducible first | exact HB.out | apply below_alloc | apply pw_below_drewN | apply below_drew1 | refine below_set ?_ GE133.out | refine below_set ?_ GE143.out | refine below_set ?_ GE153.out | refine below_set ?_ GE162.out) | exact HB.out)⟩
                      (try clear BK133)
                      (try clear BK143)
                      (try clear BK153)
                      (try clear BK162)
                      (try clear HB)
                      generalize ((((w49.setCell ⟨gb162, 0, none⟩ (.int .u64 t157)).setCell ⟨gb162, 1, none⟩ (.int .i64 t158)).setCell ⟨gb162, 2, none⟩ (.int .i64 t159)).setCell ⟨gb162, 3, none⟩ (.int .i64 t160)) = w54 at n0_ n1_ n2_ n3_ n4_ ⊢
                      have BK133 := n0_
                      have BK143 := n1_
                      have BK153 := n2_
                      have BK162 := n3_
                      have HB := n4_
                      clear n0_ n1_ n2_ n3_ n4_
                      have n0_ := Aside0.mk (blk_drew BK133.out)
                      have n1_ := Aside0.mk (blk_drew BK143.out)
                      have n2_ := Aside0.mk (blk_drew BK153.out)
                      have n3_ := Aside0.mk (blk_drew BK162.out)
                      have n4_ := Aside0.mk (below_drew1 HB.out)
                      clear BK133
                      clear BK143
                      clear BK153
                      clear BK162
                      clear HB
                      have BK133 := n0_
                      have BK143 := n1_
                      have BK153 := n2_
                      have BK162 := n3_
                      have HB := n4_
                      clear n0_ n1_ n2_ n3_ n4_
                      refine start_ (n := 11) (S := fun w' => w'.cell? ⟨gb162, 0, none⟩ = some (.int .u64 t157) ∧ w'.cell? ⟨gb162, 1, none⟩ = some (.int .i64 t158) ∧ w'.cell? ⟨gb162, 2, none⟩ = some (.int .i64 t159) ∧ w'.cell? ⟨gb162, 3, none⟩ = some (.int .i64 t160)) (ds := []) #[false, false, false, false, false, false, false, false, false, false, false] (by kernel_rfl) rfl rfl ⟨(blk_cell BK162.out 0).trans rfl, (blk_cell BK162.out 1).trans rfl, (blk_cell BK162.out 2).trans rfl, (blk_cell BK162.out 3).trans rfl⟩ (fun hHeld => ?_); refine with_tabW tattlelaw17_awake.tab5 tattlelaw17_awake.bits5 (fun HT_ HW_ => ?_)
                      generalize w54.drew = w55 at BK133 BK143 BK153 BK162 HB hHeld ⊢
                      refine take_ (i := 1) (N := some 43) (v := ?_) (a' := ?_) #[false, true, false, false, false, false, false, false, false, false, false] rfl rfl (take_ofW HT_.out HW_.out (by kernel_rfl)) (fun _ _ _ h => h) (Or.inl ⟨by rfl, ?_⟩) hHeld ?_ ?_
                      rotate_left
                      · rintro w' ⟨s0, s1, s2, s3⟩
                        go_simp
                        with_reducible rfl
                      rotate_left
                      · simp only [Act.put, List.setIfInBounds_toArray, List.set_cons_zero, List.set_cons_succ, i64_w, i32_w]
                        rfl
                      refine join_ (σ := Nat) 3 #[true, true, true, true, true, true, true, true, false, false, false] (fun s_ => [(42, .agg #[.int .i64 t163, .int .i64 t164, .int .i64 t165]), (44, .tuple #[.agg #[.int .u64 t166, .int .i64 t167, .int .i64 t168, .int .i64 t169], .bool false, .int .i64 t171]), (12, .pointer (some ⟨s_, 0, none⟩)), (41, .tuple #[.agg #[.int .u64 t166, .int .i64 t167, .int .i64 t168, .int .i64 t169], .bool false, .int .i64 t171]), (45, .agg #[.int .u64 t166, .int .i64 t167, .int .i64 t168, .int .i64 t169]), (46, .bool false), (47, .int .i64 t171)]) (fun s_ w' => (w'.cell? ⟨gb162, 0, none⟩ = some (.int .u64 t157) ∧ w'.cell? ⟨gb162, 1, none⟩ = some (.int .i64 t158) ∧ w'.cell? ⟨gb162, 2, none⟩ = some (.int .i64 t159) ∧ w'.cell? ⟨gb162, 3, none⟩ = some (.int .i64 t160)) ∧ (w'.heap[gb133]? = some (.cells #[.int .u64 t127, .int .i64 t128, .int .i64 t129, .int .i64 t130] 38 (0, 0))) ∧ (w'.heap[gb143]? = some (.cells #[.int .u64 t137, .int .i64 t138, .int .i64 t139, .int .i64 t140] 38 (0, 0))) ∧ (w'.heap[gb153]? = some (.cells #[.int .u64 t147, .int .i64 t148, .int .i64 t149, .int .i64 t150] 38 (0, 0))) ∧ (w'.heap[gb162]? = some (.cells #[.int .u64 t157, .int .i64 t158, .int .i64 t159, .int .i64 t160] 38 (0, 0))) ∧ (w'.heap[s_]? = some (.cells #[.int .u64 0, .int .i64 0, .int .i64 0, .int .i64 0] 38 (0, 0))) ∧ (w.heap.size ≤ s_) ∧ (w.heap.size ≤ s_) ∧ (gb133 ≠ s_) ∧ (s_ ≠ gb133) ∧ (gb143 ≠ s_) ∧ (s_ ≠ gb143) ∧ (gb153 ≠ s_) ∧ (s_ ≠ gb153) ∧ (gb162 ≠ s_) ∧ (s_ ≠ gb162) ∧ (Below w.heap.size w w')) ?_ ?_
                      rotate_left
                      · intro hCont
                        refine two_ (i := 0) (j := 7) (Ni := some 42) (Nj := some 12) #[true, true, false, false, false, false, false, false, false, false, false] #[false, true, false, false, false, false, false, true, false, false, false] rfl rfl rfl rfl (two_of HT_.out (by kernel_rfl)) (by decide) (by decide) (fun K hK => ?_) (fun K hK => ?_)
                        · skip
                          refine goes_ Try.func39 (by kernel_rfl) rfl #[] (by rfl) rfl rfl (by (try simp only [List.map_toArray, List.map_cons, List.map_nil]); first | done | rfl | (simp only [List.length_drop, List.length_take]; rfl)) ?_
                          with_reducible refine (tattlelaw17_ten.calls  t163 t164 t165 _ A10.out).mono ?_
                          rintro e w56 ⟨rfl, hb⟩
                          refine ⟨_, rfl, ?_⟩
                          have n0_ := Aside0.mk (blk_below (g := gb133) (o := .cells #[.int .u64 t127, .int .i64 t128, .int .i64 t129, .int .i64 t130] 38 (0, 0)) (by (with_reducible repeat (first | refine blk_drewN ?_ _ | refine blk_drew ?_ | refine blk_alloc ?_ _)); exact BK133.out) hb)
                          have n1_ := Aside0.mk (blk_below (g := gb143) (o := .cells #[.int .u64 t137, .int .i64 t138, .int .i64 t139, .int .i64 t140] 38 (0, 0)) (by (with_reducible repeat (first | refine blk_drewN ?_ _ | refine blk_drew ?_ | refine blk_alloc ?_ _)); exact BK143.out) hb)
                          have n2_ := Aside0.mk (blk_below (g := gb153) (o := .cells #[.int .u64 t147, .int .i64 t148, .int .i64 t149, .int .i64 t150] 38 (0, 0)) (by (with_reducible repeat (first | refine blk_drewN ?_ _ | refine blk_drew ?_ | refine blk_alloc ?_ _)); exact BK153.out) hb)
                          have n3_ := Aside0.mk (blk_below (g := gb162) (o := .cells #[.int .u64 t157, .int .i64 t158, .int .i64 t159, .int .i64 t160] 38 (0, 0)) (by (with_reducible repeat (first | refine blk_drewN ?_ _ | refine blk_drew ?_ | refine blk_alloc ?_ _)); exact BK162.out) hb)
                          have n4_ := Aside0.mk (below_step (by repeat (first | (with_reducible first | exact HB.out | apply below_alloc | apply pw_below_drewN | apply below_drew1 | refine below_set ?_ GE133.out | refine below_set ?_ GE143.out | refine below_set ?_ GE153.out | refine below_set ?_ GE162.out) | exact HB.out)) hb)
                          clear BK133
                          clear BK143
                          clear BK153
                          clear BK162
                          clear HB
                          have BK133 := n0_
                          have BK143 := n1_
                          have BK153 := n2_
                          have BK162 := n3_
                          have HB := n4_
                          clear n0_ n1_ n2_ n3_ n4_
                          (try clear hb)
                          (try clear hb2)
                          (try clear hk)
                          (try clear hi)
                          refine hK.out _ _ ⟨(blk_cell BK162.out 0).trans rfl, (blk_cell BK162.out 1).trans rfl, (blk_cell BK162.out 2).trans rfl, (blk_cell BK162.out 3).trans rfl⟩ (fun hHeld => ?_)
                          clear hK K
                          refine norm_ (a' := ?_) ?_ ?_
                          rotate_left
                          · show Act.put _ (some 42) _ = _
                            simp only [Act.put, List.setIfInBounds_toArray, List.set_cons_zero, List.set_cons_succ, i64_w, i32_w]
                            rfl
                          refine two_ (i := 2) (j := 7) (Ni := some 44) (Nj := some 12) #[true, true, true, false, false, false, false, false, false, false, false] #[true, true, false, false, false, false, false, true, false, false, false] rfl rfl rfl rfl (two_of HT_.out (by kernel_rfl)) (by decide) (by decide) (fun K hK => ?_) (fun K hK => ?_)
                          · skip
                            refine goes_ Try.func18 (by kernel_rfl) rfl #[.agg #[.int .i64 t163, .int .i64 t164, .int .i64 t165], .agg #[.int .u64 t157, .int .i64 t158, .int .i64 t159, .int .i64 t160], .int .i64 1, .int .u64 1, .int .i64 9] (by rfl) rfl rfl (by (try simp only [List.map_toArray, List.map_cons, List.map_nil]); first | done | rfl | (simp only [List.length_drop, List.length_take]; rfl)) ?_
                            with_reducible refine (vote_Ask.calls t163 t164 t165 t157 t158 t159 t160 1 1 9 t166 t167 t168 t169 false t171 _ A11.out).mono ?_
                            rintro e w57 ⟨rfl, hb⟩
                            refine ⟨_, rfl, ?_⟩
                            have n0_ := Aside0.mk (blk_below (g := gb133) (o := .cells #[.int .u64 t127, .int .i64 t128, .int .i64 t129, .int .i64 t130] 38 (0, 0)) (by (with_reducible repeat (first | refine blk_drewN ?_ _ | refine blk_drew ?_ | refine blk_alloc ?_ _)); exact BK133.out) hb)
                            have n1_ := Aside0.mk (blk_below (g := gb143) (o := .cells #[.int .u64 t137, .int .i64 t138, .int .i64 t139, .int .i64 t140] 38 (0, 0)) (by (with_reducible repeat (first | refine blk_drewN ?_ _ | refine blk_drew ?_ | refine blk_alloc ?_ _)); exact BK143.out) hb)
                            have n2_ := Aside0.mk (blk_below (g := gb153) (o := .cells #[.int .u64 t147, .int .i64 t148, .int .i64 t149, .int .i64 t150] 38 (0, 0)) (by (with_reducible repeat (first | refine blk_drewN ?_ _ | refine blk_drew ?_ | refine blk_alloc ?_ _)); exact BK153.out) hb)
                            have n3_ := Aside0.mk (blk_below (g := gb162) (o := .cells #[.int .u64 t157, .int .i64 t158, .int .i64 t159, .int .i64 t160] 38 (0, 0)) (by (with_reducible repeat (first | refine blk_drewN ?_ _ | refine blk_drew ?_ | refine blk_alloc ?_ _)); exact BK162.out) hb)
                            have n4_ := Aside0.mk (below_step (by repeat (first | (with_reducible first | exact HB.out | apply below_alloc | apply pw_below_drewN | apply below_drew1 | refine below_set ?_ GE133.out | refine below_set ?_ GE143.out | refine below_set ?_ GE153.out | refine below_set ?_ GE162.out) | exact HB.out)) hb)
                            clear BK133
                            clear BK143
                            clear BK153
                            clear BK162
                            clear HB
                            have BK133 := n0_
                            have BK143 := n1_
                            have BK153 := n2_
                            have BK162 := n3_
                            have HB := n4_
                            clear n0_ n1_ n2_ n3_ n4_
                            (try clear hb)
                            (try clear hb2)
                            (try clear hk)
                            (try clear hi)
                            refine hK.out _ _ ⟨(blk_cell BK162.out 0).trans rfl, (blk_cell BK162.out 1).trans rfl, (blk_cell BK162.out 2).trans rfl, (blk_cell BK162.out 3).trans rfl⟩ (fun hHeld => ?_)
                            clear hK K
                            refine norm_ (a' := ?_) ?_ ?_
                            rotate_left
                            · show Act.put _ (some 44) _ = _
                              simp only [Act.put, List.setIfInBounds_toArray, List.set_cons_zero, List.set_cons_succ, i64_w, i32_w]
                              rfl
                            refine pure_ (i := 3) (N := some 41) (v := ?_) (a' := ?_) #[true, true, true, true, false, false, false, false, false, false, false] rfl rfl (any_of HT_.out (by kernel_rfl)) (fun _ _ _ h => h) (Or.inl ⟨by rfl, ?_⟩) ?_ ?_
                            rotate_left
                            · intro w'
                              go_simp
                              with_reducible rfl
                            rotate_left
                            · simp only [Act.put, List.setIfInBounds_toArray, List.set_cons_zero, List.set_cons_succ, i64_w, i32_w]
                              rfl
                            refine pure_ (i := 4) (N := some 45) (v := ?_) (a' := ?_) #[true, true, true, true, true, false, false, false, false, false, false] rfl rfl (any_of HT_.out (by kernel_rfl)) (fun _ _ _ h => h) (Or.inl ⟨by rfl, ?_⟩) ?_ ?_
                            rotate_left
                            · intro w'
                              go_simp
                              with_reducible rfl
                            rotate_left
                            · simp only [Act.put, List.setIfInBounds_toArray, List.set_cons_zero, List.set_cons_succ, i64_w, i32_w]
                              rfl
                            refine pure_ (i := 5) (N := some 46) (v := ?_) (a' := ?_) #[true, true, true, true, true, true, false, false, false, false, false] rfl rfl (any_of HT_.out (by kernel_rfl)) (fun _ _ _ h => h) (Or.inl ⟨by rfl, ?_⟩) ?_ ?_
                            rotate_left
                            · intro w'
                              go_simp
                              with_reducible rfl
                            rotate_left
                            · simp only [Act.put, List.setIfInBounds_toArray, List.set_cons_zero, List.set_cons_succ, i64_w, i32_w]
                              rfl
                            refine pure_ (i := 6) (N := some 47) (v := ?_) (a' := ?_) #[true, true, true, true, true, true, true, false, false, false, false] rfl rfl (any_of HT_.out (by kernel_rfl)) (fun _ _ _ h => h) (Or.inl ⟨by rfl, ?_⟩) ?_ ?_
                            rotate_left
                            · intro w'
                              go_simp
                              with_reducible rfl
                            rotate_left
                            · simp only [Act.put, List.setIfInBounds_toArray, List.set_cons_zero, List.set_cons_succ, i64_w, i32_w]
                              rfl
                            refine one_ (i := 7) (N := some 12) #[true, true, true, true, true, true, true, true, false, false, false] rfl rfl (one_of HT_.out (by kernel_rfl)) (by decide) (fun K hK => ?_)
                            refine box_step ?hg (N := 12) ?hd (cs := #[.int .u64 0, .int .i64 0, .int .i64 0, .int .i64 0]) (t := 38) ?hr ?_; (case hd => rfl); (case hg => rfl); (case hr => first | (go_simp; done) | (go_simp; rfl))
                            intro gb172 hg w58 hbox hb
                            have n0_ := Aside0.mk (blk_below (g := gb133) (o := .cells #[.int .u64 t127, .int .i64 t128, .int .i64 t129, .int .i64 t130] 38 (0, 0)) (by (with_reducible repeat (first | refine blk_drewN ?_ _ | refine blk_drew ?_ | refine blk_alloc ?_ _)); exact BK133.out) hb)
                            have n1_ := Aside0.mk (blk_below (g := gb143) (o := .cells #[.int .u64 t137, .int .i64 t138, .int .i64 t139, .int .i64 t140] 38 (0, 0)) (by (with_reducible repeat (first | refine blk_drewN ?_ _ | refine blk_drew ?_ | refine blk_alloc ?_ _)); exact BK143.out) hb)
                            have n2_ := Aside0.mk (blk_below (g := gb153) (o := .cells #[.int .u64 t147, .int .i64 t148, .int .i64 t149, .int .i64 t150] 38 (0, 0)) (by (with_reducible repeat (first | refine blk_drewN ?_ _ | refine blk_drew ?_ | refine blk_alloc ?_ _)); exact BK153.out) hb)
                            have n3_ := Aside0.mk (blk_below (g := gb162) (o := .cells #[.int .u64 t157, .int .i64 t158, .int .i64 t159, .int .i64 t160] 38 (0, 0)) (by (with_reducible repeat (first | refine blk_drewN ?_ _ | refine blk_drew ?_ | refine blk_alloc ?_ _)); exact BK162.out) hb)
                            have n4_ := Aside0.mk (below_step (by repeat (first | (with_reducible first | exact HB.out | apply below_alloc | apply pw_below_drewN | apply below_drew1 | refine below_set ?_ GE133.out | refine below_set ?_ GE143.out | refine below_set ?_ GE153.out | refine below_set ?_ GE162.out) | exact HB.out)) hb)
                            have n5_ := Aside0.mk (hbox)
                            have n6_ := Aside0.mk ((by rw [hg]; exact (below_size (by repeat (first | (with_reducible first | exact HB.out | apply below_alloc | apply pw_below_drewN | apply below_drew1 | refine below_set ?_ GE133.out | refine below_set ?_ GE143.out | refine below_set ?_ GE153.out | refine below_set ?_ GE162.out) | exact HB.out))) : w.heap.size ≤ gb172))
                            have n7_ := Aside0.mk ((by rw [hg]; exact (below_size (by repeat (first | (with_reducible first | exact HB.out | apply below_alloc | apply pw_below_drewN | apply below_drew1 | refine below_set ?_ GE133.out | refine below_set ?_ GE143.out | refine below_set ?_ GE153.out | refine below_set ?_ GE162.out) | exact HB.out))) : w.heap.size ≤ gb172))
                            have n8_ := Aside0.mk ((by rw [hg]; exact Nat.ne_of_lt (blk_lt (g := gb133) (o := .cells #[.int .u64 t127, .int .i64 t128, .int .i64 t129, .int .i64 t130] 38 (0, 0)) (by (with_reducible repeat (first | refine blk_drewN ?_ _ | refine blk_drew ?_ | refine blk_alloc ?_ _)); exact BK133.out)) : gb133 ≠ gb172))
                            have n9_ := Aside0.mk ((by rw [hg]; exact Nat.ne_of_gt (blk_lt (g := gb133) (o := .cells #[.int .u64 t127, .int .i64 t128, .int .i64 t129, .int .i64 t130] 38 (0, 0)) (by (with_reducible repeat (first | refine blk_drewN ?_ _ | refine blk_drew ?_ | refine blk_alloc ?_ _)); exact BK133.out)) : gb172 ≠ gb133))
                            have n10_ := Aside0.mk ((by rw [hg]; exact Nat.ne_of_lt (blk_lt (g := gb143) (o := .cells #[.int .u64 t137, .int .i64 t138, .int .i64 t139, .int .i64 t140] 38 (0, 0)) (by (with_reducible repeat (first | refine blk_drewN ?_ _ | refine blk_drew ?_ | refine blk_alloc ?_ _)); exact BK143.out)) : gb143 ≠ gb172))
                            have n11_ := Aside0.mk ((by rw [hg]; exact Nat.ne_of_gt (blk_lt (g := gb143) (o := .cells #[.int .u64 t137, .int .i64 t138, .int .i64 t139, .int .i64 t140] 38 (0, 0)) (by (with_reducible repeat (first | refine blk_drewN ?_ _ | refine blk_drew ?_ | refine blk_alloc ?_ _)); exact BK143.out)) : gb172 ≠ gb143))
                            have n12_ := Aside0.mk ((by rw [hg]; exact Nat.ne_of_lt (blk_lt (g := gb153) (o := .cells #[.int .u64 t147, .int .i64 t148, .int .i64 t149, .int .i64 t150] 38 (0, 0)) (by (with_reducible repeat (first | refine blk_drewN ?_ _ | refine blk_drew ?_ | refine blk_alloc ?_ _)); exact BK153.out)) : gb153 ≠ gb172))
                            have n13_ := Aside0.mk ((by rw [hg]; exact Nat.ne_of_gt (blk_lt (g := gb153) (o := .cells #[.int .u64 t147, .int .i64 t148, .int .i64 t149, .int .i64 t150] 38 (0, 0)) (by (with_reducible repeat (first | refine blk_drewN ?_ _ | refine blk_drew ?_ | refine blk_alloc ?_ _)); exact BK153.out)) : gb172 ≠ gb153))
                            have n14_ := Aside0.mk ((by rw [hg]; exact Nat.ne_of_lt (blk_lt (g := gb162) (o := .cells #[.int .u64 t157, .int .i64 t158, .int .i64 t159, .int .i64 t160] 38 (0, 0)) (by (with_reducible repeat (first | refine blk_drewN ?_ _ | refine blk_drew ?_ | refine blk_alloc ?_ _)); exact BK162.out)) : gb162 ≠ gb172))
                            have n15_ := Aside0.mk ((by rw [hg]; exact Nat.ne_of_gt (blk_lt (g := gb162) (o := .cells #[.int .u64 t157, .int .i64 t158, .int .i64 t159, .int .i64 t160] 38 (0, 0)) (by (with_reducible repeat (first | refine blk_drewN ?_ _ | refine blk_drew ?_ | refine blk_alloc ?_ _)); exact BK162.out)) : gb172 ≠ gb162))
                            clear BK133
                            clear BK143
                            clear BK153
                            clear BK162
                            clear HB
                            have BK133 := n0_
                            have BK143 := n1_
                            have BK153 := n2_
                            have BK162 := n3_
                            have HB := n4_
                            have BK172 := n5_
                            have GW172 := n6_
                            have GE172 := n7_
                            have NB133_172 := n8_
                            have NB172_133 := n9_
                            have NB143_172 := n10_
                            have NB172_143 := n11_
                            have NB153_172 := n12_
                            have NB172_153 := n13_
                            have NB162_172 := n14_
                            have NB172_162 := n15_
                            clear n0_ n1_ n2_ n3_ n4_ n5_ n6_ n7_ n8_ n9_ n10_ n11_ n12_ n13_ n14_ n15_
                            clear hb hbox hg
                            refine hK.out _ _ ⟨(blk_cell BK162.out 0).trans rfl, (blk_cell BK162.out 1).trans rfl, (blk_cell BK162.out 2).trans rfl, (blk_cell BK162.out 3).trans rfl⟩ (fun hHeld => ?_)
                            clear hK K
                            refine norm_ (a' := ?_) ?_ ?_
                            rotate_left
                            · show Act.put _ (some 12) _ = _
                              simp only [Act.put, List.setIfInBounds_toArray, List.set_cons_zero, List.set_cons_succ, i64_w, i32_w]
                              rfl
                            exact norm_ (by simp only [putAll, Act.put, List.setIfInBounds_toArray, List.set_cons_zero, List.set_cons_succ]) (hCont (gb172) _ ⟨hHeld, (by (with_reducible repeat (first | refine blk_drewN ?_ _ | refine blk_drew ?_ | refine blk_alloc ?_ _)); exact BK133.out), (by (with_reducible repeat (first | refine blk_drewN ?_ _ | refine blk_drew ?_ | refine blk_alloc ?_ _)); exact BK143.out), (by (with_reducible repeat (first | refine blk_drewN ?_ _ | refine blk_drew ?_ | refine blk_alloc ?_ _)); exact BK153.out), (by (with_reducible repeat (first | refine blk_drewN ?_ _ | refine blk_drew ?_ | refine blk_alloc ?_ _)); exact BK162.out), (by (with_reducible repeat (first | refine blk_drewN ?_ _ | refine blk_drew ?_ | refine blk_alloc ?_ _)); exact BK172.out), GW172.out, GE172.out, NB133_172.out, NB172_133.out, NB143_172.out, NB172_143.out, NB153_172.out, NB172_153.out, NB162_172.out, NB172_162.out, (by repeat (first | (with_reducible first | exact HB.out | apply below_alloc | apply pw_below_drewN | apply below_drew1 | refine below_set ?_ GE133.out | refine below_set ?_ GE143.out | refine below_set ?_ GE153.out | refine below_set ?_ GE162.out | refine below_set ?_ GE172.out) | exact HB.out))⟩)
                          · skip
                            refine box_step ?hg (N := 12) ?hd (cs := #[.int .u64 0, .int .i64 0, .int .i64 0, .int .i64 0]) (t := 38) ?hr ?_; (case hd => rfl); (case hg => rfl); (case hr => first | (go_simp; done) | (go_simp; rfl))
                            intro gb172 hg w57 hbox hb
                            have n0_ := Aside0.mk (blk_below (g := gb133) (o := .cells #[.int .u64 t127, .int .i64 t128, .int .i64 t129, .int .i64 t130] 38 (0, 0)) (by (with_reducible repeat (first | refine blk_drewN ?_ _ | refine blk_drew ?_ | refine blk_alloc ?_ _)); exact BK133.out) hb)
                            have n1_ := Aside0.mk (blk_below (g := gb143) (o := .cells #[.int .u64 t137, .int .i64 t138, .int .i64 t139, .int .i64 t140] 38 (0, 0)) (by (with_reducible repeat (first | refine blk_drewN ?_ _ | refine blk_drew ?_ | refine blk_alloc ?_ _)); exact BK143.out) hb)
                            have n2_ := Aside0.mk (blk_below (g := gb153) (o := .cells #[.int .u64 t147, .int .i64 t148, .int .i64 t149, .int .i64 t150] 38 (0, 0)) (by (with_reducible repeat (first | refine blk_drewN ?_ _ | refine blk_drew ?_ | refine blk_alloc ?_ _)); exact BK153.out) hb)
                            have n3_ := Aside0.mk (blk_below (g := gb162) (o := .cells #[.int .u64 t157, .int .i64 t158, .int .i64 t159, .int .i64 t160] 38 (0, 0)) (by (with_reducible repeat (first | refine blk_drewN ?_ _ | refine blk_drew ?_ | refine blk_alloc ?_ _)); exact BK162.out) hb)
                            have n4_ := Aside0.mk (below_step (by repeat (first | (with_reducible first | exact HB.out | apply below_alloc | apply pw_below_drewN | apply below_drew1 | refine below_set ?_ GE133.out | refine below_set ?_ GE143.out | refine below_set ?_ GE153.out | refine below_set ?_ GE162.out) | exact HB.out)) hb)
                            have n5_ := Aside0.mk (hbox)
                            have n6_ := Aside0.mk ((by rw [hg]; exact (below_size (by repeat (first | (with_reducible first | exact HB.out | apply below_alloc | apply pw_below_drewN | apply below_drew1 | refine below_set ?_ GE133.out | refine below_set ?_ GE143.out | refine below_set ?_ GE153.out | refine below_set ?_ GE162.out) | exact HB.out))) : w.heap.size ≤ gb172))
                            have n7_ := Aside0.mk ((by rw [hg]; exact (below_size (by repeat (first | (with_reducible first | exact HB.out | apply below_alloc | apply pw_below_drewN | apply below_drew1 | refine below_set ?_ GE133.out | refine below_set ?_ GE143.out | refine below_set ?_ GE153.out | refine below_set ?_ GE162.out) | exact HB.out))) : w.heap.size ≤ gb172))
                            have n8_ := Aside0.mk ((by rw [hg]; exact Nat.ne_of_lt (blk_lt (g := gb133) (o := .cells #[.int .u64 t127, .int .i64 t128, .int .i64 t129, .int .i64 t130] 38 (0, 0)) (by (with_reducible repeat (first | refine blk_drewN ?_ _ | refine blk_drew ?_ | refine blk_alloc ?_ _)); exact BK133.out)) : gb133 ≠ gb172))
                            have n9_ := Aside0.mk ((by rw [hg]; exact Nat.ne_of_gt (blk_lt (g := gb133) (o := .cells #[.int .u64 t127, .int .i64 t128, .int .i64 t129, .int .i64 t130] 38 (0, 0)) (by (with_reducible repeat (first | refine blk_drewN ?_ _ | refine blk_drew ?_ | refine blk_alloc ?_ _)); exact BK133.out)) : gb172 ≠ gb133))
                            have n10_ := Aside0.mk ((by rw [hg]; exact Nat.ne_of_lt (blk_lt (g := gb143) (o := .cells #[.int .u64 t137, .int .i64 t138, .int .i64 t139, .int .i64 t140] 38 (0, 0)) (by (with_reducible repeat (first | refine blk_drewN ?_ _ | refine blk_drew ?_ | refine blk_alloc ?_ _)); exact BK143.out)) : gb143 ≠ gb172))
                            have n11_ := Aside0.mk ((by rw [hg]; exact Nat.ne_of_gt (blk_lt (g := gb143) (o := .cells #[.int .u64 t137, .int .i64 t138, .int .i64 t139, .int .i64 t140] 38 (0, 0)) (by (with_reducible repeat (first | refine blk_drewN ?_ _ | refine blk_drew ?_ | refine blk_alloc ?_ _)); exact BK143.out)) : gb172 ≠ gb143))
                            have n12_ := Aside0.mk ((by rw [hg]; exact Nat.ne_of_lt (blk_lt (g := gb153) (o := .cells #[.int .u64 t147, .int .i64 t148, .int .i64 t149, .int .i64 t150] 38 (0, 0)) (by (with_reducible repeat (first | refine blk_drewN ?_ _ | refine blk_drew ?_ | refine blk_alloc ?_ _)); exact BK153.out)) : gb153 ≠ gb172))
                            have n13_ := Aside0.mk ((by rw [hg]; exact Nat.ne_of_gt (blk_lt (g := gb153) (o := .cells #[.int .u64 t147, .int .i64 t148, .int .i64 t149, .int .i64 t150] 38 (0, 0)) (by (with_reducible repeat (first | refine blk_drewN ?_ _ | refine blk_drew ?_ | refine blk_alloc ?_ _)); exact BK153.out)) : gb172 ≠ gb153))
                            have n14_ := Aside0.mk ((by rw [hg]; exact Nat.ne_of_lt (blk_lt (g := gb162) (o := .cells #[.int .u64 t157, .int .i64 t158, .int .i64 t159, .int .i64 t160] 38 (0, 0)) (by (with_reducible repeat (first | refine blk_drewN ?_ _ | refine blk_drew ?_ | refine blk_alloc ?_ _)); exact BK162.out)) : gb162 ≠ gb172))
                            have n15_ := Aside0.mk ((by rw [hg]; exact Nat.ne_of_gt (blk_lt (g := gb162) (o := .cells #[.int .u64 t157, .int .i64 t158, .int .i64 t159, .int .i64 t160] 38 (0, 0)) (by (with_reducible repeat (first | refine blk_drewN ?_ _ | refine blk_drew ?_ | refine blk_alloc ?_ _)); exact BK162.out)) : gb172 ≠ gb162))
                            clear BK133
                            clear BK143
                            clear BK153
                            clear BK162
                            clear HB
                            have BK133 := n0_
                            have BK143 := n1_
                            have BK153 := n2_
                            have BK162 := n3_
                            have HB := n4_
                            have BK172 := n5_
                            have GW172 := n6_
                            have GE172 := n7_
                            have NB133_172 := n8_
                            have NB172_133 := n9_
                            have NB143_172 := n10_
                            have NB172_143 := n11_
                            have NB153_172 := n12_
                            have NB172_153 := n13_
                            have NB162_172 := n14_
                            have NB172_162 := n15_
                            clear n0_ n1_ n2_ n3_ n4_ n5_ n6_ n7_ n8_ n9_ n10_ n11_ n12_ n13_ n14_ n15_
                            clear hb hbox hg
                            refine hK.out _ _ ⟨(blk_cell BK162.out 0).trans rfl, (blk_cell BK162.out 1).trans rfl, (blk_cell BK162.out 2).trans rfl, (blk_cell BK162.out 3).trans rfl⟩ (fun hHeld => ?_)
                            clear hK K
                            refine norm_ (a' := ?_) ?_ ?_
                            rotate_left
                            · show Act.put _ (some 12) _ = _
                              simp only [Act.put, List.setIfInBounds_toArray, List.set_cons_zero, List.set_cons_succ, i64_w, i32_w]
                              rfl
                            refine one_ (i := 2) (N := some 44) #[true, true, true, false, false, false, false, true, false, false, false] rfl rfl (one_of HT_.out (by kernel_rfl)) (by decide) (fun K hK => ?_)
                            refine goes_ Try.func18 (by kernel_rfl) rfl #[.agg #[.int .i64 t163, .int .i64 t164, .int .i64 t165], .agg #[.int .u64 t157, .int .i64 t158, .int .i64 t159, .int .i64 t160], .int .i64 1, .int .u64 1, .int .i64 9] (by rfl) rfl rfl (by (try simp only [List.map_toArray, List.map_cons, List.map_nil]); first | done | rfl | (simp only [List.length_drop, List.length_take]; rfl)) ?_
                            with_reducible refine (vote_Ask.calls t163 t164 t165 t157 t158 t159 t160 1 1 9 t166 t167 t168 t169 false t171 _ A11.out).mono ?_
                            rintro e w58 ⟨rfl, hb⟩
                            refine ⟨_, rfl, ?_⟩
                            have n0_ := Aside0.mk (blk_below (g := gb133) (o := .cells #[.int .u64 t127, .int .i64 t128, .int .i64 t129, .int .i64 t130] 38 (0, 0)) (by (with_reducible repeat (first | refine blk_drewN ?_ _ | refine blk_drew ?_ | refine blk_alloc ?_ _)); exact BK133.out) hb)
                            have n1_ := Aside0.mk (blk_below (g := gb143) (o := .cells #[.int .u64 t137, .int .i64 t138, .int .i64 t139, .int .i64 t140] 38 (0, 0)) (by (with_reducible repeat (first | refine blk_drewN ?_ _ | refine blk_drew ?_ | refine blk_alloc ?_ _)); exact BK143.out) hb)
                            have n2_ := Aside0.mk (blk_below (g := gb153) (o := .cells #[.int .u64 t147, .int .i64 t148, .int .i64 t149, .int .i64 t150] 38 (0, 0)) (by (with_reducible repeat (first | refine blk_drewN ?_ _ | refine blk_drew ?_ | refine blk_alloc ?_ _)); exact BK153.out) hb)
                            have n3_ := Aside0.mk (blk_below (g := gb162) (o := .cells #[.int .u64 t157, .int .i64 t158, .int .i64 t159, .int .i64 t160] 38 (0, 0)) (by (with_reducible repeat (first | refine blk_drewN ?_ _ | refine blk_drew ?_ | refine blk_alloc ?_ _)); exact BK162.out) hb)
                            have n4_ := Aside0.mk (blk_below (g := gb172) (o := .cells #[.int .u64 0, .int .i64 0, .int .i64 0, .int .i64 0] 38 (0, 0)) (by (with_reducible repeat (first | refine blk_drewN ?_ _ | refine blk_drew ?_ | refine blk_alloc ?_ _)); exact BK172.out) hb)
                            have n5_ := Aside0.mk (below_step (by repeat (first | (with_reducible first | exact HB.out | apply below_alloc | apply pw_below_drewN | apply below_drew1 | refine below_set ?_ GE133.out | refine below_set ?_ GE143.out | refine below_set ?_ GE153.out | refine below_set ?_ GE162.out | refine below_set ?_ GE172.out) | exact HB.out)) hb)
                            clear BK133
                            clear BK143
                            clear BK153
                            clear BK162
                            clear BK172
                            clear HB
                            have BK133 := n0_
                            have BK143 := n1_
                            have BK153 := n2_
                            have BK162 := n3_
                            have BK172 := n4_
                            have HB := n5_
                            clear n0_ n1_ n2_ n3_ n4_ n5_
                            (try clear hb)
                            (try clear hb2)
                            (try clear hk)
                            (try clear hi)
                            refine hK.out _ _ ⟨(blk_cell BK162.out 0).trans rfl, (blk_cell BK162.out 1).trans rfl, (blk_cell BK162.out 2).trans rfl, (blk_cell BK162.out 3).trans rfl⟩ (fun hHeld => ?_)
                            clear hK K
                            refine norm_ (a' := ?_) ?_ ?_
                            rotate_left
                            · show Act.put _ (some 44) _ = _
                              simp only [Act.put, List.setIfInBounds_toArray, List.set_cons_zero, List.set_cons_succ, i64_w, i32_w]
                              rfl
                            refine pure_ (i := 3) (N := some 41) (v := ?_) (a' := ?_) #[true, true, true, true, false, false, false, true, false, false, false] rfl rfl (any_of HT_.out (by kernel_rfl)) (fun _ _ _ h => h) (Or.inl ⟨by rfl, ?_⟩) ?_ ?_
                            rotate_left
                            · intro w'
                              go_simp
                              with_reducible rfl
                            rotate_left
                            · simp only [Act.put, List.setIfInBounds_toArray, List.set_cons_zero, List.set_cons_succ, i64_w, i32_w]
                              rfl
                            refine pure_ (i := 4) (N := some 45) (v := ?_) (a' := ?_) #[true, true, true, true, true, false, false, true, false, false, false] rfl rfl (any_of HT_.out (by kernel_rfl)) (fun _ _ _ h => h) (Or.inl ⟨by rfl, ?_⟩) ?_ ?_
                            rotate_left
                            · intro w'
                              go_simp
                              with_reducible rfl
                            rotate_left
                            · simp only [Act.put, List.setIfInBounds_toArray, List.set_cons_zero, List.set_cons_succ, i64_w, i32_w]
                              rfl
                            refine pure_ (i := 5) (N := some 46) (v := ?_) (a' := ?_) #[true, true, true, true, true, true, false, true, false, false, false] rfl rfl (any_of HT_.out (by kernel_rfl)) (fun _ _ _ h => h) (Or.inl ⟨by rfl, ?_⟩) ?_ ?_
                            rotate_left
                            · intro w'
                              go_simp
                              with_reducible rfl
                            rotate_left
                            · simp only [Act.put, List.setIfInBounds_toArray, List.set_cons_zero, List.set_cons_succ, i64_w, i32_w]
                              rfl
                            refine pure_ (i := 6) (N := some 47) (v := ?_) (a' := ?_) #[true, true, true, true, true, true, true, true, false, false, false] rfl rfl (any_of HT_.out (by kernel_rfl)) (fun _ _ _ h => h) (Or.inl ⟨by rfl, ?_⟩) ?_ ?_
                            rotate_left
                            · intro w'
                              go_simp
                              with_reducible rfl
                            rotate_left
                            · simp only [Act.put, List.setIfInBounds_toArray, List.set_cons_zero, List.set_cons_succ, i64_w, i32_w]
                              rfl
                            exact norm_ (by simp only [putAll, Act.put, List.setIfInBounds_toArray, List.set_cons_zero, List.set_cons_succ]) (hCont (gb172) _ ⟨hHeld, (by (with_reducible repeat (first | refine blk_drewN ?_ _ | refine blk_drew ?_ | refine blk_alloc ?_ _)); exact BK133.out), (by (with_reducible repeat (first | refine blk_drewN ?_ _ | refine blk_drew ?_ | refine blk_alloc ?_ _)); exact BK143.out), (by (with_reducible repeat (first | refine blk_drewN ?_ _ | refine blk_drew ?_ | refine blk_alloc ?_ _)); exact BK153.out), (by (with_reducible repeat (first | refine blk_drewN ?_ _ | refine blk_drew ?_ | refine blk_alloc ?_ _)); exact BK162.out), (by (with_reducible repeat (first | refine blk_drewN ?_ _ | refine blk_drew ?_ | refine blk_alloc ?_ _)); exact BK172.out), GW172.out, GE172.out, NB133_172.out, NB172_133.out, NB143_172.out, NB172_143.out, NB153_172.out, NB172_153.out, NB162_172.out, NB172_162.out, (by repeat (first | (with_reducible first | exact HB.out | apply below_alloc | apply pw_below_drewN | apply below_drew1 | refine below_set ?_ GE133.out | refine below_set ?_ GE143.out | refine below_set ?_ GE153.out | refine below_set ?_ GE162.out | refine below_set ?_ GE172.out) | exact HB.out))⟩)
                        · skip
                          refine box_step ?hg (N := 12) ?hd (cs := #[.int .u64 0, .int .i64 0, .int .i64 0, .int .i64 0]) (t := 38) ?hr ?_; (case hd => rfl); (case hg => rfl); (case hr => first | (go_simp; done) | (go_simp; rfl))
                          intro gb172 hg w56 hbox hb
                          have n0_ := Aside0.mk (blk_below (g := gb133) (o := .cells #[.int .u64 t127, .int .i64 t128, .int .i64 t129, .int .i64 t130] 38 (0, 0)) (by (with_reducible repeat (first | refine blk_drewN ?_ _ | refine blk_drew ?_ | refine blk_alloc ?_ _)); exact BK133.out) hb)
                          have n1_ := Aside0.mk (blk_below (g := gb143) (o := .cells #[.int .u64 t137, .int .i64 t138, .int .i64 t139, .int .i64 t140] 38 (0, 0)) (by (with_reducible repeat (first | refine blk_drewN ?_ _ | refine blk_drew ?_ | refine blk_alloc ?_ _)); exact BK143.out) hb)
                          have n2_ := Aside0.mk (blk_below (g := gb153) (o := .cells #[.int .u64 t147, .int .i64 t148, .int .i64 t149, .int .i64 t150] 38 (0, 0)) (by (with_reducible repeat (first | refine blk_drewN ?_ _ | refine blk_drew ?_ | refine blk_alloc ?_ _)); exact BK153.out) hb)
                          have n3_ := Aside0.mk (blk_below (g := gb162) (o := .cells #[.int .u64 t157, .int .i64 t158, .int .i64 t159, .int .i64 t160] 38 (0, 0)) (by (with_reducible repeat (first | refine blk_drewN ?_ _ | refine blk_drew ?_ | refine blk_alloc ?_ _)); exact BK162.out) hb)
                          have n4_ := Aside0.mk (below_step (by repeat (first | (with_reducible first | exact HB.out | apply below_alloc | apply pw_below_drewN | apply below_drew1 | refine below_set ?_ GE133.out | refine below_set ?_ GE143.out | refine below_set ?_ GE153.out | refine below_set ?_ GE162.out) | exact HB.out)) hb)
                          have n5_ := Aside0.mk (hbox)
                          have n6_ := Aside0.mk ((by rw [hg]; exact (below_size (by repeat (first | (with_reducible first | exact HB.out | apply below_alloc | apply pw_below_drewN | apply below_drew1 | refine below_set ?_ GE133.out | refine below_set ?_ GE143.out | refine below_set ?_ GE153.out | refine below_set ?_ GE162.out) | exact HB.out))) : w.heap.size ≤ gb172))
                          have n7_ := Aside0.mk ((by rw [hg]; exact (below_size (by repeat (first | (with_reducible first | exact HB.out | apply below_alloc | apply pw_below_drewN | apply below_drew1 | refine below_set ?_ GE133.out | refine below_set ?_ GE143.out | refine below_set ?_ GE153.out | refine below_set ?_ GE162.out) | exact HB.out))) : w.heap.size ≤ gb172))
                          have n8_ := Aside0.mk ((by rw [hg]; exact Nat.ne_of_lt (blk_lt (g := gb133) (o := .cells #[.int .u64 t127, .int .i64 t128, .int .i64 t129, .int .i64 t130] 38 (0, 0)) (by (with_reducible repeat (first | refine blk_drewN ?_ _ | refine blk_drew ?_ | refine blk_alloc ?_ _)); exact BK133.out)) : gb133 ≠ gb172))
                          have n9_ := Aside0.mk ((by rw [hg]; exact Nat.ne_of_gt (blk_lt (g := gb133) (o := .cells #[.int .u64 t127, .int .i64 t128, .int .i64 t129, .int .i64 t130] 38 (0, 0)) (by (with_reducible repeat (first | refine blk_drewN ?_ _ | refine blk_drew ?_ | refine blk_alloc ?_ _)); exact BK133.out)) : gb172 ≠ gb133))
                          have n10_ := Aside0.mk ((by rw [hg]; exact Nat.ne_of_lt (blk_lt (g := gb143) (o := .cells #[.int .u64 t137, .int .i64 t138, .int .i64 t139, .int .i64 t140] 38 (0, 0)) (by (with_reducible repeat (first | refine blk_drewN ?_ _ | refine blk_drew ?_ | refine blk_alloc ?_ _)); exact BK143.out)) : gb143 ≠ gb172))
                          have n11_ := Aside0.mk ((by rw [hg]; exact Nat.ne_of_gt (blk_lt (g := gb143) (o := .cells #[.int .u64 t137, .int .i64 t138, .int .i64 t139, .int .i64 t140] 38 (0, 0)) (by (with_reducible repeat (first | refine blk_drewN ?_ _ | refine blk_drew ?_ | refine blk_alloc ?_ _)); exact BK143.out)) : gb172 ≠ gb143))
                          have n12_ := Aside0.mk ((by rw [hg]; exact Nat.ne_of_lt (blk_lt (g := gb153) (o := .cells #[.int .u64 t147, .int .i64 t148, .int .i64 t149, .int .i64 t150] 38 (0, 0)) (by (with_reducible repeat (first | refine blk_drewN ?_ _ | refine blk_drew ?_ | refine blk_alloc ?_ _)); exact BK153.out)) : gb153 ≠ gb172))
                          have n13_ := Aside0.mk ((by rw [hg]; exact Nat.ne_of_gt (blk_lt (g := gb153) (o := .cells #[.int .u64 t147, .int .i64 t148, .int .i64 t149, .int .i64 t150] 38 (0, 0)) (by (with_reducible repeat (first | refine blk_drewN ?_ _ | refine blk_drew ?_ | refine blk_alloc ?_ _)); exact BK153.out)) : gb172 ≠ gb153))
                          have n14_ := Aside0.mk ((by rw [hg]; exact Nat.ne_of_lt (blk_lt (g := gb162) (o := .cells #[.int .u64 t157, .int .i64 t158, .int .i64 t159, .int .i64 t160] 38 (0, 0)) (by (with_reducible repeat (first | refine blk_drewN ?_ _ | refine blk_drew ?_ | refine blk_alloc ?_ _)); exact BK162.out)) : gb162 ≠ gb172))
                          have n15_ := Aside0.mk ((by rw [hg]; exact Nat.ne_of_gt (blk_lt (g := gb162) (o := .cells #[.int .u64 t157, .int .i64 t158, .int .i64 t159, .int .i64 t160] 38 (0, 0)) (by (with_reducible repeat (first | refine blk_drewN ?_ _ | refine blk_drew ?_ | refine blk_alloc ?_ _)); exact BK162.out)) : gb172 ≠ gb162))
                          clear BK133
                          clear BK143
                          clear BK153
                          clear BK162
                          clear HB
                          have BK133 := n0_
                          have BK143 := n1_
                          have BK153 := n2_
                          have BK162 := n3_
                          have HB := n4_
                          have BK172 := n5_
                          have GW172 := n6_
                          have GE172 := n7_
                          have NB133_172 := n8_
                          have NB172_133 := n9_
                          have NB143_172 := n10_
                          have NB172_143 := n11_
                          have NB153_172 := n12_
                          have NB172_153 := n13_
                          have NB162_172 := n14_
                          have NB172_162 := n15_
                          clear n0_ n1_ n2_ n3_ n4_ n5_ n6_ n7_ n8_ n9_ n10_ n11_ n12_ n13_ n14_ n15_
                          clear hb hbox hg
                          refine hK.out _ _ ⟨(blk_cell BK162.out 0).trans rfl, (blk_cell BK162.out 1).trans rfl, (blk_cell BK162.out 2).trans rfl, (blk_cell BK162.out 3).trans rfl⟩ (fun hHeld => ?_)
                          clear hK K
                          refine norm_ (a' := ?_) ?_ ?_
                          rotate_left
                          · show Act.put _ (some 12) _ = _
                            simp only [Act.put, List.setIfInBounds_toArray, List.set_cons_zero, List.set_cons_succ, i64_w, i32_w]
                            rfl
                          refine one_ (i := 0) (N := some 42) #[true, true, false, false, false, false, false, true, false, false, false] rfl rfl (one_of HT_.out (by kernel_rfl)) (by decide) (fun K hK => ?_)
                          refine goes_ Try.func39 (by kernel_rfl) rfl #[] (by rfl) rfl rfl (by (try simp only [List.map_toArray, List.map_cons, List.map_nil]); first | done | rfl | (simp only [List.length_drop, List.length_take]; rfl)) ?_
                          with_reducible refine (tattlelaw17_ten.calls  t163 t164 t165 _ A10.out).mono ?_
                          rintro e w57 ⟨rfl, hb⟩
                          refine ⟨_, rfl, ?_⟩
                          have n0_ := Aside0.mk (blk_below (g := gb133) (o := .cells #[.int .u64 t127, .int .i64 t128, .int .i64 t129, .int .i64 t130] 38 (0, 0)) (by (with_reducible repeat (first | refine blk_drewN ?_ _ | refine blk_drew ?_ | refine blk_alloc ?_ _)); exact BK133.out) hb)
                          have n1_ := Aside0.mk (blk_below (g := gb143) (o := .cells #[.int .u64 t137, .int .i64 t138, .int .i64 t139, .int .i64 t140] 38 (0, 0)) (by (with_reducible repeat (first | refine blk_drewN ?_ _ | refine blk_drew ?_ | refine blk_alloc ?_ _)); exact BK143.out) hb)
                          have n2_ := Aside0.mk (blk_below (g := gb153) (o := .cells #[.int .u64 t147, .int .i64 t148, .int .i64 t149, .int .i64 t150] 38 (0, 0)) (by (with_reducible repeat (first | refine blk_drewN ?_ _ | refine blk_drew ?_ | refine blk_alloc ?_ _)); exact BK153.out) hb)
                          have n3_ := Aside0.mk (blk_below (g := gb162) (o := .cells #[.int .u64 t157, .int .i64 t158, .int .i64 t159, .int .i64 t160] 38 (0, 0)) (by (with_reducible repeat (first | refine blk_drewN ?_ _ | refine blk_drew ?_ | refine blk_alloc ?_ _)); exact BK162.out) hb)
                          have n4_ := Aside0.mk (blk_below (g := gb172) (o := .cells #[.int .u64 0, .int .i64 0, .int .i64 0, .int .i64 0] 38 (0, 0)) (by (with_reducible repeat (first | refine blk_drewN ?_ _ | refine blk_drew ?_ | refine blk_alloc ?_ _)); exact BK172.out) hb)
                          have n5_ := Aside0.mk (below_step (by repeat (first | (with_reducible first | exact HB.out | apply below_alloc | apply pw_below_drewN | apply below_drew1 | refine below_set ?_ GE133.out | refine below_set ?_ GE143.out | refine below_set ?_ GE153.out | refine below_set ?_ GE162.out | refine below_set ?_ GE172.out) | exact HB.out)) hb)
                          clear BK133
                          clear BK143
                          clear BK153
                          clear BK162
                          clear BK172
                          clear HB
                          have BK133 := n0_
                          have BK143 := n1_
                          have BK153 := n2_
                          have BK162 := n3_
                          have BK172 := n4_
                          have HB := n5_
                          clear n0_ n1_ n2_ n3_ n4_ n5_
                          (try clear hb)
                          (try clear hb2)
                          (try clear hk)
                          (try clear hi)
                          refine hK.out _ _ ⟨(blk_cell BK162.out 0).trans rfl, (blk_cell BK162.out 1).trans rfl, (blk_cell BK162.out 2).trans rfl, (blk_cell BK162.out 3).trans rfl⟩ (fun hHeld => ?_)
                          clear hK K
                          refine norm_ (a' := ?_) ?_ ?_
                          rotate_left
                          · show Act.put _ (some 42) _ = _
                            simp only [Act.put, List.setIfInBounds_toArray, List.set_cons_zero, List.set_cons_succ, i64_w, i32_w]
                            rfl
                          refine one_ (i := 2) (N := some 44) #[true, true, true, false, false, false, false, true, false, false, false] rfl rfl (one_of HT_.out (by kernel_rfl)) (by decide) (fun K hK => ?_)
                          refine goes_ Try.func18 (by kernel_rfl) rfl #[.agg #[.int .i64 t163, .int .i64 t164, .int .i64 t165], .agg #[.int .u64 t157, .int .i64 t158, .int .i64 t159, .int .i64 t160], .int .i64 1, .int .u64 1, .int .i64 9] (by rfl) rfl rfl (by (try simp only [List.map_toArray, List.map_cons, List.map_nil]); first | done | rfl | (simp only [List.length_drop, List.length_take]; rfl)) ?_
                          with_reducible refine (vote_Ask.calls t163 t164 t165 t157 t158 t159 t160 1 1 9 t166 t167 t168 t169 false t171 _ A11.out).mono ?_
                          rintro e w58 ⟨rfl, hb⟩
                          refine ⟨_, rfl, ?_⟩
                          have n0_ := Aside0.mk (blk_below (g := gb133) (o := .cells #[.int .u64 t127, .int .i64 t128, .int .i64 t129, .int .i64 t130] 38 (0, 0)) (by (with_reducible repeat (first | refine blk_drewN ?_ _ | refine blk_drew ?_ | refine blk_alloc ?_ _)); exact BK133.out) hb)
                          have n1_ := Aside0.mk (blk_below (g := gb143) (o := .cells #[.int .u64 t137, .int .i64 t138, .int .i64 t139, .int .i64 t140] 38 (0, 0)) (by (with_reducible repeat (first | refine blk_drewN ?_ _ | refine blk_drew ?_ | refine blk_alloc ?_ _)); exact BK143.out) hb)
                          have n2_ := Aside0.mk (blk_below (g := gb153) (o := .cells #[.int .u64 t147, .int .i64 t148, .int .i64 t149, .int .i64 t150] 38 (0, 0)) (by (with_reducible repeat (first | refine blk_drewN ?_ _ | refine blk_drew ?_ | refine blk_alloc ?_ _)); exact BK153.out) hb)
                          have n3_ := Aside0.mk (blk_below (g := gb162) (o := .cells #[.int .u64 t157, .int .i64 t158, .int .i64 t159, .int .i64 t160] 38 (0, 0)) (by (with_reducible repeat (first | refine blk_drewN ?_ _ | refine blk_drew ?_ | refine blk_alloc ?_ _)); exact BK162.out) hb)
                          have n4_ := Aside0.mk (blk_below (g := gb172) (o := .cells #[.int .u64 0, .int .i64 0, .int .i64 0, .int .i64 0] 38 (0, 0)) (by (with_reducible repeat (first | refine blk_drewN ?_ _ | refine blk_drew ?_ | refine blk_alloc ?_ _)); exact BK172.out) hb)
                          have n5_ := Aside0.mk (below_step (by repeat (first | (with_reducible first | exact HB.out | apply below_alloc | apply pw_below_drewN | apply below_drew1 | refine below_set ?_ GE133.out | refine below_set ?_ GE143.out | refine below_set ?_ GE153.out | refine below_set ?_ GE162.out | refine below_set ?_ GE172.out) | exact HB.out)) hb)
                          clear BK133
                          clear BK143
                          clear BK153
                          clear BK162
                          clear BK172
                          clear HB
                          have BK133 := n0_
                          have BK143 := n1_
                          have BK153 := n2_
                          have BK162 := n3_
                          have BK172 := n4_
                          have HB := n5_
                          clear n0_ n1_ n2_ n3_ n4_ n5_
                          (try clear hb)
                          (try clear hb2)
                          (try clear hk)
                          (try clear hi)
                          refine hK.out _ _ ⟨(blk_cell BK162.out 0).trans rfl, (blk_cell BK162.out 1).trans rfl, (blk_cell BK162.out 2).trans rfl, (blk_cell BK162.out 3).trans rfl⟩ (fun hHeld => ?_)
                          clear hK K
                          refine norm_ (a' := ?_) ?_ ?_
                          rotate_left
                          · show Act.put _ (some 44) _ = _
                            simp only [Act.put, List.setIfInBounds_toArray, List.set_cons_zero, List.set_cons_succ, i64_w, i32_w]
                            rfl
                          refine pure_ (i := 3) (N := some 41) (v := ?_) (a' := ?_) #[true, true, true, true, false, false, false, true, false, false, false] rfl rfl (any_of HT_.out (by kernel_rfl)) (fun _ _ _ h => h) (Or.inl ⟨by rfl, ?_⟩) ?_ ?_
                          rotate_left
                          · intro w'
                            go_simp
                            with_reducible rfl
                          rotate_left
                          · simp only [Act.put, List.setIfInBounds_toArray, List.set_cons_zero, List.set_cons_succ, i64_w, i32_w]
                            rfl
                          refine pure_ (i := 4) (N := some 45) (v := ?_) (a' := ?_) #[true, true, true, true, true, false, false, true, false, false, false] rfl rfl (any_of HT_.out (by kernel_rfl)) (fun _ _ _ h => h) (Or.inl ⟨by rfl, ?_⟩) ?_ ?_
                          rotate_left
                          · intro w'
                            go_simp
                            with_reducible rfl
                          rotate_left
                          · simp only [Act.put, List.setIfInBounds_toArray, List.set_cons_zero, List.set_cons_succ, i64_w, i32_w]
                            rfl
                          refine pure_ (i := 5) (N := some 46) (v := ?_) (a' := ?_) #[true, true, true, true, true, true, false, true, false, false, false] rfl rfl (any_of HT_.out (by kernel_rfl)) (fun _ _ _ h => h) (Or.inl ⟨by rfl, ?_⟩) ?_ ?_
                          rotate_left
                          · intro w'
                            go_simp
                            with_reducible rfl
                          rotate_left
                          · simp only [Act.put, List.setIfInBounds_toArray, List.set_cons_zero, List.set_cons_succ, i64_w, i32_w]
                            rfl
                          refine pure_ (i := 6) (N := some 47) (v := ?_) (a' := ?_) #[true, true, true, true, true, true, true, true, false, false, false] rfl rfl (any_of HT_.out (by kernel_rfl)) (fun _ _ _ h => h) (Or.inl ⟨by rfl, ?_⟩) ?_ ?_
                          rotate_left
                          · intro w'
                            go_simp
                            with_reducible rfl
                          rotate_left
                          · simp only [Act.put, List.setIfInBounds_toArray, List.set_cons_zero, List.set_cons_succ, i64_w, i32_w]
                            rfl
                          exact norm_ (by simp only [putAll, Act.put, List.setIfInBounds_toArray, List.set_cons_zero, List.set_cons_succ]) (hCont (gb172) _ ⟨hHeld, (by (with_reducible repeat (first | refine blk_drewN ?_ _ | refine blk_drew ?_ | refine blk_alloc ?_ _)); exact BK133.out), (by (with_reducible repeat (first | refine blk_drewN ?_ _ | refine blk_drew ?_ | refine blk_alloc ?_ _)); exact BK143.out), (by (with_reducible repeat (first | refine blk_drewN ?_ _ | refine blk_drew ?_ | refine blk_alloc ?_ _)); exact BK153.out), (by (with_reducible repeat (first | refine blk_drewN ?_ _ | refine blk_drew ?_ | refine blk_alloc ?_ _)); exact BK162.out), (by (with_reducible repeat (first | refine blk_drewN ?_ _ | refine blk_drew ?_ | refine blk_alloc ?_ _)); exact BK172.out), GW172.out, GE172.out, NB133_172.out, NB172_133.out, NB143_172.out, NB172_143.out, NB153_172.out, NB172_153.out, NB162_172.out, NB172_162.out, (by repeat (first | (with_reducible first | exact HB.out | apply below_alloc | apply pw_below_drewN | apply below_drew1 | refine below_set ?_ GE133.out | refine below_set ?_ GE143.out | refine below_set ?_ GE153.out | refine below_set ?_ GE162.out | refine below_set ?_ GE172.out) | exact HB.out))⟩)
                      rintro gb172 w59 ⟨hS_, h0_, h1_, h2_, h3_, h4_, h5_, h6_, h7_, h8_, h9_, h10_, h11_, h12_, h13_, h14_, h15_⟩
                      have n0_ : Aside0 (w59.heap[gb133]? = some (.cells #[.int .u64 t127, .int .i64 t128, .int .i64 t129, .int .i64 t130] 38 (0, 0))) := ⟨h0_⟩
                      have n1_ : Aside0 (w59.heap[gb143]? = some (.cells #[.int .u64 t137, .int .i64 t138, .int .i64 t139, .int .i64 t140] 38 (0, 0))) := ⟨h1_⟩
                      have n2_ : Aside0 (w59.heap[gb153]? = some (.cells #[.int .u64 t147, .int .i64 t148, .int .i64 t149, .int .i64 t150] 38 (0, 0))) := ⟨h2_⟩
                      have n3_ : Aside0 (w59.heap[gb162]? = some (.cells #[.int .u64 t157, .int .i64 t158, .int .i64 t159, .int .i64 t160] 38 (0, 0))) := ⟨h3_⟩
                      have n4_ : Aside0 (w59.heap[gb172]? = some (.cells #[.int .u64 0, .int .i64 0, .int .i64 0, .int .i64 0] 38 (0, 0))) := ⟨h4_⟩
                      have n5_ : Aside0 (w.heap.size ≤ gb172) := ⟨h5_⟩
                      have n6_ : Aside0 (w.heap.size ≤ gb172) := ⟨h6_⟩
                      have n7_ : Aside0 (gb133 ≠ gb172) := ⟨h7_⟩
                      have n8_ : Aside0 (gb172 ≠ gb133) := ⟨h8_⟩
                      have n9_ : Aside0 (gb143 ≠ gb172) := ⟨h9_⟩
                      have n10_ : Aside0 (gb172 ≠ gb143) := ⟨h10_⟩
                      have n11_ : Aside0 (gb153 ≠ gb172) := ⟨h11_⟩
                      have n12_ : Aside0 (gb172 ≠ gb153) := ⟨h12_⟩
                      have n13_ : Aside0 (gb162 ≠ gb172) := ⟨h13_⟩
                      have n14_ : Aside0 (gb172 ≠ gb162) := ⟨h14_⟩
                      have n15_ : Aside0 (Below w.heap.size w w59) := ⟨h15_⟩
                      clear BK133
                      clear BK143
                      clear BK153
                      clear BK162
                      clear HB
                      clear h0_ h1_ h2_ h3_ h4_ h5_ h6_ h7_ h8_ h9_ h10_ h11_ h12_ h13_ h14_ h15_
                      have BK133 := n0_
                      have BK143 := n1_
                      have BK153 := n2_
                      have BK162 := n3_
                      have BK172 := n4_
                      have GW172 := n5_
                      have GE172 := n6_
                      have NB133_172 := n7_
                      have NB172_133 := n8_
                      have NB143_172 := n9_
                      have NB172_143 := n10_
                      have NB153_172 := n11_
                      have NB172_153 := n12_
                      have NB162_172 := n13_
                      have NB172_162 := n14_
                      have HB := n15_
                      clear n0_ n1_ n2_ n3_ n4_ n5_ n6_ n7_ n8_ n9_ n10_ n11_ n12_ n13_ n14_ n15_
                      have hHeld : w59.cell? ⟨gb162, 0, none⟩ = some (.int .u64 t157) ∧ w59.cell? ⟨gb162, 1, none⟩ = some (.int .i64 t158) ∧ w59.cell? ⟨gb162, 2, none⟩ = some (.int .i64 t159) ∧ w59.cell? ⟨gb162, 3, none⟩ = some (.int .i64 t160) := hS_
                      refine norm_ (a' := ?_) ?_ ?_
                      rotate_left
                      · simp only [putAll, Act.put, List.setIfInBounds_toArray, List.set_cons_zero, List.set_cons_succ]
                        rfl
                      refine one_ (i := 8) (N := none) #[true, true, true, true, true, true, true, true, true, false, false] rfl rfl (one_of HT_.out (by kernel_rfl)) (by decide) (fun K hK => ?_)
                      have hs60 : w59.cell? ⟨gb172, 0, none⟩ = some (.int .u64 0) := (blk_cell BK172.out 0).trans rfl
                      have hfs60 := blk_frozen BK172.out 0
                      have hns60_0 := NB133_172.out
                      have hns60_1 := NB143_172.out
                      have hns60_2 := NB153_172.out
                      have hns60_3 := NB162_172.out
                      have hms60_0 := NB172_133.out
                      have hms60_1 := NB172_143.out
                      have hms60_2 := NB172_153.out
                      have hms60_3 := NB172_162.out
                      have hs61 : w59.cell? ⟨gb172, 1, none⟩ = some (.int .i64 0) := (blk_cell BK172.out 1).trans rfl
                      have hfs61 := blk_frozen BK172.out 1
                      have hns61_0 := NB133_172.out
                      have hns61_1 := NB143_172.out
                      have hns61_2 := NB153_172.out
                      have hns61_3 := NB162_172.out
                      have hms61_0 := NB172_133.out
                      have hms61_1 := NB172_143.out
                      have hms61_2 := NB172_153.out
                      have hms61_3 := NB172_162.out
                      have hs62 : w59.cell? ⟨gb172, 2, none⟩ = some (.int .i64 0) := (blk_cell BK172.out 2).trans rfl
                      have hfs62 := blk_frozen BK172.out 2
                      have hns62_0 := NB133_172.out
                      have hns62_1 := NB143_172.out
                      have hns62_2 := NB153_172.out
                      have hns62_3 := NB162_172.out
                      have hms62_0 := NB172_133.out
                      have hms62_1 := NB172_143.out
                      have hms62_2 := NB172_153.out
                      have hms62_3 := NB172_162.out
                      have hs63 : w59.cell? ⟨gb172, 3, none⟩ = some (.int .i64 0) := (blk_cell BK172.out 3).trans rfl
                      have hfs63 := blk_frozen BK172.out 3
                      have hns63_0 := NB133_172.out
                      have hns63_1 := NB143_172.out
                      have hns63_2 := NB153_172.out
                      have hns63_3 := NB162_172.out
                      have hms63_0 := NB172_133.out
                      have hms63_1 := NB172_143.out
                      have hms63_2 := NB172_153.out
                      have hms63_3 := NB172_162.out
                      refine skip_ (w1 := ?_) (by rfl) rfl ?_ ?_
                      rotate_left
                      · go_simp
                        rfl
                      refine hK.out _ _ ⟨((cell_far (p := ⟨gb172, _, none⟩) NB162_172.out _).trans (((cell_far (p := ⟨gb172, _, none⟩) NB162_172.out _).trans (((cell_far (p := ⟨gb172, _, none⟩) NB162_172.out _).trans (((cell_far (p := ⟨gb172, _, none⟩) NB162_172.out _).trans (hHeld.1)))))))), ((cell_far (p := ⟨gb172, _, none⟩) NB162_172.out _).trans (((cell_far (p := ⟨gb172, _, none⟩) NB162_172.out _).trans (((cell_far (p := ⟨gb172, _, none⟩) NB162_172.out _).trans (((cell_far (p := ⟨gb172, _, none⟩) NB162_172.out _).trans (hHeld.2.1)))))))), ((cell_far (p := ⟨gb172, _, none⟩) NB162_172.out _).trans (((cell_far (p := ⟨gb172, _, none⟩) NB162_172.out _).trans (((cell_far (p := ⟨gb172, _, none⟩) NB162_172.out _).trans (((cell_far (p := ⟨gb172, _, none⟩) NB162_172.out _).trans (hHeld.2.2.1)))))))), ((cell_far (p := ⟨gb172, _, none⟩) NB162_172.out _).trans (((cell_far (p := ⟨gb172, _, none⟩) NB162_172.out _).trans (((cell_far (p := ⟨gb172, _, none⟩) NB162_172.out _).trans (((cell_far (p := ⟨gb172, _, none⟩) NB162_172.out _).trans (hHeld.2.2.2))))))))⟩ (fun hHeld => ?_)
                      clear hK K
                      refine pure_ (i := 9) (N := some 13) (v := ?_) (a' := ?_) #[true, true, true, true, true, true, true, true, true, true, false] rfl rfl (any_of HT_.out (by kernel_rfl)) (fun _ _ _ h => h) (Or.inl ⟨by rfl, ?_⟩) ?_ ?_
                      rotate_left
                      · intro w'
                        go_simp
                        with_reducible rfl
                      rotate_left
                      · simp only [Act.put, List.setIfInBounds_toArray, List.set_cons_zero, List.set_cons_succ, i64_w, i32_w]
                        rfl
                      refine pure_ (i := 10) (N := some 14) (v := ?_) (a' := ?_) #[true, true, true, true, true, true, true, true, true, true, true] rfl rfl (any_of HT_.out (by kernel_rfl)) (fun _ _ _ h => h) (Or.inl ⟨by rfl, ?_⟩) ?_ ?_
                      rotate_left
                      · intro w'
                        go_simp
                        with_reducible rfl
                      rotate_left
                      · simp only [Act.put, List.setIfInBounds_toArray, List.set_cons_zero, List.set_cons_succ, i64_w, i32_w]
                        rfl
                      refine done_ (done_of HT_.out (by kernel_rfl)) ?_
                      have hnb64 := NB133_143.out
                      have hnc64 := NB143_133.out
                      have hnb65 := NB133_153.out
                      have hnc65 := NB153_133.out
                      have hnb66 := NB133_172.out
                      have hnc66 := NB172_133.out
                      have hcz67_0 : w59.cell? ⟨gb133, 0, none⟩ = some (.int .u64 t127) := (blk_cell BK133.out 0).trans rfl
                      have hcz67_1 : w59.cell? ⟨gb133, 1, none⟩ = some (.int .i64 t128) := (blk_cell BK133.out 1).trans rfl
                      have hcz67_2 : w59.cell? ⟨gb133, 2, none⟩ = some (.int .i64 t129) := (blk_cell BK133.out 2).trans rfl
                      have hcz67_3 : w59.cell? ⟨gb133, 3, none⟩ = some (.int .i64 t130) := (blk_cell BK133.out 3).trans rfl
                      have hfz67_0 := blk_frozen BK133.out 0
                      have hfz67_1 := blk_frozen BK133.out 1
                      have hfz67_2 := blk_frozen BK133.out 2
                      have hfz67_3 := blk_frozen BK133.out 3
                      have hnb68 := NB162_172.out
                      have hnc68 := NB172_162.out
                      have hcz69_0 : w59.cell? ⟨gb162, 0, none⟩ = some (.int .u64 t157) := (blk_cell BK162.out 0).trans rfl
                      have hcz69_1 : w59.cell? ⟨gb162, 1, none⟩ = some (.int .i64 t158) := (blk_cell BK162.out 1).trans rfl
                      have hcz69_2 : w59.cell? ⟨gb162, 2, none⟩ = some (.int .i64 t159) := (blk_cell BK162.out 2).trans rfl
                      have hcz69_3 : w59.cell? ⟨gb162, 3, none⟩ = some (.int .i64 t160) := (blk_cell BK162.out 3).trans rfl
                      have hfz69_0 := blk_frozen BK162.out 0
                      have hfz69_1 := blk_frozen BK162.out 1
                      have hfz69_2 := blk_frozen BK162.out 2
                      have hfz69_3 := blk_frozen BK162.out 3
                      try go_wp2
                      go_ret
                      exact ⟨by first | rfl | (simp [errW_none, errW_some] <;> rfl) | (simp [*, errW_none, errW_some] <;> rfl), by repeat (first | (with_reducible first | exact HB.out | apply below_alloc | apply pw_below_drewN | apply below_drew1 | refine below_set ?_ GE133.out | refine below_set ?_ GE143.out | refine below_set ?_ GE153.out | refine below_set ?_ GE162.out | refine below_set ?_ GE172.out) | exact HB.out)⟩
                  · rw [if_neg c20] at H
                    have c20b0 : (t161 == 0) = false := beq_eq_false_iff_ne.mpr c20
                    have c20b1 : (t161 != 0) = true := bne_iff_ne.mpr c20
                    exact absurd ((Option.some.inj H).trans hrt.out) (by decide)
                · rw [if_neg c19] at H
                  have c19b0 : (t160 == 10) = false := beq_eq_false_iff_ne.mpr c19
                  have c19b1 : (t160 != 10) = true := bne_iff_ne.mpr c19
                  exact absurd ((Option.some.inj H).trans hrt.out) (by decide)
              · rw [if_neg c18] at H
                have c18b0 : (t152 == 0) = false := beq_eq_false_iff_ne.mpr c18
                have c18b1 : (t152 != 0) = true := bne_iff_ne.mpr c18
                exact absurd ((Option.some.inj H).trans hrt.out) (by decide)
            · replace c17 := Bool.eq_false_iff.mpr c17
              subst c17
              have H1 : (some false) = some r := by rw [if_neg (show ¬ (false = true) by decide)] at H; exact H
              clear H
              have H := H1
              clear H1
              exact absurd ((Option.some.inj H).trans hrt.out) (by decide)
          · rw [if_neg c16] at H
            have c16b0 : (t142 == 0) = false := beq_eq_false_iff_ne.mpr c16
            have c16b1 : (t142 != 0) = true := bne_iff_ne.mpr c16
            exact absurd ((Option.some.inj H).trans hrt.out) (by decide)
      · rw [if_neg c14] at H
        have c14b0 : (t132 == 0) = false := beq_eq_false_iff_ne.mpr c14
        have c14b1 : (t132 != 0) = true := bne_iff_ne.mpr c14
        exact absurd ((Option.some.inj H).trans hrt.out) (by decide)
    · rw [if_neg c13] at H
      have c13b0 : (t127 == 1 && (t128 == 2 && (t129 == 15 && (t130 == 0)))) = false := by simpa using c13
      (try (have c13b1 : decide (t127 = 1 && (t128 == 2 && (t129 == 15 && (t130 == 0)))) = false := by simpa using c13))
      (try (have c13b2 : (t127 == 1 && (t128 == 2 && (t129 == 15 && (t130 == 0)))) = false := by simpa using c13))
      (try (have c13b3 : ¬ (t127 = 1 && (t128 == 2 && (t129 == 15 && (t130 == 0)))) := by simpa using c13))
      clear c13
      exact absurd ((Option.some.inj H).trans hrt.out) (by decide)
  · replace c12 := Bool.eq_false_iff.mpr c12
    subst c12
    have H1 : (some false) = some r := by rw [if_neg (show ¬ (false = true) by decide)] at H; exact H
    clear H
    have H := H1
    clear H1
    exact absurd ((Option.some.inj H).trans hrt.out) (by decide)

end Go.Proofs.Ytgfblogneggpmaa.Fn
