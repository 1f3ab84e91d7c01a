/- TurnGone: for every input the law returns true, and each argument reads behind the call as it read before. No condition. -/
import Derived.Test.YtlanodnbdgiihaaRows
import Derived.Test.YtlanodnbdgiihaaSayTurnGone
import Derived.Test.YtlanodnbdgiihaaPureTurnGone
import Derived.Test.YtlanodnbdgiihaaOpen
import Derived.WalkKit
import Derived.ProofKit
import Derived.OpenShut
import Derived.ShutString
import Derived.ChangeOld
import Derived.Below
import Derived.Carry
import Derived.SizedLaws
namespace Go.Proofs.Ytlanodnbdgiihaa.turnGone
open Go.ChangeShapes Go.WideShapes Go.ChangeAt Go.RowKit Go.Proofs.Ytlanodnbdgiihaa.Opn Go.Proofs.Ytlanodnbdgiihaa.Fn Go.Proofs.YtlanodnbdgiihaaW.PrintWords
open Go.ChangeMaps (open_string shut_string)
set_option linter.unusedVariables false
theorem own : ownKnob Try.prog.godebug = none := by kernel_rfl
theorem laidOut : laidOutB Try.prog = true := by kernel_rfl
set_option maxRecDepth 100000 in
set_option maxHeartbeats 1000000 in
theorem lifted (os : Os) (started : os.Started) (H : Type) (enc : TypeId × Value → H) :
    ReturnsInHanded {} Try.checked os 10 .any (Rows.turnGoneSpec.pre6 enc Try.prog Try.f10 Rows.turnGoneRow.domain false) (Rows.turnGoneSpec.post enc Try.prog Try.f10 false true false false) := by
  refine returnsInHanded_of_change_sized (C := Try.checked) own started (by kernel_rfl) Try.func10
    (ChangeSpec.witness6 (enc := enc) (C := Try.checked) false ⟨#[], #[.agg #[.slice none 0 0, .int .i64 0, .string ByteArray.empty, .int .i64 0, .slice none 0 0, .int .u8 0, .int .u8 0]], []⟩ 8 (by kernel_rfl) (by kernel_rfl) (by kernel_rfl) (by kernel_rfl)) ?_
  intro W base args ds gs before hval0 hW hcnd hsz0 _
  have hsz : (DataW.weightsEach Try.prog (Try.f10.params.toList ++ Rows.turnGoneSpec.plain.varTypes Try.prog) (ds ++ gs)).all (· ≤ reachBytes) = true := hsz0
  have hval : ∀ (j : Nat) t v, Try.f10.params[j]? = some t → args[j]? = some v → Value.okWide Try.prog W .any base t v := hval0
  have hW' := hW
  obtain ⟨p, q, hA0, hV, rfl, hfz, hnd⟩ := hW
  have hA : DataW.TrodAll enc Try.prog W 0 (fun _ => true) true Try.f10.params.toList args.toList ds p := hA0
  rw [Try.params10] at hA hval hsz
  obtain ⟨v0, vs0, d0, ds0, p0, q0, hargs, rfl, rfl, h0, r0⟩ := trodAll_cons hA
  obtain ⟨rfl, rfl, rfl⟩ := trodAll_nil r0
  obtain rfl : args = #[v0] := by cases args; simp_all
  obtain ⟨rfl, rfl⟩ := trodVars_none hV
  have k0 := h0
  have lt0 : ∀ x ∈ p0, x.block < W.heap.size := by obtain ⟨m, hm⟩ := k0; exact DataW.trod_lt m _ _ _ hm
  obtain ⟨cs0, x0, rfl, hK0, w0⟩ := arg_struct Try.underlying57 opens57 (hval 0 57 v0 rfl rfl) h0 (each_of hsz (j := 0) (t := 57) rfl rfl)
  obtain ⟨A0_0, c0_0, A0_4, c0_4, he0, hl0_0, hc0_0, hl0_4, hc0_4⟩ := k57_open hK0
  obtain rfl := agg_of he0
  obtain ⟨k, h⟩ := (Pure.TurnGone x0.f0.f0 x0.f0.f1 x0.f1.f0 x0.f1.f1 x0.f2 x0.f3 x0.f4 w0.1.1 w0.1.2 w0.2.1.1 w0.2.1.2 w0.2.2.1 w0.2.2.2.1 w0.2.2.2.2)
  refine (tattlelaw08_TurnGone.calls k A0_0 c0_0 x0.f0.f0 x0.f0.f1 x0.f1.f0 x0.f1.f1 A0_4 c0_4 x0.f2 x0.f3 x0.f4 true W hc0_0 hl0_0 hc0_4 hl0_4 ⟨rfl⟩ h).mono fun e W' hEW => ?_
  obtain ⟨he, bel0⟩ := hEW
  have bel : Below W.heap.size W W' := bel0
  subst he
  exact ⟨_, rfl, _, _, _, [], _, [], hW', trodAll_mk1 (shut_bool Try.underlying4 _), (trodAll_cons_mk (Below.trod laidOut (by kernel_rfl) (of_decide_eq_true (by kernel_rfl)) k0 bel lt0) trodAll_mk0), rfl, bel.frame _, fun h => by cases h⟩
theorem over : Rows.turnGoneRow.holds Try.pinned (OpenSpec.ofChange Rows.turnGoneSpec) :=
  OpenClaim.holds_of_wide 10 Try.f10 rfl rfl rfl rfl rfl rfl rfl ⟨rfl, rfl, rfl, rfl, rfl⟩ rfl rfl rfl rfl rfl (by kernel_rfl) Try.func10 (by kernel_rfl)
    (of_decide_eq_true (by kernel_rfl)) (by unfold Func.isWrapper; first | (rw [if_pos (by decide +kernel)]; kernel_rfl) | (rw [if_neg (by decide +kernel)]; exact ⟨rfl, rfl⟩))
    (fun os started H enc _ => lifted os started H enc)
theorem proved : Rows.TurnGoneSaid := over
end Go.Proofs.Ytlanodnbdgiihaa.turnGone
namespace Go.Proofs.Ytlanodnbdgiihaa
theorem turnGone_holds : Rows.TurnGoneSaid := turnGone.proved
#print axioms turnGone_holds
end Go.Proofs.Ytlanodnbdgiihaa
