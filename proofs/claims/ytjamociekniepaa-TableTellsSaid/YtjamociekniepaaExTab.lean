/- table.Up, table.Others, table.Behind, table.Lowest, by hand. -/
import Derived.Test.YtjamociekniepaaFnx0
import Derived.Test.YtjamociekniepaaFnx11
import Derived.Test.YtjamociekniepaaFnx14
import Derived.Test.YtjamociekniepaaFnx3
import Derived.Test.YtjamociekniepaaTab
import Derived.Test.YtjamociekniepaaHand
import Derived.BigRegion
import Derived.Deep.LoopGhost
import Derived.Deep.RegionHeld3
import Derived.Deep.RegionWith
import Derived.Laws.MakeOwn
import Derived.OwnWalk
namespace Go.Proofs.Ytjamociekniepaa.Fn
open Go.RowKit Go.Proofs.YtjamociekniepaaW.PrintWords Go.Proofs.YtjamociekniepaaW.PrintLast Go.Proofs.YtjamociekniepaaW.PrintMore
set_option linter.unusedVariables false
set_option linter.unusedSimpArgs false
set_option maxRecDepth 100000
set_option maxHeartbeats 1000000 in
theorem places_Up (A : Option Addr) (c : Nat) (l : List S26) (w : World) (p : Nat → S26 → Bool) (hr : Kd.C k26 w A l.length l) (hc : l.length ≤ c) (hl : l.length ≤ 64)
    (hcall : ∀ (wr : World) (i : Nat) (x : S26), Below w.heap.size w wr → i < l.length → x = rd_T26 l (i : Int) → Calls Try.prog 49 #[.int .i64 (i : Int), .agg #[.int .u64 x.f0, .int .i64 x.f1]] wr fun e w' => e = .returned (.bool (p i x)) ∧ Below wr.heap.size wr w') :
    Calls Try.prog 48 #[.slice A l.length c, .func (.func 49) #[] #[]] w fun e w' => ∃ v : Value, e = .returned v ∧ Kd.R (Kd.int .i64) 3 w' w.heap.size (fun _ => True) v (plcs p l 0) ∧ Below w.heap.size w w' := by
  have hu26 := Try.underlying26
  have HR := Lib.hid hr
  have HCALL := Lib.hid hcall
  clear hr hcall
  go_enter Try.func48, Try.ntmps48
  go_wp2_with fail
  go_loopg [5, 10] l.length (fun gg v5 v10 wr => ∃ i : Nat, v10 = .int .i64 (i : Int) ∧ Aside0 (i ≤ l.length) ∧ Aside0 (l.length ≤ gg + i) ∧ Aside0 (Kd.R (Kd.int .i64) 3 wr w.heap.size (fun _ => True) v5 (plcs p (l.take i) 0)) ∧ Aside0 (Below w.heap.size w wr))
  case atStart => exact ⟨0, rfl, ⟨Nat.zero_le _⟩, ⟨by omega⟩, ⟨Kd.R_nil _ _ _ _ _⟩, ⟨Below.refl _ w⟩⟩
  case round =>
    obtain ⟨i, rfl, a1, a2, a3, a4⟩ := hrel
    by_cases hi : i < l.length
    · obtain ⟨ad, rfl, hx0, hx1⟩ := at_T26 (Kd.C_below HR.out a4.out) (i : Int) (by omega) (by omega)
      rw [Int.toNat_natCast] at hx0 hx1
      have hcl := fun wr h => HCALL.out wr i _ h hi rfl
      have hts : plcs p (l.take (i + 1)) 0 = plcs p (l.take i) 0 ++ (if p i (rd_T26 l (i : Int)) = true then [(i : Int)] else []) := by
        rw [List.take_succ_eq_append_getElem hi, plcs_snoc, List.length_take, Nat.zero_add, show min i l.length = i by omega]
        unfold rd_T26
        rw [Int.toNat_natCast, List.getD_eq_getElem?_getD, List.getElem?_eq_getElem hi]
        rfl
      have hpl := plcs_length p (l.take i) 0
      have HPL := Lib.hid hpl
      have HCL := Lib.hid hcl
      have HTS := Lib.hid hts
      clear hcl hts hpl
      generalize rd_T26 l (i : Int) = x at *
      obtain ⟨y0, y1⟩ := x
      have hbb := a4.out.alloc a4.out.size (.cells #[.int .u64 y0, .int .i64 y1] 26)
      have HBB := Lib.hid hbb
      clear hbb
      go_wp2_with fail
      refine (HCL.out _ HBB.out).mono ?_
      rintro e w1 ⟨rfl, hb⟩
      have hb1 : Below w.heap.size w w1 := HBB.out.trans (hb.mono HBB.out.size)
      have ho1 := Kd.R_below (Kd.R_alloc a3.out (.cells #[.int .u64 y0, .int .i64 y1] 26)) hb
      have HB1 := Lib.hid hb1
      have HO1 := Lib.hid ho1
      clear hb hb1 ho1
      cases hp : p i ⟨y0, y1⟩ with
      | true =>
        have hts := HTS.out
        rw [hp, if_pos rfl] at hts
        have HTS1 := Lib.hid hts
        clear hts
        go_wp2_with (first | ((with_reducible refine gate_builtin (b := .append) (xs := #[.tmp 19, .tmp 21]) rfl ?_); at_builtin; refine Kd.R_append (Kd.int .i64) (w0 := w) w.heap.size rfl (.tmp 19) (.tmp 21) 53 3 (.int .i64 0) 8 rfl Try.underlying53 info3 rfl (by decide) (by omega) u5 (plcs p (l.take i) 0) (i : Int) [.int .i64 (i : Int)] (fun _ => True) (fun _ => False) rfl rfl ?aP (fun _ hk => hk.elim) ?aF ?aO ?aB ?aS ?aL ?_; (case aP => exact rfl); (case aB => exact (by repeat (first | (with_reducible first | exact HB1.out | apply below_alloc | apply pw_below_drewN | apply below_drew1) | exact HB1.out))); (case aF => exact (fun _ _ => trivial)); (case aO => exact (by (with_reducible repeat (first | apply Kd.R_alloc | apply Kd.R_drewN | apply Kd.R_drew)); exact HO1.out)); (case aS => exact (below_size (by repeat (first | (with_reducible first | exact HB1.out | apply below_alloc | apply pw_below_drewN | apply below_drew1) | exact HB1.out)))); (case aL => have := HPL.out; rw [List.length_take] at this; omega); intro v543 w6 ho hb hg hat; rw [← HTS1.out] at ho; have HB2 := Lib.hid hb; have HO2 := Lib.hid ho; clear ho hb hg hat))
        all_goals
          go_roundg (l.length - (i + 1))
          case measure => have := a2.out; omega
          case rel => exact ⟨i + 1, by first | rfl | go_num | (simp; done), ⟨hi⟩, ⟨by omega⟩, ⟨HO2.out⟩, ⟨HB2.out⟩⟩
      | false =>
        have hts := HTS.out
        rw [hp, if_neg (by decide), List.append_nil] at hts
        have HTS1 := Lib.hid hts
        clear hts
        go_wp2_with fail
        all_goals
          go_roundg (l.length - (i + 1))
          case measure => have := a2.out; omega
          case rel => exact ⟨i + 1, by first | rfl | go_num | (simp; done), ⟨hi⟩, ⟨by omega⟩, ⟨by rw [HTS1.out]; exact HO1.out⟩, ⟨HB1.out⟩⟩
    · have e : i = l.length := by have := a1.out; omega
      subst e
      have h3 := a3.out
      rw [List.take_length] at h3
      have H3 := Lib.hid h3
      clear h3
      go_wp2_with fail
      go_ret
      exact ⟨_, rfl, H3.out, a4.out⟩
set_option maxHeartbeats 1000000 in
theorem places_Others (A : Option Addr) (c : Nat) (l : List S26) (w : World) (bm : Nat) (p : Nat → S26 → Bool) (hr : Kd.C k26 w A l.length l) (hc : l.length ≤ c) (hl : l.length ≤ 64)
    (hcall : ∀ (wr : World) (i : Nat) (x : S26), Below w.heap.size w wr → i < l.length → x = rd_T26 l (i : Int) → Calls Try.prog 51 #[.int .i64 (i : Int), .agg #[.int .u64 x.f0, .int .i64 x.f1], .pointer (some ⟨bm, 0, none⟩)] wr fun e w' => e = .returned (.bool (p i x)) ∧ Below wr.heap.size wr w') :
    Calls Try.prog 48 #[.slice A l.length c, .func (.func 51) #[] #[.pointer (some ⟨bm, 0, none⟩)]] w fun e w' => ∃ v : Value, e = .returned v ∧ Kd.R (Kd.int .i64) 3 w' w.heap.size (fun _ => True) v (plcs p l 0) ∧ Below w.heap.size w w' := by
  have hu26 := Try.underlying26
  have HR := Lib.hid hr
  have HCALL := Lib.hid hcall
  clear hr hcall
  go_enter Try.func48, Try.ntmps48
  go_wp2_with fail
  go_loopg [5, 10] l.length (fun gg v5 v10 wr => ∃ i : Nat, v10 = .int .i64 (i : Int) ∧ Aside0 (i ≤ l.length) ∧ Aside0 (l.length ≤ gg + i) ∧ Aside0 (Kd.R (Kd.int .i64) 3 wr w.heap.size (fun _ => True) v5 (plcs p (l.take i) 0)) ∧ Aside0 (Below w.heap.size w wr))
  case atStart => exact ⟨0, rfl, ⟨Nat.zero_le _⟩, ⟨by omega⟩, ⟨Kd.R_nil _ _ _ _ _⟩, ⟨Below.refl _ w⟩⟩
  case round =>
    obtain ⟨i, rfl, a1, a2, a3, a4⟩ := hrel
    by_cases hi : i < l.length
    · obtain ⟨ad, rfl, hx0, hx1⟩ := at_T26 (Kd.C_below HR.out a4.out) (i : Int) (by omega) (by omega)
      rw [Int.toNat_natCast] at hx0 hx1
      have hcl := fun wr h => HCALL.out wr i _ h hi rfl
      have hts : plcs p (l.take (i + 1)) 0 = plcs p (l.take i) 0 ++ (if p i (rd_T26 l (i : Int)) = true then [(i : Int)] else []) := by
        rw [List.take_succ_eq_append_getElem hi, plcs_snoc, List.length_take, Nat.zero_add, show min i l.length = i by omega]
        unfold rd_T26
        rw [Int.toNat_natCast, List.getD_eq_getElem?_getD, List.getElem?_eq_getElem hi]
        rfl
      have hpl := plcs_length p (l.take i) 0
      have HPL := Lib.hid hpl
      have HCL := Lib.hid hcl
      have HTS := Lib.hid hts
      clear hcl hts hpl
      generalize rd_T26 l (i : Int) = x at *
      obtain ⟨y0, y1⟩ := x
      have hbb := a4.out.alloc a4.out.size (.cells #[.int .u64 y0, .int .i64 y1] 26)
      have HBB := Lib.hid hbb
      clear hbb
      go_wp2_with fail
      refine (HCL.out _ HBB.out).mono ?_
      rintro e w1 ⟨rfl, hb⟩
      have hb1 : Below w.heap.size w w1 := HBB.out.trans (hb.mono HBB.out.size)
      have ho1 := Kd.R_below (Kd.R_alloc a3.out (.cells #[.int .u64 y0, .int .i64 y1] 26)) hb
      have HB1 := Lib.hid hb1
      have HO1 := Lib.hid ho1
      clear hb hb1 ho1
      cases hp : p i ⟨y0, y1⟩ with
      | true =>
        have hts := HTS.out
        rw [hp, if_pos rfl] at hts
        have HTS1 := Lib.hid hts
        clear hts
        go_wp2_with (first | ((with_reducible refine gate_builtin (b := .append) (xs := #[.tmp 19, .tmp 21]) rfl ?_); at_builtin; refine Kd.R_append (Kd.int .i64) (w0 := w) w.heap.size rfl (.tmp 19) (.tmp 21) 53 3 (.int .i64 0) 8 rfl Try.underlying53 info3 rfl (by decide) (by omega) u5 (plcs p (l.take i) 0) (i : Int) [.int .i64 (i : Int)] (fun _ => True) (fun _ => False) rfl rfl ?aP (fun _ hk => hk.elim) ?aF ?aO ?aB ?aS ?aL ?_; (case aP => exact rfl); (case aB => exact (by repeat (first | (with_reducible first | exact HB1.out | apply below_alloc | apply pw_below_drewN | apply below_drew1) | exact HB1.out))); (case aF => exact (fun _ _ => trivial)); (case aO => exact (by (with_reducible repeat (first | apply Kd.R_alloc | apply Kd.R_drewN | apply Kd.R_drew)); exact HO1.out)); (case aS => exact (below_size (by repeat (first | (with_reducible first | exact HB1.out | apply below_alloc | apply pw_below_drewN | apply below_drew1) | exact HB1.out)))); (case aL => have := HPL.out; rw [List.length_take] at this; omega); intro v543 w6 ho hb hg hat; rw [← HTS1.out] at ho; have HB2 := Lib.hid hb; have HO2 := Lib.hid ho; clear ho hb hg hat))
        all_goals
          go_roundg (l.length - (i + 1))
          case measure => have := a2.out; omega
          case rel => exact ⟨i + 1, by first | rfl | go_num | (simp; done), ⟨hi⟩, ⟨by omega⟩, ⟨HO2.out⟩, ⟨HB2.out⟩⟩
      | false =>
        have hts := HTS.out
        rw [hp, if_neg (by decide), List.append_nil] at hts
        have HTS1 := Lib.hid hts
        clear hts
        go_wp2_with fail
        all_goals
          go_roundg (l.length - (i + 1))
          case measure => have := a2.out; omega
          case rel => exact ⟨i + 1, by first | rfl | go_num | (simp; done), ⟨hi⟩, ⟨by omega⟩, ⟨by rw [HTS1.out]; exact HO1.out⟩, ⟨HB1.out⟩⟩
    · have e : i = l.length := by have := a1.out; omega
      subst e
      have h3 := a3.out
      rw [List.take_length] at h3
      have H3 := Lib.hid h3
      clear h3
      go_wp2_with fail
      go_ret
      exact ⟨_, rfl, H3.out, a4.out⟩
set_option maxHeartbeats 1000000 in
theorem places_Behind (A : Option Addr) (c : Nat) (l : List S26) (w : World) (bm : Nat) (p : Nat → S26 → Bool) (hr : Kd.C k26 w A l.length l) (hc : l.length ≤ c) (hl : l.length ≤ 64)
    (hcall : ∀ (wr : World) (i : Nat) (x : S26), Below w.heap.size w wr → i < l.length → x = rd_T26 l (i : Int) → Calls Try.prog 52 #[.int .i64 (i : Int), .agg #[.int .u64 x.f0, .int .i64 x.f1], .pointer (some ⟨bm, 0, none⟩)] wr fun e w' => e = .returned (.bool (p i x)) ∧ Below wr.heap.size wr w') :
    Calls Try.prog 48 #[.slice A l.length c, .func (.func 52) #[] #[.pointer (some ⟨bm, 0, none⟩)]] w fun e w' => ∃ v : Value, e = .returned v ∧ Kd.R (Kd.int .i64) 3 w' w.heap.size (fun _ => True) v (plcs p l 0) ∧ Below w.heap.size w w' := by
  have hu26 := Try.underlying26
  have HR := Lib.hid hr
  have HCALL := Lib.hid hcall
  clear hr hcall
  go_enter Try.func48, Try.ntmps48
  go_wp2_with fail
  go_loopg [5, 10] l.length (fun gg v5 v10 wr => ∃ i : Nat, v10 = .int .i64 (i : Int) ∧ Aside0 (i ≤ l.length) ∧ Aside0 (l.length ≤ gg + i) ∧ Aside0 (Kd.R (Kd.int .i64) 3 wr w.heap.size (fun _ => True) v5 (plcs p (l.take i) 0)) ∧ Aside0 (Below w.heap.size w wr))
  case atStart => exact ⟨0, rfl, ⟨Nat.zero_le _⟩, ⟨by omega⟩, ⟨Kd.R_nil _ _ _ _ _⟩, ⟨Below.refl _ w⟩⟩
  case round =>
    obtain ⟨i, rfl, a1, a2, a3, a4⟩ := hrel
    by_cases hi : i < l.length
    · obtain ⟨ad, rfl, hx0, hx1⟩ := at_T26 (Kd.C_below HR.out a4.out) (i : Int) (by omega) (by omega)
      rw [Int.toNat_natCast] at hx0 hx1
      have hcl := fun wr h => HCALL.out wr i _ h hi rfl
      have hts : plcs p (l.take (i + 1)) 0 = plcs p (l.take i) 0 ++ (if p i (rd_T26 l (i : Int)) = true then [(i : Int)] else []) := by
        rw [List.take_succ_eq_append_getElem hi, plcs_snoc, List.length_take, Nat.zero_add, show min i l.length = i by omega]
        unfold rd_T26
        rw [Int.toNat_natCast, List.getD_eq_getElem?_getD, List.getElem?_eq_getElem hi]
        rfl
      have hpl := plcs_length p (l.take i) 0
      have HPL := Lib.hid hpl
      have HCL := Lib.hid hcl
      have HTS := Lib.hid hts
      clear hcl hts hpl
      generalize rd_T26 l (i : Int) = x at *
      obtain ⟨y0, y1⟩ := x
      have hbb := a4.out.alloc a4.out.size (.cells #[.int .u64 y0, .int .i64 y1] 26)
      have HBB := Lib.hid hbb
      clear hbb
      go_wp2_with fail
      refine (HCL.out _ HBB.out).mono ?_
      rintro e w1 ⟨rfl, hb⟩
      have hb1 : Below w.heap.size w w1 := HBB.out.trans (hb.mono HBB.out.size)
      have ho1 := Kd.R_below (Kd.R_alloc a3.out (.cells #[.int .u64 y0, .int .i64 y1] 26)) hb
      have HB1 := Lib.hid hb1
      have HO1 := Lib.hid ho1
      clear hb hb1 ho1
      cases hp : p i ⟨y0, y1⟩ with
      | true =>
        have hts := HTS.out
        rw [hp, if_pos rfl] at hts
        have HTS1 := Lib.hid hts
        clear hts
        go_wp2_with (first | ((with_reducible refine gate_builtin (b := .append) (xs := #[.tmp 19, .tmp 21]) rfl ?_); at_builtin; refine Kd.R_append (Kd.int .i64) (w0 := w) w.heap.size rfl (.tmp 19) (.tmp 21) 53 3 (.int .i64 0) 8 rfl Try.underlying53 info3 rfl (by decide) (by omega) u5 (plcs p (l.take i) 0) (i : Int) [.int .i64 (i : Int)] (fun _ => True) (fun _ => False) rfl rfl ?aP (fun _ hk => hk.elim) ?aF ?aO ?aB ?aS ?aL ?_; (case aP => exact rfl); (case aB => exact (by repeat (first | (with_reducible first | exact HB1.out | apply below_alloc | apply pw_below_drewN | apply below_drew1) | exact HB1.out))); (case aF => exact (fun _ _ => trivial)); (case aO => exact (by (with_reducible repeat (first | apply Kd.R_alloc | apply Kd.R_drewN | apply Kd.R_drew)); exact HO1.out)); (case aS => exact (below_size (by repeat (first | (with_reducible first | exact HB1.out | apply below_alloc | apply pw_below_drewN | apply below_drew1) | exact HB1.out)))); (case aL => have := HPL.out; rw [List.length_take] at this; omega); intro v543 w6 ho hb hg hat; rw [← HTS1.out] at ho; have HB2 := Lib.hid hb; have HO2 := Lib.hid ho; clear ho hb hg hat))
        all_goals
          go_roundg (l.length - (i + 1))
          case measure => have := a2.out; omega
          case rel => exact ⟨i + 1, by first | rfl | go_num | (simp; done), ⟨hi⟩, ⟨by omega⟩, ⟨HO2.out⟩, ⟨HB2.out⟩⟩
      | false =>
        have hts := HTS.out
        rw [hp, if_neg (by decide), List.append_nil] at hts
        have HTS1 := Lib.hid hts
        clear hts
        go_wp2_with fail
        all_goals
          go_roundg (l.length - (i + 1))
          case measure => have := a2.out; omega
          case rel => exact ⟨i + 1, by first | rfl | go_num | (simp; done), ⟨hi⟩, ⟨by omega⟩, ⟨by rw [HTS1.out]; exact HO1.out⟩, ⟨HB1.out⟩⟩
    · have e : i = l.length := by have := a1.out; omega
      subst e
      have h3 := a3.out
      rw [List.take_length] at h3
      have H3 := Lib.hid h3
      clear h3
      go_wp2_with fail
      go_ret
      exact ⟨_, rfl, H3.out, a4.out⟩
end Go.Proofs.Ytjamociekniepaa.Fn
namespace Go.Proofs.Ytjamociekniepaa.Fn
open Go.RowKit Go.Proofs.YtjamociekniepaaW.PrintWords Go.Proofs.YtjamociekniepaaW.PrintLast Go.Proofs.YtjamociekniepaaW.PrintMore
set_option linter.unusedVariables false
set_option linter.unusedSimpArgs false
set_option maxRecDepth 100000
def table_Up.f (l0 : List (S26)) : Option (List Int) := some (if okt l0 = true then plcs (fun _ x => upk x) l0 0 else [])
theorem kup_eq (x : S26) : know_Up.f x.f0 x.f1 = some (upk x) := by
  unfold know_Up.f upk
  by_cases h : x.f1 = 0
  · rw [if_pos h, decide_eq_true h]; rfl
  · rw [if_neg h, decide_eq_false h, Bool.false_or, Option.some.injEq, Bool.eq_iff_iff, beq_iff_eq, decide_eq_true_eq]
set_option maxHeartbeats 400000 in
theorem up_call (wr : World) (i : Nat) (x : S26) : Calls Try.prog 49 #[.int .i64 (i : Int), .agg #[.int .u64 x.f0, .int .i64 x.f1]] wr fun e w' => e = .returned (.bool (upk x)) ∧ Below wr.heap.size wr w' := by
  have hk := kup_eq x
  obtain ⟨y0, y1⟩ := x
  have HK := Lib.hid hk
  clear hk
  go_enter Try.func49, Try.ntmps49
  go_wp2_with (go_at_call 25; refine (know_Up.calls _ _ _ _ HK.out).mono ?_; rintro e w1 ⟨rfl, hb⟩; have HB := Lib.hid hb; clear hb)
  all_goals
    go_ret
    refine ⟨rfl, ?_⟩
    first
      | exact HB.out
      | exact ((Below.refl _ wr).alloc (Nat.le_refl _) _).trans (HB.out.mono (by simp))
set_option maxHeartbeats 400000 in
theorem table_Up.calls (A0 : Option Addr) (c0 : Nat) (l0 : List (S26)) (r : List Int) (w : World) (hr0 : Kd.C k26 w A0 l0.length l0) (hc0 : l0.length ≤ c0) (h : table_Up.f l0 = some r) :
    Calls Try.prog 31 #[.slice A0 l0.length c0] w fun e w' => ∃ v0_ : Value, e = .returned (v0_) ∧ Kd.R (Kd.int .i64) 3 w' w.heap.size (fun _ => True) v0_ r ∧ Below w.heap.size w w' := by
  obtain rfl := Option.some.inj h
  clear h
  have hc := tcheck_eq 100 l0 (Nat.le_refl _)
  have HR := Lib.hid hr0
  have HC := Lib.hid hc
  clear hr0 hc
  cases ho : okt l0 with
  | false =>
    rw [ho] at HC
    go_enter Try.func31, Try.ntmps31
    go_wp2_with (go_at_call 27; refine (table_Check.calls 100 A0 c0 l0 1 _ HR.out hc0 HC.out).mono ?_; rintro e w1 ⟨rfl, hb⟩; have HB := Lib.hid hb; clear hb)
    all_goals
      go_ret
      exact ⟨_, rfl, Kd.R_nil _ _ _ _ _, HB.out⟩
  | true =>
    have hl : l0.length ≤ 64 := by
      unfold okt at ho
      rw [Bool.and_eq_true, decide_eq_true_eq] at ho
      exact ho.1.2
    rw [ho] at HC
    go_enter Try.func31, Try.ntmps31
    go_wp2_with (first | (go_at_call 27; refine (table_Check.calls 100 A0 c0 l0 0 _ HR.out hc0 HC.out).mono ?_; rintro e w1 ⟨rfl, hb⟩; have HB := Lib.hid hb; clear hb) | (go_at_call 48; refine (places_Up A0 c0 l0 _ (fun _ x => upk x) (Kd.C_below HR.out HB.out) hc0 hl (fun wr i x _ _ _ => up_call wr i x)).mono ?_; rintro e w2 ⟨v, rfl, ho2, hb2⟩; have HO := Lib.hid ho2; have HB2 := Lib.hid hb2; clear ho2 hb2))
    all_goals
      go_ret
      exact ⟨_, rfl, Kd.R_lower HO.out HB.out.size, HB.out.trans (HB2.out.mono HB.out.size)⟩
end Go.Proofs.Ytjamociekniepaa.Fn
namespace Go.Proofs.Ytjamociekniepaa.Fn
open Go.RowKit Go.Proofs.YtjamociekniepaaW.PrintWords Go.Proofs.YtjamociekniepaaW.PrintLast Go.Proofs.YtjamociekniepaaW.PrintMore
set_option linter.unusedVariables false
set_option linter.unusedSimpArgs false
set_option maxRecDepth 100000
/-- Another one that has not left? -/
def oth (me : Int) (i : Nat) (x : S26) : Bool := ((i : Int) != me) && (x.f1 != 3)
def table_Others.f (l0 : List (S26)) (a1 : Int) : Option (List Int) := some (if okt l0 = true then plcs (oth a1) l0 0 else [])
set_option maxHeartbeats 400000 in
theorem others_call (wr : World) (bm : Nat) (me : Int) (hcell : wr.cell? ⟨bm, 0, none⟩ = some (.int .i64 me)) (hfr : wr.frozen? ⟨bm, 0, none⟩ = false) (hbm : bm < wr.heap.size) (i : Nat) (x : S26) : Calls Try.prog 51 #[.int .i64 (i : Int), .agg #[.int .u64 x.f0, .int .i64 x.f1], .pointer (some ⟨bm, 0, none⟩)] wr fun e w' => e = .returned (.bool (oth me i x)) ∧ Below wr.heap.size wr w' := by
  obtain ⟨y0, y1⟩ := x
  have hu26 := Try.underlying26
  have hne : bm ≠ wr.heap.size := by omega
  unfold oth
  cases h1 : ((i : Int) != me) with
  | true =>
    go_enter Try.func51, Try.ntmps51
    go_wp2
    all_goals
      go_ret
      exact ⟨by simp [h1], (Below.refl _ wr).alloc (Nat.le_refl _) _⟩
  | false =>
    go_enter Try.func51, Try.ntmps51
    go_wp2
    all_goals
      go_ret
      exact ⟨by simp [h1], (Below.refl _ wr).alloc (Nat.le_refl _) _⟩
set_option maxHeartbeats 400000 in
theorem table_Others.calls (A0 : Option Addr) (c0 : Nat) (l0 : List (S26)) (a1 : Int) (r : List Int) (w : World) (hr0 : Kd.C k26 w A0 l0.length l0) (hc0 : l0.length ≤ c0) (h : table_Others.f l0 a1 = some r) :
    Calls Try.prog 34 #[.slice A0 l0.length c0, .int .i64 a1] w fun e w' => ∃ v0_ : Value, e = .returned (v0_) ∧ Kd.R (Kd.int .i64) 3 w' w.heap.size (fun _ => True) v0_ r ∧ Below w.heap.size w w' := by
  obtain rfl := Option.some.inj h
  clear h
  have hc := tcheck_eq 100 l0 (Nat.le_refl _)
  have hbx : Below w.heap.size w (w.alloc (.cells #[.int .i64 a1] 3)) := (Below.refl _ w).alloc (Nat.le_refl _) _
  have hcl : (w.alloc (.cells #[.int .i64 a1] 3)).cell? ⟨w.heap.size, 0, none⟩ = some (.int .i64 a1) := (blk_cell (blk_new w _) 0).trans rfl
  have hfz : (w.alloc (.cells #[.int .i64 a1] 3)).frozen? ⟨w.heap.size, 0, none⟩ = false := blk_frozen (blk_new w _) 0
  have hsz : (w.alloc (.cells #[.int .i64 a1] 3)).heap.size = w.heap.size + 1 := by simp
  have HR := Lib.hid (Kd.C_below hr0 hbx)
  have HC := Lib.hid hc
  have HX := Lib.hid hbx
  have HL := Lib.hid hcl
  have HF := Lib.hid hfz
  have HS := Lib.hid hsz
  clear hr0 hc hbx hcl hfz hsz
  cases ho : okt l0 with
  | false =>
    rw [ho] at HC
    go_enter Try.func34, Try.ntmps34
    go_wp2_with (go_at_call 27; refine (table_Check.calls 100 A0 c0 l0 1 _ HR.out hc0 HC.out).mono ?_; rintro e w1 ⟨rfl, hb⟩; have HB := Lib.hid (HX.out.trans (hb.mono HX.out.size)); clear hb)
    all_goals
      go_ret
      exact ⟨_, rfl, Kd.R_nil _ _ _ _ _, HB.out⟩
  | true =>
    have hl : l0.length ≤ 64 := by
      unfold okt at ho
      rw [Bool.and_eq_true, decide_eq_true_eq] at ho
      exact ho.1.2
    rw [ho] at HC
    go_enter Try.func34, Try.ntmps34
    go_wp2_with (first | (go_at_call 27; refine (table_Check.calls 100 A0 c0 l0 0 _ HR.out hc0 HC.out).mono ?_; rintro e w1 ⟨rfl, hb⟩; have HB := Lib.hid (HX.out.trans (hb.mono HX.out.size)); have HB1 := Lib.hid hb; clear hb) | (go_at_call 48; refine (places_Others A0 c0 l0 _ w.heap.size (oth a1) (Kd.C_below HR.out HB1.out) hc0 hl (fun wr i x hb _ _ => others_call wr w.heap.size a1 (by rw [((bcell hb).1 _ _ (by have := HB1.out.size; have := HS.out; omega)), ((bcell HB1.out).1 _ _ (by have := HS.out; omega))]; exact HL.out) (by rw [((bcell hb).2 _ _ (by have := HB1.out.size; have := HS.out; omega)), ((bcell HB1.out).2 _ _ (by have := HS.out; omega))]; exact HF.out) (by have := hb.size; have := HB1.out.size; have := HS.out; omega) i x)).mono ?_; rintro e w2 ⟨v, rfl, ho2, hb2⟩; have HO := Lib.hid ho2; have HB2 := Lib.hid hb2; clear ho2 hb2))
    all_goals
      go_ret
      exact ⟨_, rfl, Kd.R_lower HO.out HB.out.size, HB.out.trans (HB2.out.mono HB.out.size)⟩
end Go.Proofs.Ytjamociekniepaa.Fn
namespace Go.Proofs.Ytjamociekniepaa.Fn
open Go.RowKit Go.Proofs.YtjamociekniepaaW.PrintWords Go.Proofs.YtjamociekniepaaW.PrintLast Go.Proofs.YtjamociekniepaaW.PrintMore
set_option linter.unusedVariables false
set_option linter.unusedSimpArgs false
set_option maxRecDepth 100000
/-- Does another table know better? -/
def bhd (o : List S26) (i : Nat) (x : S26) : Bool := btk (rd_T26 o (i : Int)) x
def table_Behind.f (l0 : List (S26)) (l1 : List (S26)) : Option (List Int × Int) := some (if (okt l0 && okt l1 && decide (l0.length = l1.length)) = true then (plcs (bhd l1) l0 0, 0) else ([], 1))
set_option maxHeartbeats 400000 in
theorem behind_call (wr : World) (bm : Nat) (A : Option Addr) (c : Nat) (l : List S26) (hr : Kd.C k26 wr A l.length l) (hcell : wr.cell? ⟨bm, 0, none⟩ = some (.slice A l.length c)) (hfr : wr.frozen? ⟨bm, 0, none⟩ = false) (hbm : bm < wr.heap.size) (i : Nat) (hi : i < l.length) (x : S26) : Calls Try.prog 52 #[.int .i64 (i : Int), .agg #[.int .u64 x.f0, .int .i64 x.f1], .pointer (some ⟨bm, 0, none⟩)] wr fun e w' => e = .returned (.bool (bhd l i x)) ∧ Below wr.heap.size wr w' := by
  obtain ⟨y0, y1⟩ := x
  have hu26 := Try.underlying26
  have hne : bm ≠ wr.heap.size := by omega
  have hbx : Below wr.heap.size wr (wr.alloc (.cells #[.int .u64 y0, .int .i64 y1] 26)) := (Below.refl _ wr).alloc (Nat.le_refl _) _
  obtain ⟨ad, rfl, hx0, hx1⟩ := at_T26 (Kd.C_below hr hbx) (i : Int) (by omega) (by omega)
  rw [Int.toNat_natCast] at hx0 hx1
  have hk := kbeats_eq (rd_T26 l (i : Int)).f0 (rd_T26 l (i : Int)).f1 y0 y1
  unfold bhd
  have HX := Lib.hid hbx
  have HK := Lib.hid hk
  clear hr hbx hk
  generalize rd_T26 l (i : Int) = z at *
  obtain ⟨z0, z1⟩ := z
  go_enter Try.func52, Try.ntmps52
  go_wp2_with fail
  go_region_with (go_at_call 21; refine (know_Beats.calls 3 _ _ _ _ _ _ HK.out).mono ?_; rintro e w1 ⟨rfl, hb⟩; have HB := Lib.hid (HX.out.drew.trans (hb.mono HX.out.size)); clear hb)
  all_goals go_wp2
  all_goals
    go_ret
    exact ⟨rfl, HB.out⟩
set_option maxHeartbeats 800000 in
theorem table_Behind.calls (A0 : Option Addr) (c0 : Nat) (l0 : List (S26)) (A1 : Option Addr) (c1 : Nat) (l1 : List (S26)) (r1 : List Int) (r2 : Int) (w : World) (hr0 : Kd.C k26 w A0 l0.length l0) (hc0 : l0.length ≤ c0) (hr1 : Kd.C k26 w A1 l1.length l1) (hc1 : l1.length ≤ c1) (h : table_Behind.f l0 l1 = some (r1, r2)) :
    Calls Try.prog 38 #[.slice A0 l0.length c0, .slice A1 l1.length c1] w fun e w' => ∃ v0_ : Value, e = .returned (.tuple #[v0_, .int .i64 r2]) ∧ Kd.R (Kd.int .i64) 3 w' w.heap.size (fun _ => True) v0_ r1 ∧ Below w.heap.size w w' := by
  have h := Option.some.inj h
  have hc := tcheck_eq 100 l0 (Nat.le_refl _)
  have hcc := tcheck_eq 100 l1 (Nat.le_refl _)
  have hbx : Below w.heap.size w (w.alloc (.cells #[.slice A1 l1.length c1] 22)) := (Below.refl _ w).alloc (Nat.le_refl _) _
  have hcl : (w.alloc (.cells #[.slice A1 l1.length c1] 22)).cell? ⟨w.heap.size, 0, none⟩ = some (.slice A1 l1.length c1) := (blk_cell (blk_new w _) 0).trans rfl
  have hfz : (w.alloc (.cells #[.slice A1 l1.length c1] 22)).frozen? ⟨w.heap.size, 0, none⟩ = false := blk_frozen (blk_new w _) 0
  have hsz : (w.alloc (.cells #[.slice A1 l1.length c1] 22)).heap.size = w.heap.size + 1 := by simp
  have HR0 := Lib.hid (Kd.C_below hr0 hbx)
  have HR1 := Lib.hid (Kd.C_below hr1 hbx)
  have HC := Lib.hid hc
  have HCC := Lib.hid hcc
  have HX := Lib.hid hbx
  have HL := Lib.hid hcl
  have HF := Lib.hid hfz
  have HS := Lib.hid hsz
  clear hr0 hr1 hc hcc hbx hcl hfz hsz
  cases ho : okt l0 with
  | false =>
    rw [ho] at HC h
    obtain ⟨rfl, rfl⟩ := Prod.mk.inj h
    clear h
    go_enter Try.func38, Try.ntmps38
    go_wp2_with (go_at_call 27; refine (table_Check.calls 100 A0 c0 l0 1 _ HR0.out hc0 HC.out).mono ?_; rintro e w1 ⟨rfl, hb⟩; obtain ⟨hcc1, hff1⟩ := bcell hb; have HB := Lib.hid (HX.out.trans (hb.mono HX.out.size)); clear hb)
    all_goals
      go_ret2
      exact ⟨_, rfl, Kd.R_nil _ _ _ _ _, HB.out⟩
  | true =>
    have hl : l0.length ≤ 64 := by
      unfold okt at ho
      rw [Bool.and_eq_true, decide_eq_true_eq] at ho
      exact ho.1.2
    rw [ho] at HC h
    cases ho1 : okt l1 with
    | false =>
      rw [ho1] at HCC h
      obtain ⟨rfl, rfl⟩ := Prod.mk.inj h
      clear h
      go_enter Try.func38, Try.ntmps38
      go_wp2_with (first | (go_at_call_of 27 A0; refine (table_Check.calls 100 A0 c0 l0 0 _ HR0.out hc0 HC.out).mono ?_; rintro e w1 ⟨rfl, hb⟩; have HB1 := Lib.hid hb; have HCL := Lib.hid (((bcell hb).1 w.heap.size 0 (by have := HS.out; omega)).trans HL.out); have HFR := Lib.hid (((bcell hb).2 w.heap.size 0 (by have := HS.out; omega)).trans HF.out); have hcl1 := HCL.out; have hfr1 := HFR.out; clear hb) | (go_at_call_of 27 A1; refine (table_Check.calls 100 A1 c1 l1 1 _ (Kd.C_below HR1.out HB1.out) hc1 HCC.out).mono ?_; rintro e w2 ⟨rfl, hb⟩; have HB := Lib.hid ((HX.out.trans (HB1.out.mono HX.out.size)).trans (hb.mono (Nat.le_trans HX.out.size HB1.out.size))); clear hb))
      all_goals
        go_ret2
        exact ⟨_, rfl, Kd.R_nil _ _ _ _ _, HB.out⟩
    | true =>
      rw [ho1] at HCC h
      by_cases he : l0.length = l1.length
      · rw [decide_eq_true he] at h
        obtain ⟨rfl, rfl⟩ := Prod.mk.inj h
        clear h
        have hd : ((l0.length : Int) != (l1.length : Int)) = false := by rw [he]; simp
        have hd2 : decide ((l0.length : Int) = (l1.length : Int)) = true := by simp; omega
        have HE := Lib.hid he
        clear he
        go_enter Try.func38, Try.ntmps38
        go_wp2_with (first | (first | (go_at_call_of 27 A0; refine (table_Check.calls 100 A0 c0 l0 0 _ HR0.out hc0 HC.out).mono ?_; rintro e w1 ⟨rfl, hb⟩; have HB1 := Lib.hid hb; have HCL := Lib.hid (((bcell hb).1 w.heap.size 0 (by have := HS.out; omega)).trans HL.out); have HFR := Lib.hid (((bcell hb).2 w.heap.size 0 (by have := HS.out; omega)).trans HF.out); have hcl1 := HCL.out; have hfr1 := HFR.out; clear hb) | (go_at_call_of 27 A1; refine (table_Check.calls 100 A1 c1 l1 0 _ (Kd.C_below HR1.out HB1.out) hc1 HCC.out).mono ?_; rintro e w2 ⟨rfl, hb⟩; have hcl2 := ((bcell hb).1 w.heap.size 0 (by have := HS.out; have := HB1.out.size; omega)).trans HCL.out; have hfr2 := ((bcell hb).2 w.heap.size 0 (by have := HS.out; have := HB1.out.size; omega)).trans HFR.out; have HCL2 := Lib.hid hcl2; have HFR2 := Lib.hid hfr2; have HB2 := Lib.hid (HB1.out.trans (hb.mono HB1.out.size)); clear hb)) | (go_at_call 48; refine (places_Behind A0 c0 l0 _ w.heap.size (bhd l1) (Kd.C_below HR0.out HB2.out) hc0 hl (fun wr i x hb hi _ => behind_call wr w.heap.size A1 c1 l1 (Kd.C_below (Kd.C_below HR1.out HB2.out) hb) (by rw [((bcell hb).1 _ _ (by have := HB2.out.size; have := HS.out; omega))]; exact HCL2.out) (by rw [((bcell hb).2 _ _ (by have := HB2.out.size; have := HS.out; omega))]; exact HFR2.out) (by have := hb.size; have := HB2.out.size; have := HS.out; omega) i (by have := HE.out; omega) x)).mono ?_; rintro e w3 ⟨v, rfl, ho3, hb3⟩; have HO := Lib.hid ho3; have HB3 := Lib.hid hb3; have HBX := Lib.hid (HX.out.trans (HB2.out.mono HX.out.size)); clear ho3 hb3))
        all_goals
          go_ret2
          exact ⟨_, rfl, Kd.R_lower HO.out HBX.out.size, HBX.out.trans (HB3.out.mono HBX.out.size)⟩
      · rw [decide_eq_false he] at h
        obtain ⟨rfl, rfl⟩ := Prod.mk.inj h
        clear h
        have hd : ((l0.length : Int) != (l1.length : Int)) = true := by simp; omega
        have hd2 : decide ((l0.length : Int) = (l1.length : Int)) = false := by simp; omega
        go_enter Try.func38, Try.ntmps38
        go_wp2_with (first | (go_at_call_of 27 A0; refine (table_Check.calls 100 A0 c0 l0 0 _ HR0.out hc0 HC.out).mono ?_; rintro e w1 ⟨rfl, hb⟩; have HB1 := Lib.hid hb; have HCL := Lib.hid (((bcell hb).1 w.heap.size 0 (by have := HS.out; omega)).trans HL.out); have HFR := Lib.hid (((bcell hb).2 w.heap.size 0 (by have := HS.out; omega)).trans HF.out); have hcl1 := HCL.out; have hfr1 := HFR.out; clear hb) | (go_at_call_of 27 A1; refine (table_Check.calls 100 A1 c1 l1 0 _ (Kd.C_below HR1.out HB1.out) hc1 HCC.out).mono ?_; rintro e w2 ⟨rfl, hb⟩; have hcl2 := ((bcell hb).1 w.heap.size 0 (by have := HS.out; have := HB1.out.size; omega)).trans HCL.out; have hfr2 := ((bcell hb).2 w.heap.size 0 (by have := HS.out; have := HB1.out.size; omega)).trans HFR.out; have HB2 := Lib.hid ((HX.out.trans (HB1.out.mono HX.out.size)).trans (hb.mono (Nat.le_trans HX.out.size HB1.out.size))); clear hb))
        all_goals
          go_ret2
          exact ⟨_, rfl, Kd.R_nil _ _ _ _ _, HB2.out⟩
end Go.Proofs.Ytjamociekniepaa.Fn
namespace Go.Proofs.Ytjamociekniepaa.Fn
open Go.RowKit Go.Proofs.YtjamociekniepaaW.PrintWords Go.Proofs.YtjamociekniepaaW.PrintLast Go.Proofs.YtjamociekniepaaW.PrintMore
set_option linter.unusedVariables false
set_option linter.unusedSimpArgs false
set_option maxRecDepth 100000
/-- The first place, and an error. -/
def low (l : List S26) : Int × Int := match fstp upk l 0 with
  | some i => ((i : Int), 0)
  | none => (0, 6)
/-- The first place, or -1. -/
def lowi (l : List S26) : Int := match fstp upk l 0 with
  | some i => (i : Int)
  | none => -1
theorem lowi_some {l : List S26} {i : Nat} (h : fstp upk l 0 = some i) : lowi l = (i : Int) := by unfold lowi; rw [h]
theorem lowi_none {l : List S26} (h : fstp upk l 0 = none) : lowi l = -1 := by unfold lowi; rw [h]
def table_Lowest.f (l0 : List (S26)) : Option (Int × Int) := some (if okt l0 = true then low l0 else (0, 1))
/-- Of what is ahead none, and one more. -/
theorem fstp_snoc (p : S26 → Bool) (x : S26) : ∀ (l m : List S26) (i : Nat), l.any p = false → p x = true → fstp p (l ++ x :: m) i = some (i + l.length)
  | [], m, i, _, hx => by
    rw [List.nil_append, fstp, if_pos hx]; rfl
  | y :: l, m, i, hl, hx => by
    rw [List.any_cons, Bool.or_eq_false_iff] at hl
    rw [List.cons_append, fstp, if_neg (by rw [hl.1]; decide), fstp_snoc p x l m (i + 1) hl.2 hx, List.length_cons]
    congr 1; omega
theorem fstp_none (p : S26 → Bool) : ∀ (l : List S26) (i : Nat), l.any p = false → fstp p l i = none
  | [], i, _ => rfl
  | y :: l, i, hl => by
    rw [List.any_cons, Bool.or_eq_false_iff] at hl
    rw [fstp, if_neg (by rw [hl.1]; decide), fstp_none p l (i + 1) hl.2]
set_option maxHeartbeats 1000000 in
theorem lowest_index (A : Option Addr) (c : Nat) (l : List S26) (w : World) (hr : Kd.C k26 w A l.length l) (hc : l.length ≤ c) (hl : l.length ≤ 64) :
    Calls Try.prog 50 #[.slice A l.length c, .func (.func 25) #[] #[]] w fun e w' => e = .returned (.int .i64 (lowi l)) ∧ Below w.heap.size w w' := by
  have hu26 := Try.underlying26
  have HR := Lib.hid hr
  clear hr
  go_enter Try.func50, Try.ntmps50
  go_wp2_with fail
  go_loopg [8] l.length (fun gg v8 wr => ∃ i : Nat, v8 = .int .i64 (i : Int) ∧ Aside0 (i ≤ l.length) ∧ Aside0 (l.length ≤ gg + i) ∧ Aside0 ((l.take i).any upk = false) ∧ Aside0 (Below w.heap.size w wr))
  case atStart => exact ⟨0, rfl, ⟨Nat.zero_le _⟩, ⟨by omega⟩, ⟨rfl⟩, ⟨Below.refl _ w⟩⟩
  case round =>
    obtain ⟨i, rfl, a1, a2, a3, a4⟩ := hrel
    by_cases hi : i < l.length
    · obtain ⟨ad, rfl, hx0, hx1⟩ := at_T26 (Kd.C_below HR.out a4.out) (i : Int) (by omega) (by omega)
      rw [Int.toNat_natCast] at hx0 hx1
      have hrd : rd_T26 l (i : Int) = l[i] := by simp [rd_T26, hi]
      have hts : l.take (i + 1) = l.take i ++ [rd_T26 l (i : Int)] := by
        rw [List.take_succ_eq_append_getElem hi, hrd]
      have hsp : l = l.take i ++ rd_T26 l (i : Int) :: l.drop (i + 1) := by
        rw [hrd, ← List.drop_eq_getElem_cons hi, List.take_append_drop]
      have hk := kup_eq (rd_T26 l (i : Int))
      have hfs : upk (rd_T26 l (i : Int)) = true → fstp upk l 0 = some i := by
        intro h
        have := fstp_snoc upk _ (l.take i) (l.drop (i + 1)) 0 a3.out h
        rw [← hsp, Nat.zero_add, List.length_take, Nat.min_eq_left (by omega)] at this
        exact this
      have HTS := Lib.hid hts
      have HK := Lib.hid hk
      have HFS := Lib.hid hfs
      clear hts hk hfs hsp hrd
      generalize rd_T26 l (i : Int) = x at *
      obtain ⟨y0, y1⟩ := x
      go_wp2_with fail
      refine (know_Up.calls _ _ _ _ HK.out).mono ?_
      rintro e w1 ⟨rfl, hb⟩
      have HB := Lib.hid (a4.out.trans (hb.mono a4.out.size))
      clear hb
      cases ho : upk ⟨y0, y1⟩ with
      | true =>
        have hf := lowi_some (HFS.out ho)
        have HF := Lib.hid hf
        clear hf
        go_wp2
        all_goals
          go_ret
          exact ⟨by rw [HF.out]; rfl, HB.out⟩
      | false =>
        go_wp2
        all_goals
          go_roundg (l.length - (i + 1))
          case measure => have := a2.out; omega
          case rel =>
            refine ⟨i + 1, by first | rfl | go_num, ⟨hi⟩, ⟨by omega⟩, ⟨?_⟩, ⟨HB.out⟩⟩
            rw [HTS.out, List.any_append, a3.out, List.any_cons, ho]
            rfl
    · have e : i = l.length := by have := a1.out; omega
      subst e
      have h3 := a3.out
      rw [List.take_length] at h3
      have hn := lowi_none (fstp_none upk l 0 h3)
      have HN := Lib.hid hn
      clear hn
      go_wp2
      go_ret
      exact ⟨by rw [HN.out]; rfl, a4.out⟩
set_option maxHeartbeats 400000 in
theorem table_Lowest.calls (A0 : Option Addr) (c0 : Nat) (l0 : List (S26)) (r1 : Int) (r2 : Int) (w : World) (hr0 : Kd.C k26 w A0 l0.length l0) (hc0 : l0.length ≤ c0) (h : table_Lowest.f l0 = some (r1, r2)) :
    Calls Try.prog 32 #[.slice A0 l0.length c0] w fun e w' => e = .returned (.tuple #[.int .i64 r1, .int .i64 r2]) ∧ Below w.heap.size w w' := by
  have h := Option.some.inj h
  have hc := tcheck_eq 100 l0 (Nat.le_refl _)
  have HR := Lib.hid hr0
  have HC := Lib.hid hc
  clear hr0 hc
  cases ho : okt l0 with
  | false =>
    rw [ho] at HC h
    obtain ⟨rfl, rfl⟩ := Prod.mk.inj h
    clear h
    go_enter Try.func32, Try.ntmps32
    go_wp2_with (go_at_call 27; refine (table_Check.calls 100 A0 c0 l0 1 _ HR.out hc0 HC.out).mono ?_; rintro e w1 ⟨rfl, hb⟩; have HB := Lib.hid hb; clear hb)
    all_goals
      go_ret2
      exact ⟨rfl, HB.out⟩
  | true =>
    have hl : l0.length ≤ 64 := by
      unfold okt at ho
      rw [Bool.and_eq_true, decide_eq_true_eq] at ho
      exact ho.1.2
    rw [ho] at HC h
    rw [if_pos rfl] at h
    unfold low at h
    cases hf : fstp upk l0 0 with
    | none =>
      rw [hf] at h
      obtain ⟨rfl, rfl⟩ := Prod.mk.inj h
      have HF := Lib.hid (lowi_none hf)
      clear h hf
      go_enter Try.func32, Try.ntmps32
      go_wp2_with (first | (go_at_call 27; refine (table_Check.calls 100 A0 c0 l0 0 _ HR.out hc0 HC.out).mono ?_; rintro e w1 ⟨rfl, hb⟩; have HB := Lib.hid hb; clear hb) | (go_at_call 50; refine (lowest_index A0 c0 l0 _ (Kd.C_below HR.out HB.out) hc0 hl).mono ?_; rintro e w2 ⟨rfl, hb2⟩; rw [HF.out]; have HB2 := Lib.hid hb2; clear hb2))
      all_goals
        go_ret2
        exact ⟨rfl, HB.out.trans (HB2.out.mono HB.out.size)⟩
    | some i =>
      rw [hf] at h
      obtain ⟨rfl, rfl⟩ := Prod.mk.inj h
      have HF := Lib.hid (lowi_some hf)
      clear h hf
      have c1 : decide ((i : Int) < 0) = false := by simp
      go_enter Try.func32, Try.ntmps32
      go_wp2_with (first | (go_at_call 27; refine (table_Check.calls 100 A0 c0 l0 0 _ HR.out hc0 HC.out).mono ?_; rintro e w1 ⟨rfl, hb⟩; have HB := Lib.hid hb; clear hb) | (go_at_call 50; refine (lowest_index A0 c0 l0 _ (Kd.C_below HR.out HB.out) hc0 hl).mono ?_; rintro e w2 ⟨rfl, hb2⟩; rw [HF.out]; have HB2 := Lib.hid hb2; clear hb2))
      all_goals
        go_ret2
        exact ⟨rfl, HB.out.trans (HB2.out.mono HB.out.size)⟩
end Go.Proofs.Ytjamociekniepaa.Fn
