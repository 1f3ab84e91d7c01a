/- lead.New, by hand: slices.Repeat of one -1. -/
import Derived.Test.YtgfblogneggpmaaFnx0
import Derived.Test.YtgfblogneggpmaaHand
import Derived.BigRegion
import Derived.Deep.LoopGhost
import Derived.Laws.CopyOwn
import Derived.OwnWalk
namespace Go.Proofs.Ytgfblogneggpmaa.Fn
open Go.RowKit Go.Proofs.YtgfblogneggpmaaW.PrintWords Go.Proofs.YtgfblogneggpmaaW.PrintLast Go.Proofs.YtgfblogneggpmaaW.PrintMore
set_option linter.unusedVariables false
set_option linter.unusedSimpArgs false
set_option maxRecDepth 100000
/-- The upper half of a product. -/
def hi_ (a0 a1 : Int) : Int := IntKind.u64.wrap ((IntKind.u64.wrap ((IntKind.u64.wrap ((a0 / 4294967296) * (a1 / 4294967296))) + ((IntKind.u64.wrap ((IntKind.u64.wrap ((a0 / 4294967296) * (Go.bits .and .u64 a1 4294967295))) + ((IntKind.u64.wrap ((Go.bits .and .u64 a0 4294967295) * (Go.bits .and .u64 a1 4294967295))) / 4294967296))) / 4294967296))) + ((IntKind.u64.wrap ((Go.bits .and .u64 (IntKind.u64.wrap ((IntKind.u64.wrap ((a0 / 4294967296) * (Go.bits .and .u64 a1 4294967295))) + ((IntKind.u64.wrap ((Go.bits .and .u64 a0 4294967295) * (Go.bits .and .u64 a1 4294967295))) / 4294967296))) 4294967295) + (IntKind.u64.wrap ((Go.bits .and .u64 a0 4294967295) * (a1 / 4294967296))))) / 4294967296))
theorem hi_small : ∀ n : Fin 65, hi_ 1 ((n.val : Nat) : Int) = 0 := by decide +kernel
set_option maxHeartbeats 400000 in
theorem mul64_any (a0 a1 : Int) (w : World) : Calls Try.prog 81 #[.int .u64 a0, .int .u64 a1] w fun e w' => e = .returned (.tuple #[.int .u64 (hi_ a0 a1), .int .u64 (IntKind.u64.wrap (a0 * a1))]) ∧ Drawn0 w w' := by
  unfold hi_
  go_enter Try.func81, Try.ntmps81
  go_wp2
  go_ret2
  exact ⟨by first | rfl | (simp; done) | (simp [*]; done), by repeat (first | exact Drawn0.refl _ | apply Drawn0.step)⟩
set_option maxHeartbeats 400000 in
theorem mul_any (a0 a1 : Int) (w : World) : Calls Try.prog 66 #[.int .u64 a0, .int .u64 a1] w fun e w' => e = .returned (.tuple #[.int .u64 (hi_ a0 a1), .int .u64 (IntKind.u64.wrap (a0 * a1))]) ∧ Below w.heap.size w w' := by
  go_enter Try.func66, Try.ntmps66
  go_wp2_with (go_at_call 81; refine (mul64_any a0 a1 _).mono ?_; rintro e w1 ⟨rfl, hb⟩; have HB := Lib.hid hb.below; clear hb)
  go_ret2
  exact ⟨rfl, HB.out⟩
theorem mul_small (n : Nat) (h : n < 65) (w : World) : Calls Try.prog 66 #[.int .u64 1, .int .u64 (n : Int)] w fun e w' => e = .returned (.tuple #[.int .u64 0, .int .u64 (n : Int)]) ∧ Below w.heap.size w w' := by
  have h1 := mul_any 1 (n : Int) w
  rw [hi_small ⟨n, h⟩, show IntKind.u64.wrap (1 * (n : Int)) = (n : Int) by simp [IntKind.wrap, IntKind.bits, IntKind.signed]; omega] at h1
  exact h1
/-- So much of a row of n is -1. -/
structure Fill (w : World) (g n m : Nat) : Prop where
  out : ∃ cur : Array Value, w.heap[g]? = some (.cells cur 2 (0, 0)) ∧ cur.size = n ∧ cur.toList.take m = List.replicate m (.int .i64 (-1))
theorem fill_made {w w1 w2 : World} {n : Nat} {xs : List Value} (hb : Below w.heap.size w w1) (hown : w2.ownsRow w.heap.size 2 1 (.slice (some ⟨w1.heap.size, 0, none⟩) n n) n xs) (hg : w1.grownBy w2 none) : Fill w2 w1.heap.size n 0 ∧ Below w.heap.size w w2 := by
  refine ⟨⟨?_⟩, pw_below_grown hb none hb.size hg (fun k hk => by cases hk)⟩
  rcases hown.2 with ⟨h0, _⟩ | ⟨g, cap, cur, hv, _, hh, _, _, h3, _⟩
  · cases h0
  · cases hv
    exact ⟨cur, hh, by omega, by simp⟩
theorem fill_copied {w w2 : World} {g n m k : Nat} {cur : Array Value} (hcur : w2.heap[g]? = some (.cells cur 2 (0, 0))) (hsz : cur.size = n) (ht : cur.toList.take m = List.replicate m (.int .i64 (-1))) (hmk : m + k ≤ n) (hb : Below w.heap.size w w2) (hg : w.heap.size ≤ g) :
    Fill (w2.setRow g (cur.toList.take m ++ List.replicate k (Value.int .i64 (-1)) ++ cur.toList.drop (m + (List.replicate k (Value.int .i64 (-1))).length)).toArray) g n (m + k) ∧ Below w.heap.size w (w2.setRow g (cur.toList.take m ++ List.replicate k (Value.int .i64 (-1)) ++ cur.toList.drop (m + (List.replicate k (Value.int .i64 (-1))).length)).toArray) := by
  refine ⟨⟨_, setRow_heap w2 g cur _ 2 (0, 0) hcur, ?_, ?_⟩, below_setRow hb hg _⟩
  · rw [ht]
    simp
    omega
  · rw [ht, List.replicate_append_replicate]
    exact List.take_left' (by simp)
theorem fill_step {w wr : World} {g n m k : Nat} (hf : Fill wr g n m) (h1 : 1 ≤ m) (hkm : k ≤ m) (hkn : k + m ≤ n) (hb : Below w.heap.size w wr) (hg : w.heap.size ≤ g) (hsz : (Try.prog.info? 2).map (·.size) = some 1) (hk : k = min m (n - m)) :
    ∃ w4, (Builtin.copy_ #[28, 28] 3 #[.slice (some ⟨g, m, none⟩) (n - m) (n - m), .slice (some ⟨g, 0, none⟩) m n]).run Try.prog wr.drew = .ok (.int .i64 (k : Int)) w4 ∧ Fill w4 g n (m + k) ∧ Below w.heap.size w w4 := by
  obtain ⟨cur, hcur, hcs, htk⟩ := hf.out
  have hcur' : wr.drew.heap[g]? = some (.cells cur 2 (0, 0)) := hcur
  have hget : ∀ j, j < m → cur[j]? = some (.int .i64 (-1)) := by
    intro j hj
    have h2 : (cur.toList.take m)[j]? = (List.replicate m (Value.int .i64 (-1)))[j]? := by rw [htk]
    rw [List.getElem?_take_of_lt hj, Array.getElem?_toList, List.getElem?_replicate, if_pos hj] at h2
    exact h2
  have hr := run_copy_row (P := Try.prog) wr.drew 28 28 3 2 g m (n - m) (n - m) ⟨g, 0, none⟩ m n cur 2 (List.replicate k (.int .i64 (-1))) Try.underlying28 hsz hcur' (by rw [List.length_replicate]; exact hk) (by
      intro j v hv
      rw [List.getElem?_replicate] at hv
      by_cases hj : j < k
      · rw [if_pos hj] at hv
        cases hv
        have hadd : (⟨g, 0, none⟩ : Addr).add j = ⟨g, j, none⟩ := by unfold Addr.add; split <;> simp_all
        rw [hadd]
        exact (blk_cell hcur' j).trans (hget j (by omega))
      · rw [if_neg hj] at hv
        cases hv) (by rw [List.length_replicate]; omega) (by simp [Value.oneCell'])
  have hf4 := fill_copied (k := k) hcur' hcs htk (by omega) (below_drew hb) hg
  refine ⟨_, ?_, hf4.1, hf4.2⟩
  rw [hr]
  simp [goInt]
set_option maxHeartbeats 1000000 in
theorem repeat_any (n : Nat) (h1 : 1 ≤ n) (h2 : n ≤ 64) (b c : Nat) (w : World) (hb : b < w.heap.size) (hx : w.cell? ⟨b, 0, none⟩ = some (.int .i64 (-1))) :
    Calls Try.prog 56 #[.slice (some ⟨b, 0, none⟩) 1 c, .int .i64 (n : Int)] w fun e w' => ∃ v, e = .returned v ∧ Kd.R (Kd.int .i64) 2 w' w.heap.size (fun _ => True) v (List.replicate n (-1)) ∧ Below w.heap.size w w' := by
  have c1 : decide ((n : Int) < 0) = false := by simp
  have e1 : IntKind.u64.wrap (n : Int) = (n : Int) := by simp [IntKind.wrap, IntKind.bits, IntKind.signed]; omega
  have e2 : wrap64 (n : Int) = (n : Int) := by unfold wrap64; omega
  have c2 : decide ((9223372036854775807 : Int) < (n : Int)) = false := by simp; omega
  obtain ⟨i2, hi2, hz2⟩ := Option.map_eq_some_iff.1 info2
  simp only [Prod.mk.injEq] at hz2
  obtain ⟨hz, hs, hby⟩ := hz2
  have hsz : (Try.prog.info? 2).map (·.size) = some 1 := by rw [hi2]; simp [hs]
  go_enter Try.func56, Try.ntmps56
  go_wp2_with (first
    | (go_at_call 66; refine (mul_small n (by omega) _).mono ?_; rintro e w1 ⟨rfl, hb1⟩; have HB := Lib.hid hb1; clear hb1)
    | ((with_reducible refine gate_dst (N := 30) rfl ?_); refine wpList_make_full _ (by rfl) (.tmp 29) (.tmp 29) 28 (by rfl) w.heap.size 2 i2 (.int .i64 0) 1 Try.underlying28 hi2 hz hs .i64 .i64 (n : Int) (n : Int) n (by rfl) (by rfl) rfl rfl (by rw [hby]; omega) (by simp [maxLen]; omega) HB.out.size ?_
       intro w2 hown hg2
       have HF := Lib.hid (fill_made HB.out hown hg2).1
       have HB2 := Lib.hid (fill_made HB.out hown hg2).2
       have HGW := Lib.hid HB.out.size
       clear hown hg2 HB
       generalize w1.heap.size = g at *))
  obtain ⟨cur, hcur, hcs, htk⟩ := HF.out.out
  have hx2 : w2.cell? ⟨b, 0, none⟩ = some (.int .i64 (-1)) := ((bcell HB2.out).1 b 0 hb).trans hx
  rw [run_copy_row (P := Try.prog) w2 28 28 3 2 g 0 n n ⟨b, 0, none⟩ 1 c cur 2 (List.replicate 1 (.int .i64 (-1))) Try.underlying28 hsz hcur (by rw [List.length_replicate]; show 1 = min 1 n; omega) (by
      intro j v hv
      cases j with
      | zero => simp at hv; subst hv; exact hx2
      | succ j => simp at hv) (by simp; omega) (by simp [Value.oneCell'])]
  have hf := fill_copied (k := 1) hcur hcs htk (by omega) HB2.out HGW.out
  clear hcur htk HF HB2
  generalize w2.setRow g (cur.toList.take 0 ++ List.replicate 1 (Value.int .i64 (-1)) ++ cur.toList.drop (0 + (List.replicate 1 (Value.int .i64 (-1))).length)).toArray = w3 at hf ⊢
  have HF := Lib.hid hf.1
  have HB2 := Lib.hid hf.2
  clear hf hx2 hcs
  clear cur
  go_wp2_with fail
  go_loopg [8] n (fun gg v8 wr => ∃ m : Nat, v8 = .int .i64 (m : Int) ∧ Aside0 (1 ≤ m) ∧ Aside0 (m ≤ n) ∧ Aside0 (n ≤ gg + m) ∧ Aside0 (Fill wr g n m) ∧ Aside0 (Below w.heap.size w wr))
  case atStart => exact ⟨1, rfl, ⟨Nat.le_refl _⟩, ⟨h1⟩, ⟨by omega⟩, ⟨HF.out⟩, ⟨HB2.out⟩⟩
  case round =>
    obtain ⟨m, rfl, a1, a2, a3, a4, a5⟩ := hrel
    by_cases hm : m < n
    · have ha1 := a1.out
      have c5 : decide ((m : Int) < (n : Int)) = true := by simpa using hm
      obtain ⟨k, hk⟩ : ∃ k : Nat, k = min m (n - m) := ⟨_, rfl⟩
      have hf := fill_step a4.out (k := k) ha1 (by omega) (by omega) a5.out HGW.out hsz (by rw [hk])
      obtain ⟨w4, hcp, hf4, hb4⟩ := hf
      have HF4 := Lib.hid hf4
      have HB4 := Lib.hid hb4
      have hk1 : 1 ≤ k ∧ k + m ≤ n := by omega
      have e3 : wrap64 ((m : Int) + (k : Int)) = (m : Int) + (k : Int) := by unfold wrap64; omega
      have HK := Lib.hid hk1
      clear hf4 hb4 hk hk1
      go_wp2
      go_region
      all_goals go_wp2
      all_goals
        go_roundg (n - (m + k))
        case measure => have := a3.out; have := HK.out; omega
        case rel =>
          have := HK.out
          exact ⟨m + k, by first | rfl | go_num | (simp; done), ⟨by omega⟩, ⟨by omega⟩, ⟨by omega⟩, ⟨HF4.out⟩, ⟨HB4.out⟩⟩
    · have e : m = n := by have := a2.out; omega
      subst e
      go_wp2
      go_ret
      refine ⟨_, rfl, ?_, a5.out⟩
      obtain ⟨cur, hcur, hcs, htk⟩ := a4.out.out
      refine Kd.R_of_own ⟨by simp [encs], .inr ⟨g, m, cur, by simp, HGW.out, hcur, by simp, by simp [maxLen]; omega, by omega, ?_⟩⟩ (fun _ _ => trivial)
      rw [Nat.mul_one, List.length_replicate, htk]
      simp [encs]
def lead_New.f (a0 : Int) : Option (Int × List Int × Int) := if 1 ≤ a0 ∧ a0 ≤ 64 then some (0, List.replicate a0.toNat (-1), 0) else some (0, [], 1)
set_option maxHeartbeats 400000 in
theorem new_bad (a0 : Int) (w : World) (h : a0 < 1 ∨ 64 < a0) :
    Calls Try.prog 25 #[.int .i64 a0] w fun e w' => e = .returned (.tuple #[.agg #[.int .u64 0, .slice none 0 0], .int .i64 1]) ∧ Below w.heap.size w w' := by
  have hu52 := Try.underlying52
  rcases h with h | h
  · have c1 : decide (a0 < 1) = true := by simpa using h
    go_enter Try.func25, Try.ntmps25
    go_wp2
    all_goals
      refine bodyPost_ret (v := .tuple #[.agg #[.int .u64 0, .slice none 0 0], .int .i64 1]) (by simp [results, Try.results25, go_sem]) rfl ⟨rfl, ?_⟩
      exact (Below.refl _ w).alloc (Nat.le_refl _) _
  · have c1 : decide (a0 < 1) = false := by simp; omega
    have c2 : decide (64 < a0) = true := by simpa using h
    go_enter Try.func25, Try.ntmps25
    go_wp2
    all_goals
      refine bodyPost_ret (v := .tuple #[.agg #[.int .u64 0, .slice none 0 0], .int .i64 1]) (by simp [results, Try.results25, go_sem]) rfl ⟨rfl, ?_⟩
      exact (Below.refl _ w).alloc (Nat.le_refl _) _
set_option maxHeartbeats 400000 in
theorem new_good (n : Nat) (w : World) (h1 : 1 ≤ n) (h2 : n ≤ 64) :
    Calls Try.prog 25 #[.int .i64 (n : Int)] w fun e w' => ∃ v : Value, e = .returned (.tuple #[.agg #[.int .u64 0, v], .int .i64 0]) ∧ Kd.R (Kd.int .i64) 2 w' w.heap.size (fun _ => True) v (List.replicate n (-1)) ∧ Below w.heap.size w w' := by
  have hu52 := Try.underlying52
  have c1 : decide ((n : Int) < 1) = false := by simp; omega
  have c2 : decide ((64 : Int) < (n : Int)) = false := by simp; omega
  go_enter Try.func25, Try.ntmps25
  go_wp2_with (go_at_call 56; refine (repeat_any n h1 h2 _ _ _ (by simp) (by simp)).mono ?_; rintro e w1 ⟨v, rfl, ho, hb⟩; obtain ⟨hc, hf⟩ := bcell hb; have HB := Lib.hid hb; have HO := Lib.hid ho; obtain ⟨A2, c2_, rfl⟩ := Kd.R_slice ho; clear hb ho)
  have hz : w.heap.size < w1.heap.size := by have := HB.out.size; simp at this; omega
  have a0 : w1.cell? ⟨w.heap.size, 0, none⟩ = some (.int .u64 0) := by rw [hc _ _ (by simp; omega)]; simp [go_sem]
  have a1 : w1.cell? ⟨w.heap.size, 1, none⟩ = some (.slice none 0 0) := by rw [hc _ _ (by simp; omega)]; simp [go_sem]
  have ho2 := Kd.R_lower (Kd.R_bound HO.out) (show w.heap.size ≤ ((w.alloc (Obj.cells #[Value.int IntKind.u64 0, Value.slice none 0 0] 52)).alloc (Obj.cells #[Value.int IntKind.i64 (-1)] 2)).heap.size by simp; omega)
  have ho3 := Kd.R_mono ho2 (ok' := fun k => k ≠ w.heap.size) (fun k hk => by have := hk.2.1; simp at this; omega)
  rw [List.length_replicate] at ho3
  refine bodyPost_ret (v := .tuple #[.agg #[.int .u64 0, .slice A2 n c2_], .int .i64 0]) (by simp [results, Try.results25, go_sem, a0, a1, hz]) rfl ⟨_, rfl, ?_, ?_⟩
  · exact Kd.R_mono (Kd.R_far (p := ⟨w.heap.size, 1, none⟩) (Kd.R_far (p := ⟨w.heap.size, 0, none⟩) ho3 (fun _ h => h) _) (fun _ h => h) _) (fun _ _ => trivial)
  · exact (((((Below.refl _ w).alloc (Nat.le_refl _) _).alloc (by simp) _).trans (HB.out.mono (by simp; omega))).setCell (p := ⟨w.heap.size, 0, none⟩) (Nat.le_refl _) _).setCell (p := ⟨w.heap.size, 1, none⟩) (Nat.le_refl _) _
theorem lead_New.calls (a0 : Int) (r1 : Int) (r2 : List Int) (r3 : Int) (w : World) (h : lead_New.f a0 = some (r1, r2, r3)) :
    Calls Try.prog 25 #[.int .i64 a0] w fun e w' => ∃ v1_ : Value, e = .returned (.tuple #[.agg #[.int .u64 r1, v1_], .int .i64 r3]) ∧ Kd.R (Kd.int .i64) 2 w' w.heap.size (fun _ => True) v1_ r2 ∧ Below w.heap.size w w' := by
  unfold lead_New.f at h
  by_cases hg : 1 ≤ a0 ∧ a0 ≤ 64
  · rw [if_pos hg] at h
    simp only [Option.some.injEq, Prod.mk.injEq] at h
    obtain ⟨rfl, rfl, rfl⟩ := h
    obtain ⟨n, rfl⟩ := Int.eq_ofNat_of_zero_le (show 0 ≤ a0 by omega)
    rw [Int.toNat_natCast]
    exact new_good n w (by omega) (by omega)
  · rw [if_neg hg] at h
    simp only [Option.some.injEq, Prod.mk.injEq] at h
    obtain ⟨rfl, rfl, rfl⟩ := h
    exact (new_bad a0 w (by omega)).mono fun e w' ⟨he, hb⟩ => ⟨_, he, Kd.R_nil _ _ _ _ _, hb⟩
end Go.Proofs.Ytgfblogneggpmaa.Fn
