/- A heap of timers in memory: all of it taken, one by one, by hand. -/
import Derived.Test.YtahppppkepcbkaaFnx0
import Derived.Test.YtahppppkepcbkaaHq6
namespace Go.Proofs.Ytahppppkepcbkaa.Fn
open Go.RowKit Go.Proofs.YtahppppkepcbkaaW.PrintWords Go.Proofs.YtahppppkepcbkaaW.PrintLast Go.Proofs.YtahppppkepcbkaaW.PrintMore Go.Proofs.Ytahppppkepcbkaa.Tm
set_option linter.unusedVariables false
set_option linter.unusedSimpArgs false
set_option maxRecDepth 100000
theorem make0 (n : Nat) (hn : n ≤ 300) (W : World) : (Instr.makeSlice 54 (.int .i64 0) (.int .i64 (n : Int))).run Try.prog W = .ok (.slice (some ⟨W.heap.size, 0, none⟩) 0 n) (W.alloc (.cells (madeCells #[.int .i64 0, .int .i64 0, .int .i64 0, .int .u64 0] (n * 4)) 52)) := by
  obtain ⟨i0, hi, hzz⟩ := Option.map_eq_some_iff.1 info52
  simp only [Prod.mk.injEq] at hzz
  obtain ⟨hz0, hz1, hz2⟩ := hzz
  have hr := run_make (P := Try.prog) W 54 52 i0 (.agg #[(.int .i64 0), (.int .i64 0), (.int .i64 0), (.int .u64 0)]) Try.underlying54 hi hz0 .i64 .i64 0 (n : Int) (by omega) (by omega) (by rw [hz2]; omega) (by omega)
  rw [hz1] at hr
  exact hr
theorem R_made (W : World) (base : Nat) (hb : base ≤ W.heap.size) (ok : Nat → Prop) (hok : ok W.heap.size) (n : Nat) (hn : n ≤ 300) :
    Kd.R k52 52 (W.alloc (.cells (madeCells #[.int .i64 0, .int .i64 0, .int .i64 0, .int .u64 0] (n * 4)) 52)) base ok (.slice (some ⟨W.heap.size, 0, none⟩) 0 n) [] := by
  have h : Kd.R k52 52 (W.alloc (.cells (madeCells #[.int .i64 0, .int .i64 0, .int .i64 0, .int .u64 0] (n * 4)) 52)) base ok (.slice (some ⟨W.heap.size, 0, none⟩) n n) (List.replicate n z52) := by
    refine ⟨fun k hk => ?_, (madeCells #[.int .i64 0, .int .i64 0, .int .i64 0, .int .u64 0] (n * 4)).toList, ?_, ?_⟩
    · have : W.heap.size = k := by simpa [Value.ownBlock] using hk
      subst this
      exact hok
    · have h2 := World.ownsRow_lit (base := base) (e := 52) (size := 4) W (madeCells #[.int .i64 0, .int .i64 0, .int .i64 0, .int .u64 0] (n * 4)) n hb (by simp [maxLen]; omega) (by simp [size_madeCells])
      rw [List.length_replicate]
      exact h2
    · exact Kd.reps_made (z := .agg #[.int .i64 0, .int .i64 0, .int .i64 0, .int .u64 0]) (size := 4) (z0 := z52) rfl (by decide) (k52_mkM _ _ _ z52) n
  have := Kd.R_take h (m := 0) (Nat.zero_le _)
  rwa [List.take_zero] at this
theorem R_tight {W : World} {base g n c : Nat} {ok : Nat → Prop} {l : List S52} (h : Kd.R k52 52 W base ok (.slice (some ⟨g, 0, none⟩) n c) l) : Kd.R k52 52 W base (fun k => k = g) (.slice (some ⟨g, 0, none⟩) n c) l :=
  ⟨fun k hk => by have : g = k := by simpa [Value.ownBlock] using hk
                  exact this.symm, h.2.imp_ (fun p cs hp => by obtain rfl := k52_openM hp; exact k52_mkM _ _ _ p)⟩
theorem qpop_length {m : Nat} {l : List S52} (h : l.length = m + 1) : (qpop m l).length = m + 1 := by unfold qpop; rw [dwn_len, swp_len, h]
theorem QW.row_lt {w0 wA W : World} {bq g g' n c : Nat} {l : List S52} (h : QW w0 wA W bq g' (.slice (some ⟨g, 0, none⟩) n c) l) : g < W.heap.size := Kd.R_lt h.row g rfl
/-- Behind an append to another row. -/
theorem QW.after {w0 wA W W' : World} {bq g n c : Nat} {l o : List S52} {v : Value} (h : QW w0 wA W bq g (.slice (some ⟨g, 0, none⟩) n c) l) (hr : Kd.R k52 52 W w0.heap.size (fun k => k ≠ bq ∧ k ≠ g) v o) (hb : Below w0.heap.size w0 W') (hG : W.grownBy W' v.ownBlock) : QW w0 W' W' bq g (.slice (some ⟨g, 0, none⟩) n c) l :=
  ⟨blk_grown h.blk hG (Kd.R_away hr (fun k hk => hk.1)), Kd.R_mono (Kd.R_step (R_tight h.row) (fun k hk hl => by subst hk; exact hG.block k hl (Kd.R_away hr (fun k hk => hk.2)))) (fun k hk => by subst hk; exact h.row.1 k rfl), h.ge, hb, KeepBut.refl _ _ _⟩
/-- What is taken out, one by one. -/
def qal : Nat → List S52 → List S52
  | 0, _ => []
  | n + 1, l => Tm.g (qpop n l) n :: qal n ((qpop n l).take n)
theorem qal_eq : ∀ (n : Nat) (l : List S52), l.length = n → Hp 0 n l → qal n l = qall n l
  | 0, _, _, _ => rfl
  | n + 1, l, hl, h => by
    obtain ⟨q1, q2, q3, q4⟩ := qpop_all hl h
    rw [qal, qall, q4, qal_eq n _ (by rw [List.length_take]; omega) q3]
set_option maxHeartbeats 1000000 in
theorem qall_any (w0 W : World) (bq g : Nat) (A : Option Addr) (c n : Nat) (l : List S52) (hA : 0 < n → A = some ⟨g, 0, none⟩) (hgb : 0 < n → g ≠ bq) (hgl : g < W.heap.size) (hl : l.length = n) (hq : QW w0 W W bq g (.slice A n c) l) (hm : n ≤ 299) :
    Calls Try.prog 54 #[.pointer (some ⟨bq, 0, none⟩)] W fun e W' => ∃ v, e = .returned v ∧ Kd.R k52 52 W' w0.heap.size (fun _ => True) v (qal n l) ∧ Below w0.heap.size w0 W' := by
  have hu54 := Try.underlying54
  have hu92 := Try.underlying92
  have hg0 : W.cell? ⟨bq, 0, none⟩ = some (.slice A n c) := (blk_cell hq.blk 0).trans rfl
  have hgf := blk_frozen hq.blk 0
  have hmk := make0 n (by omega)
  have HL := Lib.hid hl
  have HA := Lib.hid hA
  have HGL := Lib.hid hgl
  have HBQ := Lib.hid hq.lt
  have HR0 := Lib.hid (R_made W w0.heap.size hq.bel.size (fun k => k ≠ bq ∧ k ≠ g) ⟨Nat.ne_of_gt hq.lt, Nat.ne_of_gt hgl⟩ n (by omega))
  have HQ0 := Lib.hid ((hq.alloc (.cells (madeCells #[.int .i64 0, .int .i64 0, .int .i64 0, .int .u64 0] (n * 4)) 52)).anew g)
  have HN := Lib.hid hm
  clear hq hl hA hgl hm
  go_enter Try.func54, Try.ntmps54
  go_wp2_with fail
  clear hmk hg0 hgf
  go_loopg [3] n (fun gg v3 wr => ∃ (m : Nat) (l' o : List S52), Aside0 (m ≤ gg) ∧ Aside0 (m ≤ n) ∧ Aside0 (l'.length = m) ∧ Aside0 (o ++ qal m l' = qal n l) ∧ Aside0 (o.length + m = n) ∧ Aside0 (QW w0 wr wr bq g (.slice A m c) l') ∧ Aside0 (Kd.R k52 52 wr w0.heap.size (fun k => k ≠ bq ∧ k ≠ g) v3 o))
  case atStart => exact ⟨n, l, [], ⟨Nat.le_refl _⟩, ⟨Nat.le_refl _⟩, ⟨HL.out⟩, ⟨rfl⟩, ⟨Nat.zero_add _⟩, ⟨HQ0.out⟩, ⟨HR0.out⟩⟩
  case round =>
    obtain ⟨m, l', o, a1, a2, a3, a4, a5, a6, a7⟩ := hrel
    have hg0 : wr.cell? ⟨bq, 0, none⟩ = some (.slice A m c) := (blk_cell a6.out.blk 0).trans rfl
    obtain ⟨A3, c3, rfl⟩ := Kd.R_slice a7.out
    cases m with
    | zero =>
      go_wp2_with (go_at_call 68; refine (qlen_any w0 wr _ bq g A 0 c l' a6.out).mono ?_; rintro e w1 ⟨rfl, hq1, hg1⟩; have HQ1 := Lib.hid hq1; clear hq1)
      all_goals
        go_ret
        have hr := a4.out
        rw [qal, List.append_nil] at hr
        refine ⟨_, rfl, ?_, HQ1.out.bel⟩
        rw [← hr]
        exact Kd.R_mono (Kd.R_step a7.out (fun k hk hl => HQ1.out.keep.2 k hl hk.1 (fun e => hk.2 (by injection e)))) (fun _ _ => trivial)
    | succ m =>
      have hAg := HA.out (by have := a2.out; omega)
      subst hAg
      have hc : decide ((0 : Int) < ((m + 1 : Nat) : Int)) = true := by simp
      go_wp2_with (first
        | (go_at_call 68
           refine (qlen_any w0 wr _ bq g _ (m + 1) c l' a6.out).mono ?_
           rintro e w1 ⟨rfl, hq1, hg1⟩
           have HQ1 := Lib.hid hq1
           clear hq1 hg1)
        | (go_at_call 69
           refine (qhpop_any w0 wr _ bq g c m l' HQ1.out a3.out (by have := a2.out; have := HN.out; omega)).mono ?_
           rintro e w2 ⟨rfl, hq2⟩
           obtain ⟨x0, x1, x2, x3, hx⟩ : ∃ x0 x1 x2 x3, Tm.g (qpop m l') m = ⟨x0, x1, x2, x3⟩ := ⟨_, _, _, _, rfl⟩
           rw [hx]
           unfold tv
           have hta := fun W => ta52 (.agg #[.int .i64 x0, .int .i64 x1, .int .i64 x2, .int .u64 x3]) W
           have HR2 := Lib.hid (Kd.R_step a7.out (w1 := w2) (fun k hk hl => hq2.keep.2 k hl hk.1 (fun e => hk.2 (by injection e))))
           have HX := Lib.hid hx
           have HQ2 := Lib.hid hq2
           clear hq2 hx)
        | ((with_reducible refine gate_builtin (b := .append) (xs := #[.tmp 14, .tmp 19]) rfl ?_)
           at_builtin
           refine Kd.R_append k52 (w0 := w0) (W := w2) w0.heap.size rfl (.tmp 14) (.tmp 19) 54 52 (.agg #[(.int .i64 0), (.int .i64 0), (.int .i64 0), (.int .u64 0)]) 32 rfl Try.underlying54 info52 rfl (by decide) (by omega) (.slice A3 o.length c3) o ⟨x0, x1, x2, x3⟩ [.int .i64 x0, .int .i64 x1, .int .i64 x2, .int .u64 x3] (fun k => k ≠ bq ∧ k ≠ g) (fun _ => False) rfl rfl (k52_mkM _ _ _ ⟨x0, x1, x2, x3⟩) (fun _ hk => hk.elim) (fun k hk => ⟨Nat.ne_of_gt (Nat.lt_of_lt_of_le HQ2.out.lt hk), Nat.ne_of_gt (Nat.lt_of_lt_of_le (HQ2.out.row_lt) hk)⟩) HR2.out HQ2.out.bel HQ2.out.bel.size (by have := a5.out; have := HN.out; omega) ?_
           intro v4 w4 ho4 hb4 hG4 hat4
           have HQ4 := Lib.hid (QW.after HQ2.out HR2.out hb4 hG4)
           have HR4 := Lib.hid ho4
           clear hb4 hG4 hat4 ho4))
      all_goals
        go_roundg m
        case measure => have := a1.out; omega
        case rel => exact ⟨m, (qpop m l').take m, o ++ [⟨x0, x1, x2, x3⟩], ⟨Nat.le_refl _⟩, ⟨by have := a2.out; omega⟩, ⟨by rw [List.length_take]; have := qpop_length a3.out; omega⟩, ⟨by rw [← a4.out, qal, HX.out, List.append_assoc]; rfl⟩, ⟨by have := a5.out; simp; omega⟩, ⟨HQ4.out⟩, ⟨HR4.out⟩⟩
end Go.Proofs.Ytahppppkepcbkaa.Fn
