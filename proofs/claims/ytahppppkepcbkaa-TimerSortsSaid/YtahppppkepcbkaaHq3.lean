/- A queue of timers in memory: Pop and Push by hand. -/
import Derived.Test.YtahppppkepcbkaaFnx0
import Derived.Test.YtahppppkepcbkaaHq2
import Derived.Deep.RegionLaw
namespace Go.Proofs.Ytahppppkepcbkaa.Fn
open Go.RowKit Go.Proofs.YtahppppkepcbkaaW.PrintWords Go.Proofs.YtahppppkepcbkaaW.PrintLast Go.Proofs.YtahppppkepcbkaaW.PrintMore Go.Proofs.Ytahppppkepcbkaa.Tm
set_option linter.unusedVariables false
set_option linter.unusedSimpArgs false
set_option maxRecDepth 100000
/-- A timer, as a value. -/
def tv (x : S52) : Value := .agg #[.int .i64 x.f0, .int .i64 x.f1, .int .i64 x.f2, .int .u64 x.f3]
theorem QW.lt {w0 wA W : World} {bq g : Nat} {v : Value} {l : List S52} (h : QW w0 wA W bq g v l) : bq < W.heap.size := blk_lt h.blk
theorem QW.boxed {w0 wA W : World} {bq g : Nat} {v v' : Value} {l' : List S52} (hb : W.heap[bq]? = some (.cells #[v] 92 (0, 0))) (hr : Kd.R k52 52 W w0.heap.size (fun k => k ≠ bq) v' l') (ge : w0.heap.size ≤ bq) (bel : Below w0.heap.size w0 W) (keep : KeepBut wA W bq (some g)) : QW w0 wA (W.setCell ⟨bq, 0, none⟩ v') bq g v' l' :=
  ⟨by have := blk_set hb 0 v'; simpa using this, Kd.R_set hr hb (by decide) 0 v', ge, bel.setCell ge _, keep.set_ 0 v'⟩
theorem QW.rebox {w0 wA W : World} {bq g : Nat} {v v' : Value} {l l' : List S52} (h : QW w0 wA W bq g v l) (hr : Kd.R k52 52 W w0.heap.size (fun k => k ≠ bq) v' l') : QW w0 wA (W.setCell ⟨bq, 0, none⟩ v') bq g v' l' := QW.boxed h.blk hr h.ge h.bel h.keep
theorem QW.alloc {w0 wA W : World} {bq g : Nat} {v : Value} {l : List S52} (h : QW w0 wA W bq g v l) (o : Obj) : QW w0 wA (W.alloc o) bq g v l := h.below ((Below.refl _ W).alloc (Nat.le_refl _) o)
theorem ta52 (v : Value) (W : World) : (Instr.typeAssert (.iface 52 v) 20 52 false).run Try.prog W = .ok v W := by kernel_rfl
set_option maxHeartbeats 1000000 in
theorem qpop_any (w0 wA W : World) (bq g c n : Nat) (l : List S52) (hq : QW w0 wA W bq g (.slice (some ⟨g, 0, none⟩) (n + 1) c) l) (hl : l.length = n + 1) (hm : n < 1000) :
    Calls Try.prog 93 #[.pointer (some ⟨bq, 0, none⟩)] W fun e W' => e = .returned (.iface 52 (tv (Tm.g l n))) ∧ QW w0 wA W' bq g (.slice (some ⟨g, 0, none⟩) n c) (l.take n) := by
  have hu52 := Try.underlying52
  have hu92 := Try.underlying92
  obtain ⟨⟨hx0, hx1, hx2, hx3⟩, hxf⟩ := get52 hq.row n (by omega)
  have hg0 : W.cell? ⟨bq, 0, none⟩ = some (.slice (some ⟨g, 0, none⟩) (n + 1) c) := (blk_cell hq.blk 0).trans rfl
  have hgf := blk_frozen hq.blk 0
  have hlt := hq.lt
  have hnc := (Kd.R_reads' hq.row).2.1
  obtain ⟨g', cap', e', hge, hgl, _⟩ := Kd.R_form hq.row (by omega)
  injection e' with e1 e2 e3
  injection e1 with e1
  injection e1 with e1
  subst e1
  have HGE := Lib.hid hge
  clear e2 e3 hge
  have HL := Lib.hid hl
  have HQ := Lib.hid hq
  have HX := Lib.hid hxf
  clear hq hxf hl
  unfold tv
  generalize hgx : Tm.g l n = x at *
  obtain ⟨x0, x1, x2, x3⟩ := x
  have hz : QW w0 wA ((W.setCell ⟨bq, 0, none⟩ (.slice (some ⟨g, 0, none⟩) n c)).alloc (.cells #[.int .i64 x0, .int .i64 x1, .int .i64 x2, .int .u64 x3] 52)) bq g (.slice (some ⟨g, 0, none⟩) n c) (l.take n) :=
    (HQ.out.rebox (Kd.R_take HQ.out.row (by have := HL.out; omega))).alloc _
  have HZ := Lib.hid hz
  clear hz
  have hne1 : g ≠ W.heap.size := by omega
  have hne2 : bq ≠ W.heap.size := by omega
  have hne3 : W.heap.size ≠ g := by omega
  have hne4 : W.heap.size ≠ bq := by omega
  have hnc' : n ≤ c := by omega
  have hnc2 : (n : Int) ≤ (c : Int) := by omega
  go_enter Try.func93, Try.ntmps93
  go_wp2_with fail
  all_goals
    go_ret
    exact ⟨rfl, HZ.out⟩
set_option maxHeartbeats 1000000 in
theorem qpush_any (w0 wA W : World) (bq g : Nat) (v : Value) (l : List S52) (x : S52) (hq : QW w0 wA W bq g v l) (hm : l.length < 1000) :
    Calls Try.prog 94 #[.pointer (some ⟨bq, 0, none⟩), .iface 52 (tv x)] W fun e W' => e = .returned (.tuple #[]) ∧ ∃ v', ∀ g', QW w0 W' W' bq g' v' (l ++ [x]) := by
  have hu52 := Try.underlying52
  have hu92 := Try.underlying92
  have hg0 : W.cell? ⟨bq, 0, none⟩ = some v := (blk_cell hq.blk 0).trans rfl
  have hgf := blk_frozen hq.blk 0
  have hlt := hq.lt
  obtain ⟨A, c, rfl⟩ := Kd.R_slice hq.row
  have HQ := Lib.hid hq
  clear hq
  unfold tv
  obtain ⟨x0, x1, x2, x3⟩ := x
  have hne4 : W.heap.size ≠ bq := by omega
  have hta := fun W => ta52 (.agg #[.int .i64 x0, .int .i64 x1, .int .i64 x2, .int .u64 x3]) W
  go_enter Try.func94, Try.ntmps94
  go_wp2_with fail
  go_region_law (first
    | (refine Kd.R_append_step k52 (w0 := w0) (W := W.drew) w0.heap.size (by rfl) (.tmp 7) (.tmp 10) 92 52 (.agg #[(.int .i64 0), (.int .i64 0), (.int .i64 0), (.int .u64 0)]) 32 (by rfl) Try.underlying92 info52 (by rfl) (by decide) (by omega) (.slice A l.length c) l ⟨x0, x1, x2, x3⟩ [.int .i64 x0, .int .i64 x1, .int .i64 x2, .int .u64 x3] (fun k => k ≠ bq) (fun _ => False) (by rfl) (by rfl) (k52_mkM _ _ _ ⟨x0, x1, x2, x3⟩) (fun _ h => h.elim) (fun k hk => Nat.ne_of_gt (Nat.lt_of_lt_of_le hlt hk)) (Kd.R_drew HQ.out.row) (HQ.out.bel.drew) HQ.out.bel.size (by omega) ?_
       intro v1 w1 hR1 hB1 hG1 hA1
       have hblk1 := blk_grown (blk_drew HQ.out.blk) hG1 (Kd.R_away HQ.out.row (fun k hk => hk))
       obtain ⟨A1, c1, rfl⟩ := Kd.R_slice hR1
       have hx1 : w1.cell? ⟨bq, 0, none⟩ = some (.slice A l.length c) := (blk_cell hblk1 0).trans rfl
       have hf1 := blk_frozen hblk1 0))
  all_goals go_wp2
  all_goals
    go_end0
    rw [List.length_append, List.length_singleton] at hR1
    exact ⟨rfl, _, fun g' => (QW.boxed (wA := w1) (g := g') hblk1 hR1 HQ.out.ge hB1 (KeepBut.refl _ _ _)).anew g'⟩
end Go.Proofs.Ytahppppkepcbkaa.Fn
