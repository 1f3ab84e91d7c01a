/- A queue of timers in memory: Swap, Pop, Push by hand. -/
import Derived.Test.YtahppppkepcbkaaFnx0
import Derived.Test.YtahppppkepcbkaaHq
namespace Go.Proofs.Ytahppppkepcbkaa.Fn
open Go.RowKit Go.Proofs.YtahppppkepcbkaaW.PrintWords Go.Proofs.YtahppppkepcbkaaW.PrintLast Go.Proofs.YtahppppkepcbkaaW.PrintMore Go.Proofs.Ytahppppkepcbkaa.Tm
set_option linter.unusedVariables false
set_option linter.unusedSimpArgs false
set_option maxRecDepth 100000
/-- A queue lies in memory: its own block, and its row; since world wA nothing else was written. -/
structure QW (w0 wA W : World) (bq g : Nat) (v : Value) (l : List S52) : Prop where
  blk : W.heap[bq]? = some (.cells #[v] 92 (0, 0))
  row : Kd.R k52 52 W w0.heap.size (fun k => k ≠ bq) v l
  ge : w0.heap.size ≤ bq
  bel : Below w0.heap.size w0 W
  keep : KeepBut wA W bq (some g)
theorem QW.drew {w0 wA W : World} {bq g : Nat} {v : Value} {l : List S52} (h : QW w0 wA W bq g v l) : QW w0 wA W.drew bq g v l := ⟨blk_drew h.blk, Kd.R_drew h.row, h.ge, h.bel.drew, keep_drew h.keep⟩
theorem QW.below {w0 wA W W' : World} {bq g : Nat} {v : Value} {l : List S52} (h : QW w0 wA W bq g v l) (hb : Below W.heap.size W W') : QW w0 wA W' bq g v l := ⟨blk_below h.blk hb, Kd.R_below h.row hb, h.ge, below_step h.bel hb, h.keep.trans (KeepBut.of_below hb bq (some g)) (.inl rfl)⟩
theorem QW.anew {w0 wA W : World} {bq g : Nat} {v : Value} {l : List S52} (h : QW w0 wA W bq g v l) (g' : Nat) : QW w0 W W bq g' v l := ⟨h.blk, h.row, h.ge, h.bel, KeepBut.refl W bq (some g')⟩
/-- Timer x is stored. -/
def st4 (W : World) (g i : Nat) (x : S52) : World := (((W.setCell ⟨g, i * 4, none⟩ (.int .i64 x.f0)).setCell ⟨g, i * 4 + 1, none⟩ (.int .i64 x.f1)).setCell ⟨g, i * 4 + 2, none⟩ (.int .i64 x.f2)).setCell ⟨g, i * 4 + 3, none⟩ (.int .u64 x.f3)
theorem get52 {W : World} {base g n cap : Nat} {ok : Nat → Prop} {xs : List S52} (h : Kd.R k52 52 W base ok (.slice (some ⟨g, 0, none⟩) n cap) xs) (i : Nat) (hi : i < n) :
    (W.cell? ⟨g, i * 4, none⟩ = some (.int .i64 (Tm.g xs i).f0) ∧ W.cell? ⟨g, i * 4 + 1, none⟩ = some (.int .i64 (Tm.g xs i).f1) ∧ W.cell? ⟨g, i * 4 + 2, none⟩ = some (.int .i64 (Tm.g xs i).f2) ∧ W.cell? ⟨g, i * 4 + 3, none⟩ = some (.int .u64 (Tm.g xs i).f3)) ∧ ∀ o, W.frozen? ⟨g, i * 4 + o, none⟩ = false := by
  obtain ⟨c, hcl, hM, hcc, hfr⟩ := Kd.R_elem h z52 (i : Int) (by omega) (by omega)
  obtain rfl := k52_openM hM
  exact ⟨⟨hcc 0 _ rfl, hcc 1 _ rfl, hcc 2 _ rfl, hcc 3 _ rfl⟩, hfr⟩
theorem put52 {W : World} {base g n cap : Nat} {ok : Nat → Prop} {xs : List S52} (h : Kd.R k52 52 W base ok (.slice (some ⟨g, 0, none⟩) n cap) xs) (i : Nat) (hi : i < n) (x : S52) :
    Kd.R k52 52 (st4 W g i x) base ok (.slice (some ⟨g, 0, none⟩) n cap) (xs.set i x) ∧ W.grownBy (st4 W g i x) (some g) := by
  obtain ⟨c, hcl, hM, hcc, hfr⟩ := Kd.R_elem h z52 (i : Int) (by omega) (by omega)
  obtain rfl := k52_openM hM
  exact Kd.R_seg h (i : Int) (by omega) (by omega) (seg := [.int .i64 x.f0, .int .i64 x.f1, .int .i64 x.f2, .int .u64 x.f3]) (j := 0) hcl hcc (show 4 ≤ 4 from by decide) (x' := x) (k52_mkM _ _ _ x) (fun _ hk => hk)
theorem QW.put {w0 wA W : World} {bq g n cap : Nat} {l : List S52} (h : QW w0 wA W bq g (.slice (some ⟨g, 0, none⟩) n cap) l) (i : Nat) (hi : i < n) (x : S52) : QW w0 wA (st4 W g i x) bq g (.slice (some ⟨g, 0, none⟩) n cap) (l.set i x) := by
  obtain ⟨h1, h2⟩ := put52 h.row i hi x
  have hb := (Kd.R_form h.row (by have := (Kd.R_reads' h.row).1; omega))
  obtain ⟨g', cap', e, hge, _⟩ := hb
  injection e with e1 e2 e3
  injection e1 with e1
  injection e1 with e1
  subst e1
  exact ⟨blk_grown h.blk h2 (Kd.R_away h.row (fun k hk => hk)), h1, h.ge, pw_below_grown h.bel (some g) h.bel.size h2 (fun k hk => by injection hk with hk; omega), h.keep.trans (KeepBut.of_grown h2 bq) (.inl rfl)⟩
set_option maxHeartbeats 1000000 in
theorem qswap_any (w0 wA W : World) (bq g c : Nat) (l : List S52) (hq : QW w0 wA W bq g (.slice (some ⟨g, 0, none⟩) l.length c) l) (i k : Nat) (hi : i < l.length) (hk : k < l.length) :
    Calls Try.prog 92 #[.slice (some ⟨g, 0, none⟩) l.length c, .int .i64 (i : Int), .int .i64 (k : Int)] W fun e W' => e = .returned (.tuple #[]) ∧ QW w0 wA W' bq g (.slice (some ⟨g, 0, none⟩) l.length c) (swp l i k) := by
  have hu52 := Try.underlying52
  obtain ⟨⟨hx0, hx1, hx2, hx3⟩, hxf⟩ := get52 hq.row i hi
  obtain ⟨⟨hy0, hy1, hy2, hy3⟩, hyf⟩ := get52 hq.row k hk
  have hx4 := hxf 0
  have hx5 := hxf 1
  have hx6 := hxf 2
  have hx7 := hxf 3
  have hy4 := hyf 0
  have hy5 := hyf 1
  have hy6 := hyf 2
  have hy7 := hyf 3
  rw [Nat.add_zero] at hx4 hy4
  have hz : QW w0 wA (st4 (st4 W g i (Tm.g l k)) g k (Tm.g l i)).drew bq g (.slice (some ⟨g, 0, none⟩) l.length c) (swp l i k) := by
    exact ((hq.put i hi (Tm.g l k)).put k hk (Tm.g l i)).drew
  have HZ := Lib.hid hz
  clear hxf hyf hz hq
  by_cases hik : i = k
  · subst hik
    generalize Tm.g l i = x at *
    obtain ⟨x0, x1, x2, x3⟩ := x
    clear hy0 hy1 hy2 hy3 hy4 hy5 hy6 hy7
    go_enter Try.func92, Try.ntmps92
    go_wp2_with fail
    go_region
    all_goals go_wp2
    all_goals
      go_end0
      exact ⟨rfl, HZ.out⟩
  · have hne : ∀ a b, a < 4 → b < 4 → i * 4 + a ≠ k * 4 + b := by intro a b ha hb; omega
    generalize Tm.g l i = x at *
    generalize Tm.g l k = y at *
    obtain ⟨x0, x1, x2, x3⟩ := x
    obtain ⟨y0, y1, y2, y3⟩ := y
    go_enter Try.func92, Try.ntmps92
    go_wp2_with fail
    go_region
    all_goals go_wp2
    all_goals
      go_end0
      exact ⟨rfl, HZ.out⟩
end Go.Proofs.Ytahppppkepcbkaa.Fn
