/- A queue of timers in memory: Less, Swap, Pop, Push by hand. -/
import Derived.Test.YtahppppkepcbkaaFnx0
import Derived.Test.YtahppppkepcbkaaFnx19
import Derived.Test.YtahppppkepcbkaaFnx20
import Derived.Test.YtahppppkepcbkaaFnx21
import Derived.Test.YtahppppkepcbkaaFnx22
import Derived.Test.YtahppppkepcbkaaTm
import Derived.Test.YtahppppkepcbkaaHand
import Derived.BigRegion
import Derived.Deep.LoopGhost
import Derived.Deep.RegionHeld3
import Derived.Deep.RegionWith
import Derived.Laws.MakeOwn
import Derived.OwnWalk
import Derived.Handy
import Derived.Deep.RegionLaw
namespace Go.Proofs.Ytahppppkepcbkaa.Fn
open Go.RowKit Go.Proofs.YtahppppkepcbkaaW.PrintWords Go.Proofs.YtahppppkepcbkaaW.PrintLast Go.Proofs.YtahppppkepcbkaaW.PrintMore Go.Proofs.Ytahppppkepcbkaa.Tm
set_option linter.unusedVariables false
set_option linter.unusedSimpArgs false
set_option maxRecDepth 100000
/-- The first one that is not 0. -/
def orl : List Int → Int
  | [] => 0
  | a :: l => if a = 0 then orl l else a
theorem or_l0 (l : List Int) (hl : l.length ≤ 1000) : ∀ (d i K : Nat), i + d = l.length → d + 1 ≤ K → cmp_Or_int.l0 K 0 l (l.length : Int) (i : Int) = some (orl (l.drop i))
  | 0, i, K, hi, hK => by
    obtain ⟨K, rfl⟩ : ∃ m, K = m + 1 := ⟨K - 1, by omega⟩
    rw [cmp_Or_int.l0, if_neg (by omega), List.drop_of_length_le (by omega)]
    rfl
  | d + 1, i, K, hi, hK => by
    obtain ⟨K, rfl⟩ : ∃ m, K = m + 1 := ⟨K - 1, by omega⟩
    have h1 : i < l.length := by omega
    have e : rd l (i : Int) = l[i] := by simp [rd, h1]
    rw [cmp_Or_int.l0, if_pos (by omega), if_pos (by omega), if_pos (by omega), e, show wrap64 ((i : Int) + 1) = ((i + 1 : Nat) : Int) by unfold wrap64; omega, or_l0 l hl d (i + 1) K (by omega) (by omega), List.drop_eq_getElem_cons h1, orl]
    split <;> rfl
theorem or_eq (K : Nat) (a b c d : Int) (hK : 10 ≤ K) : cmp_Or_int.f K [a, b, c, d] = some (if a = 0 then (if b = 0 then (if c = 0 then d else c) else b) else a) := by
  have h := or_l0 [a, b, c, d] (by simp) 4 0 K rfl (by omega)
  unfold cmp_Or_int.f
  rw [show ((0 : Nat) : Int) = 0 from rfl] at h
  rw [h, List.drop_zero]
  simp only [orl]
  by_cases h3 : d = 0
  · rw [if_pos h3, h3]
  · rw [if_neg h3]
theorem cmp64_eq (a b : Int) : cmp_Compare_int64.f a b = some (cmp3 a b) := by
  unfold cmp_Compare_int64.f cmp_isNaN_int64.f cmp3
  simp only [Option.bind_some, bne_self_eq_false]
  by_cases h : a < b
  · simp [h]
  · by_cases h' : a > b <;> simp [h, h']
theorem cmpi_eq (a b : Int) : cmp_Compare_int.f a b = some (cmp3 a b) := by
  unfold cmp_Compare_int.f cmp_isNaN_int.f cmp3
  simp only [Option.bind_some, bne_self_eq_false]
  by_cases h : a < b
  · simp [h]
  · by_cases h' : a > b <;> simp [h, h']
theorem cmpu_eq (a b : Int) : cmp_Compare_uint64.f a b = some (cmp3 a b) := by
  unfold cmp_Compare_uint64.f cmp_isNaN_uint64.f cmp3
  simp only [Option.bind_some, bne_self_eq_false]
  by_cases h : a < b
  · simp [h]
  · by_cases h' : a > b <;> simp [h, h']
/-- Which comes first, as a number. -/
def tcmp (a b : S52) : Int := if cmp3 a.f0 b.f0 = 0 then (if cmp3 a.f1 b.f1 = 0 then (if cmp3 a.f2 b.f2 = 0 then cmp3 a.f3 b.f3 else cmp3 a.f2 b.f2) else cmp3 a.f1 b.f1) else cmp3 a.f0 b.f0
theorem cmp3_cases (a b : Int) : (a < b ∧ cmp3 a b = -1) ∨ (a = b ∧ cmp3 a b = 0) ∨ (b < a ∧ cmp3 a b = 1) := by
  unfold cmp3
  by_cases h : a < b
  · exact Or.inl ⟨h, if_pos h⟩
  · by_cases h' : a > b
    · exact Or.inr (Or.inr ⟨h', by rw [if_neg h, if_pos h']⟩)
    · exact Or.inr (Or.inl ⟨by omega, by rw [if_neg h, if_neg h']⟩)
theorem tcmp_lt (a b : S52) : tcmp a b < 0 ↔ tlt a b := by
  unfold tcmp tlt
  rcases cmp3_cases a.f0 b.f0 with ⟨h0, e0⟩ | ⟨h0, e0⟩ | ⟨h0, e0⟩ <;> rcases cmp3_cases a.f1 b.f1 with ⟨h1, e1⟩ | ⟨h1, e1⟩ | ⟨h1, e1⟩ <;> rcases cmp3_cases a.f2 b.f2 with ⟨h2, e2⟩ | ⟨h2, e2⟩ | ⟨h2, e2⟩ <;> rcases cmp3_cases a.f3 b.f3 with ⟨h3, e3⟩ | ⟨h3, e3⟩ | ⟨h3, e3⟩ <;> rw [e0, e1, e2, e3] <;> simp <;> omega
theorem compare_eq (K : Nat) (a b : S52) (hK : 10 ≤ K) : timer_compare.f K a.f0 a.f1 a.f2 a.f3 b.f0 b.f1 b.f2 b.f3 = some (tcmp a b) := by
  unfold timer_compare.f
  rw [cmp64_eq, cmpi_eq, cmpi_eq, cmpu_eq, Option.bind_some, Option.bind_some, Option.bind_some, Option.bind_some, or_eq K _ _ _ _ hK, Option.bind_some]
  rfl
theorem tless_eq (a b : S52) : timer_Less.f 10 a.f0 a.f1 a.f2 a.f3 b.f0 b.f1 b.f2 b.f3 = some (lt a b) := by
  unfold timer_Less.f
  rw [compare_eq 10 a b (Nat.le_refl _), Option.bind_some]
  unfold lt
  rw [decide_eq_decide.2 (tcmp_lt a b)]
theorem rd_g (l : List S52) (i : Nat) : rd_T52 l (i : Int) = g l i := by simp [rd_T52, g]
set_option maxHeartbeats 1000000 in
theorem qless_any (A : Option Addr) (c : Nat) (l : List S52) (W : World) (hR : Kd.C k52 W A l.length l) (i k : Nat) (hi : i < l.length) (hk : k < l.length) :
    Calls Try.prog 91 #[.slice A l.length c, .int .i64 (i : Int), .int .i64 (k : Int)] W fun e W' => e = .returned (.bool (lt (g l i) (g l k))) ∧ Below W.heap.size W W' := by
  have hu52 := Try.underlying52
  obtain ⟨ad, rfl, hx0, hx1, hx2, hx3⟩ := at_T52 hR (i : Int) (by omega) (by omega)
  obtain ⟨ad', e', hy0, hy1, hy2, hy3⟩ := at_T52 hR (k : Int) (by omega) (by omega)
  cases e'
  rw [Int.toNat_natCast, rd_g] at hx0 hx1 hx2 hx3 hy0 hy1 hy2 hy3
  have hk' := tless_eq (g l i) (g l k)
  have HK := Lib.hid hk'
  clear hR hk'
  generalize g l i = x at *
  generalize g l k = y at *
  obtain ⟨x0, x1, x2, x3⟩ := x
  obtain ⟨y0, y1, y2, y3⟩ := y
  go_enter Try.func91, Try.ntmps91
  go_wp2_with fail
  go_region_with (go_at_call 26; refine (timer_Less.calls 10 _ _ _ _ _ _ _ _ _ _ HK.out).mono ?_; rintro e w1 ⟨rfl, hb⟩; have HB := Lib.hid ((Below.refl W.heap.size W).drew.trans hb); clear hb)
  all_goals go_wp2
  all_goals
    go_ret
    exact ⟨rfl, HB.out⟩
end Go.Proofs.Ytahppppkepcbkaa.Fn
/- A queue of timers in memory: Swap, Pop, Push by hand. -/
namespace Go.Proofs.Ytahppppkepcbkaa.Fn
open Go.RowKit Go.Proofs.YtahppppkepcbkaaW.PrintWords Go.Proofs.YtahppppkepcbkaaW.PrintLast Go.Proofs.YtahppppkepcbkaaW.PrintMore Go.Proofs.Ytahppppkepcbkaa.Tm
set_option linter.unusedVariables false
set_option linter.unusedSimpArgs false
set_option maxRecDepth 100000
/-- A queue lies in memory: its own block, and its row; since world wA nothing else was written. -/
structure QW (w0 wA W : World) (bq g : Nat) (v : Value) (l : List S52) : Prop where
  blk : W.heap[bq]? = some (.cells #[v] 92 (0, 0))
  row : Kd.R k52 52 W w0.heap.size (fun k => k ≠ bq) v l
  ge : w0.heap.size ≤ bq
  bel : Below w0.heap.size w0 W
  keep : KeepBut wA W bq (some g)
theorem QW.drew {w0 wA W : World} {bq g : Nat} {v : Value} {l : List S52} (h : QW w0 wA W bq g v l) : QW w0 wA W.drew bq g v l := ⟨blk_drew h.blk, Kd.R_drew h.row, h.ge, h.bel.drew, keep_drew h.keep⟩
theorem QW.below {w0 wA W W' : World} {bq g : Nat} {v : Value} {l : List S52} (h : QW w0 wA W bq g v l) (hb : Below W.heap.size W W') : QW w0 wA W' bq g v l := ⟨blk_below h.blk hb, Kd.R_below h.row hb, h.ge, below_step h.bel hb, h.keep.trans (KeepBut.of_below hb bq (some g)) (.inl rfl)⟩
theorem QW.anew {w0 wA W : World} {bq g : Nat} {v : Value} {l : List S52} (h : QW w0 wA W bq g v l) (g' : Nat) : QW w0 W W bq g' v l := ⟨h.blk, h.row, h.ge, h.bel, KeepBut.refl W bq (some g')⟩
/-- Timer x is stored. -/
def st4 (W : World) (g i : Nat) (x : S52) : World := (((W.setCell ⟨g, i * 4, none⟩ (.int .i64 x.f0)).setCell ⟨g, i * 4 + 1, none⟩ (.int .i64 x.f1)).setCell ⟨g, i * 4 + 2, none⟩ (.int .i64 x.f2)).setCell ⟨g, i * 4 + 3, none⟩ (.int .u64 x.f3)
theorem get52 {W : World} {base g n cap : Nat} {ok : Nat → Prop} {xs : List S52} (h : Kd.R k52 52 W base ok (.slice (some ⟨g, 0, none⟩) n cap) xs) (i : Nat) (hi : i < n) :
    (W.cell? ⟨g, i * 4, none⟩ = some (.int .i64 (Tm.g xs i).f0) ∧ W.cell? ⟨g, i * 4 + 1, none⟩ = some (.int .i64 (Tm.g xs i).f1) ∧ W.cell? ⟨g, i * 4 + 2, none⟩ = some (.int .i64 (Tm.g xs i).f2) ∧ W.cell? ⟨g, i * 4 + 3, none⟩ = some (.int .u64 (Tm.g xs i).f3)) ∧ ∀ o, W.frozen? ⟨g, i * 4 + o, none⟩ = false := by
  obtain ⟨c, hcl, hM, hcc, hfr⟩ := Kd.R_elem h z52 (i : Int) (by omega) (by omega)
  obtain rfl := k52_openM hM
  exact ⟨⟨hcc 0 _ rfl, hcc 1 _ rfl, hcc 2 _ rfl, hcc 3 _ rfl⟩, hfr⟩
theorem put52 {W : World} {base g n cap : Nat} {ok : Nat → Prop} {xs : List S52} (h : Kd.R k52 52 W base ok (.slice (some ⟨g, 0, none⟩) n cap) xs) (i : Nat) (hi : i < n) (x : S52) :
    Kd.R k52 52 (st4 W g i x) base ok (.slice (some ⟨g, 0, none⟩) n cap) (xs.set i x) ∧ W.grownBy (st4 W g i x) (some g) := by
  obtain ⟨c, hcl, hM, hcc, hfr⟩ := Kd.R_elem h z52 (i : Int) (by omega) (by omega)
  obtain rfl := k52_openM hM
  exact Kd.R_seg h (i : Int) (by omega) (by omega) (seg := [.int .i64 x.f0, .int .i64 x.f1, .int .i64 x.f2, .int .u64 x.f3]) (j := 0) hcl hcc (show 4 ≤ 4 from by decide) (x' := x) (k52_mkM _ _ _ x) (fun _ hk => hk)
theorem QW.put {w0 wA W : World} {bq g n cap : Nat} {l : List S52} (h : QW w0 wA W bq g (.slice (some ⟨g, 0, none⟩) n cap) l) (i : Nat) (hi : i < n) (x : S52) : QW w0 wA (st4 W g i x) bq g (.slice (some ⟨g, 0, none⟩) n cap) (l.set i x) := by
  obtain ⟨h1, h2⟩ := put52 h.row i hi x
  have hb := (Kd.R_form h.row (by have := (Kd.R_reads' h.row).1; omega))
  obtain ⟨g', cap', e, hge, _⟩ := hb
  injection e with e1 e2 e3
  injection e1 with e1
  injection e1 with e1
  subst e1
  exact ⟨blk_grown h.blk h2 (Kd.R_away h.row (fun k hk => hk)), h1, h.ge, pw_below_grown h.bel (some g) h.bel.size h2 (fun k hk => by injection hk with hk; omega), h.keep.trans (KeepBut.of_grown h2 bq) (.inl rfl)⟩
set_option maxHeartbeats 1000000 in
theorem qswap_any (w0 wA W : World) (bq g c : Nat) (l : List S52) (hq : QW w0 wA W bq g (.slice (some ⟨g, 0, none⟩) l.length c) l) (i k : Nat) (hi : i < l.length) (hk : k < l.length) :
    Calls Try.prog 92 #[.slice (some ⟨g, 0, none⟩) l.length c, .int .i64 (i : Int), .int .i64 (k : Int)] W fun e W' => e = .returned (.tuple #[]) ∧ QW w0 wA W' bq g (.slice (some ⟨g, 0, none⟩) l.length c) (swp l i k) := by
  have hu52 := Try.underlying52
  obtain ⟨⟨hx0, hx1, hx2, hx3⟩, hxf⟩ := get52 hq.row i hi
  obtain ⟨⟨hy0, hy1, hy2, hy3⟩, hyf⟩ := get52 hq.row k hk
  have hx4 := hxf 0
  have hx5 := hxf 1
  have hx6 := hxf 2
  have hx7 := hxf 3
  have hy4 := hyf 0
  have hy5 := hyf 1
  have hy6 := hyf 2
  have hy7 := hyf 3
  rw [Nat.add_zero] at hx4 hy4
  have hz : QW w0 wA (st4 (st4 W g i (Tm.g l k)) g k (Tm.g l i)).drew bq g (.slice (some ⟨g, 0, none⟩) l.length c) (swp l i k) := by
    exact ((hq.put i hi (Tm.g l k)).put k hk (Tm.g l i)).drew
  have HZ := Lib.hid hz
  clear hxf hyf hz hq
  by_cases hik : i = k
  · subst hik
    generalize Tm.g l i = x at *
    obtain ⟨x0, x1, x2, x3⟩ := x
    clear hy0 hy1 hy2 hy3 hy4 hy5 hy6 hy7
    go_enter Try.func92, Try.ntmps92
    go_wp2_with fail
    go_region
    all_goals go_wp2
    all_goals
      go_end0
      exact ⟨rfl, HZ.out⟩
  · have hne : ∀ a b, a < 4 → b < 4 → i * 4 + a ≠ k * 4 + b := by intro a b ha hb; omega
    generalize Tm.g l i = x at *
    generalize Tm.g l k = y at *
    obtain ⟨x0, x1, x2, x3⟩ := x
    obtain ⟨y0, y1, y2, y3⟩ := y
    go_enter Try.func92, Try.ntmps92
    go_wp2_with fail
    go_region
    all_goals go_wp2
    all_goals
      go_end0
      exact ⟨rfl, HZ.out⟩
end Go.Proofs.Ytahppppkepcbkaa.Fn
/- A queue of timers in memory: Pop and Push by hand. -/
namespace Go.Proofs.Ytahppppkepcbkaa.Fn
open Go.RowKit Go.Proofs.YtahppppkepcbkaaW.PrintWords Go.Proofs.YtahppppkepcbkaaW.PrintLast Go.Proofs.YtahppppkepcbkaaW.PrintMore Go.Proofs.Ytahppppkepcbkaa.Tm
set_option linter.unusedVariables false
set_option linter.unusedSimpArgs false
set_option maxRecDepth 100000
/-- A timer, as a value. -/
def tv (x : S52) : Value := .agg #[.int .i64 x.f0, .int .i64 x.f1, .int .i64 x.f2, .int .u64 x.f3]
theorem QW.lt {w0 wA W : World} {bq g : Nat} {v : Value} {l : List S52} (h : QW w0 wA W bq g v l) : bq < W.heap.size := blk_lt h.blk
theorem QW.boxed {w0 wA W : World} {bq g : Nat} {v v' : Value} {l' : List S52} (hb : W.heap[bq]? = some (.cells #[v] 92 (0, 0))) (hr : Kd.R k52 52 W w0.heap.size (fun k => k ≠ bq) v' l') (ge : w0.heap.size ≤ bq) (bel : Below w0.heap.size w0 W) (keep : KeepBut wA W bq (some g)) : QW w0 wA (W.setCell ⟨bq, 0, none⟩ v') bq g v' l' :=
  ⟨by have := blk_set hb 0 v'; simpa using this, Kd.R_set hr hb (by decide) 0 v', ge, bel.setCell ge _, keep.set_ 0 v'⟩
theorem QW.rebox {w0 wA W : World} {bq g : Nat} {v v' : Value} {l l' : List S52} (h : QW w0 wA W bq g v l) (hr : Kd.R k52 52 W w0.heap.size (fun k => k ≠ bq) v' l') : QW w0 wA (W.setCell ⟨bq, 0, none⟩ v') bq g v' l' := QW.boxed h.blk hr h.ge h.bel h.keep
theorem QW.alloc {w0 wA W : World} {bq g : Nat} {v : Value} {l : List S52} (h : QW w0 wA W bq g v l) (o : Obj) : QW w0 wA (W.alloc o) bq g v l := h.below ((Below.refl _ W).alloc (Nat.le_refl _) o)
theorem ta52 (v : Value) (W : World) : (Instr.typeAssert (.iface 52 v) 20 52 false).run Try.prog W = .ok v W := by kernel_rfl
set_option maxHeartbeats 1000000 in
theorem qpop_any (w0 wA W : World) (bq g c n : Nat) (l : List S52) (hq : QW w0 wA W bq g (.slice (some ⟨g, 0, none⟩) (n + 1) c) l) (hl : l.length = n + 1) (hm : n < 1000) :
    Calls Try.prog 93 #[.pointer (some ⟨bq, 0, none⟩)] W fun e W' => e = .returned (.iface 52 (tv (Tm.g l n))) ∧ QW w0 wA W' bq g (.slice (some ⟨g, 0, none⟩) n c) (l.take n) := by
  have hu52 := Try.underlying52
  have hu92 := Try.underlying92
  obtain ⟨⟨hx0, hx1, hx2, hx3⟩, hxf⟩ := get52 hq.row n (by omega)
  have hg0 : W.cell? ⟨bq, 0, none⟩ = some (.slice (some ⟨g, 0, none⟩) (n + 1) c) := (blk_cell hq.blk 0).trans rfl
  have hgf := blk_frozen hq.blk 0
  have hlt := hq.lt
  have hnc := (Kd.R_reads' hq.row).2.1
  obtain ⟨g', cap', e', hge, hgl, _⟩ := Kd.R_form hq.row (by omega)
  injection e' with e1 e2 e3
  injection e1 with e1
  injection e1 with e1
  subst e1
  have HGE := Lib.hid hge
  clear e2 e3 hge
  have HL := Lib.hid hl
  have HQ := Lib.hid hq
  have HX := Lib.hid hxf
  clear hq hxf hl
  unfold tv
  generalize hgx : Tm.g l n = x at *
  obtain ⟨x0, x1, x2, x3⟩ := x
  have hz : QW w0 wA ((W.setCell ⟨bq, 0, none⟩ (.slice (some ⟨g, 0, none⟩) n c)).alloc (.cells #[.int .i64 x0, .int .i64 x1, .int .i64 x2, .int .u64 x3] 52)) bq g (.slice (some ⟨g, 0, none⟩) n c) (l.take n) :=
    (HQ.out.rebox (Kd.R_take HQ.out.row (by have := HL.out; omega))).alloc _
  have HZ := Lib.hid hz
  clear hz
  have hne1 : g ≠ W.heap.size := by omega
  have hne2 : bq ≠ W.heap.size := by omega
  have hne3 : W.heap.size ≠ g := by omega
  have hne4 : W.heap.size ≠ bq := by omega
  have hnc' : n ≤ c := by omega
  have hnc2 : (n : Int) ≤ (c : Int) := by omega
  go_enter Try.func93, Try.ntmps93
  go_wp2_with fail
  all_goals
    go_ret
    exact ⟨rfl, HZ.out⟩
set_option maxHeartbeats 1000000 in
theorem qpush_any (w0 wA W : World) (bq g : Nat) (v : Value) (l : List S52) (x : S52) (hq : QW w0 wA W bq g v l) (hm : l.length < 1000) :
    Calls Try.prog 94 #[.pointer (some ⟨bq, 0, none⟩), .iface 52 (tv x)] W fun e W' => e = .returned (.tuple #[]) ∧ ∃ v', ∀ g', QW w0 W' W' bq g' v' (l ++ [x]) := by
  have hu52 := Try.underlying52
  have hu92 := Try.underlying92
  have hg0 : W.cell? ⟨bq, 0, none⟩ = some v := (blk_cell hq.blk 0).trans rfl
  have hgf := blk_frozen hq.blk 0
  have hlt := hq.lt
  obtain ⟨A, c, rfl⟩ := Kd.R_slice hq.row
  have HQ := Lib.hid hq
  clear hq
  unfold tv
  obtain ⟨x0, x1, x2, x3⟩ := x
  have hne4 : W.heap.size ≠ bq := by omega
  have hta := fun W => ta52 (.agg #[.int .i64 x0, .int .i64 x1, .int .i64 x2, .int .u64 x3]) W
  go_enter Try.func94, Try.ntmps94
  go_wp2_with fail
  go_region_law (first
    | (refine Kd.R_append_step k52 (w0 := w0) (W := W.drew) w0.heap.size (by rfl) (.tmp 7) (.tmp 10) 92 52 (.agg #[(.int .i64 0), (.int .i64 0), (.int .i64 0), (.int .u64 0)]) 32 (by rfl) Try.underlying92 info52 (by rfl) (by decide) (by omega) (.slice A l.length c) l ⟨x0, x1, x2, x3⟩ [.int .i64 x0, .int .i64 x1, .int .i64 x2, .int .u64 x3] (fun k => k ≠ bq) (fun _ => False) (by rfl) (by rfl) (k52_mkM _ _ _ ⟨x0, x1, x2, x3⟩) (fun _ h => h.elim) (fun k hk => Nat.ne_of_gt (Nat.lt_of_lt_of_le hlt hk)) (Kd.R_drew HQ.out.row) (HQ.out.bel.drew) HQ.out.bel.size (by omega) ?_
       intro v1 w1 hR1 hB1 hG1 hA1
       have hblk1 := blk_grown (blk_drew HQ.out.blk) hG1 (Kd.R_away HQ.out.row (fun k hk => hk))
       obtain ⟨A1, c1, rfl⟩ := Kd.R_slice hR1
       have hx1 : w1.cell? ⟨bq, 0, none⟩ = some (.slice A l.length c) := (blk_cell hblk1 0).trans rfl
       have hf1 := blk_frozen hblk1 0))
  all_goals go_wp2
  all_goals
    go_end0
    rw [List.length_append, List.length_singleton] at hR1
    exact ⟨rfl, _, fun g' => (QW.boxed (wA := w1) (g := g') hblk1 hR1 HQ.out.ge hB1 (KeepBut.refl _ _ _)).anew g'⟩
end Go.Proofs.Ytahppppkepcbkaa.Fn
