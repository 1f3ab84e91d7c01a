/- clock.played, by hand: what beats come to, place by place. -/
import Derived.Test.YtahppppkepcbkaaFnx0
import Derived.Test.YtahppppkepcbkaaHand
import Derived.Test.YtahppppkepcbkaaClk
import Derived.BigRegion
import Derived.Deep.LoopGhost
import Derived.Deep.RegionHeld3
import Derived.Deep.RegionLaw
import Derived.Laws.MakeOwn
import Derived.OwnWalk
namespace Go.Proofs.Ytahppppkepcbkaa.Fn
open Go.RowKit Go.Proofs.YtahppppkepcbkaaW.PrintWords Go.Proofs.YtahppppkepcbkaaW.PrintLast Go.Proofs.YtahppppkepcbkaaW.PrintMore Go.Proofs.Ytahppppkepcbkaa.Clk
set_option linter.unusedVariables false
set_option linter.unusedSimpArgs false
set_option maxRecDepth 100000
/-- Whose beat, and what. -/
def pnd (l : List S87) (i : Nat) : Int := (l.getD i z87).f0
def pwh (l : List S87) (i : Nat) : Int := (l.getD i z87).f1
/-- All nodes' ticks at a place; since when they are up. -/
def rowT (n : Nat) (l : List S87) (p : Nat) : List Int := (List.range n).map fun x => tk (pnd l) (pwh l) ((x : Nat) : Int) p
def rowS (n : Nat) (l : List S87) (p : Nat) : List Int := (List.range n).map fun x => since (pnd l) (pwh l) ((x : Nat) : Int) p
def playok (a0 : Int) (l : List S87) : Bool := decide (1 ≤ a0 ∧ a0 ≤ 64 ∧ l.length ≤ 400) && okb (pnd l) (pwh l) a0 l.length
def clock_played.f (a0 : Int) (l1 : List (S87)) : Option ((List (List Int)) × (List (List Int)) × Bool) :=
  some (if playok a0 l1 = true then ((List.range (l1.length + 1)).map (rowT a0.toNat l1), (List.range (l1.length + 1)).map (rowS a0.toNat l1), true) else ([], [], false))
theorem info105 : (Try.prog.info? 105).map (fun i => (i.zero, i.size, i.bytes)) = some (some (.slice none 0 0), 1, 24) := by kernel_rfl
theorem info106 : (Try.prog.info? 106).map (fun i => (i.zero, i.size, i.bytes)) = some (some (.slice none 0 0), 1, 24) := by kernel_rfl
/-- A block that is a list of numbers. -/
def Blk (w : World) (g e : Nat) (T : List Int) : Prop := w.heap[g]? = some (.cells (T.map (Value.int .i64)).toArray e (0, 0))
theorem Blk.R {w : World} {g e base : Nat} {T : List Int} (h : Blk w g e T) (hl : T.length ≤ 400) (hb : base ≤ g) (ok : Nat → Prop) (hok : ok g) : Kd.R (Kd.int .i64) e w base ok (.slice (some ⟨g, 0, none⟩) T.length T.length) T :=
  Kd.R_of_own ⟨by simp [encs], .inr ⟨g, T.length, _, rfl, hb, h, Nat.le_refl _, by simp [maxLen]; omega, by simp, by
    show (T.map (Value.int .i64)).take (T.length * 1) = T.map (Value.int .i64)
    exact List.take_of_length_le (by simp)⟩⟩ (fun k hk => by
    have : g = k := by simpa [Value.ownBlock] using hk
    exact this ▸ hok)
theorem Blk.C {w : World} {g e : Nat} {T : List Int} (h : Blk w g e T) (hl : T.length ≤ 400) : Kd.C (Kd.int .i64) w (some ⟨g, 0, none⟩) T.length T :=
  (Kd.R_reads' (h.R (base := 0) hl (Nat.zero_le _) (fun _ => True) trivial)).2.2
/-- Blocks of other types, but g, stay. -/
structure Fr (w w' : World) (g : Nat) : Prop where
  size : w.heap.size ≤ w'.heap.size
  out : ∀ (k t : Nat) (c : Array Value), w.heap[k]? = some (.cells c t (0, 0)) → t ≠ 105 → t ≠ 106 → k ≠ g → w'.heap[k]? = some (.cells c t (0, 0))
theorem Fr.trans {w w1 w2 : World} {g : Nat} (h : Fr w w1 g) (h2 : Fr w1 w2 g) : Fr w w2 g :=
  ⟨Nat.le_trans h.size h2.size, fun k t c hk h105 h106 hg => h2.out k t c (h.out k t c hk h105 h106 hg) h105 h106 hg⟩
theorem Fr.below {w w1 : World} (g : Nat) (h : Below w.heap.size w w1) : Fr w w1 g := ⟨h.size, fun _ _ _ hk _ _ _ => blk_below hk h⟩
theorem Fr.grown {w w1 : World} (g : Nat) {v : Value} (h : w.grownBy w1 v.ownBlock) (ht : ∀ k, v.ownBlock = some k → ∃ c, w.heap[k]? = some (.cells c 105 (0, 0)) ∨ w.heap[k]? = some (.cells c 106 (0, 0))) : Fr w w1 g := by
  refine ⟨h.size, fun k t c hk h105 h106 _ => blk_grown hk h (fun e => ?_)⟩
  obtain ⟨c', hc⟩ := ht k e.symm
  rcases hc with hc | hc
  · rw [hk] at hc
    cases hc
    exact h105 rfl
  · rw [hk] at hc
    cases hc
    exact h106 rfl
theorem Fr.set {w : World} (g j : Nat) (u : Value) : Fr w (w.setCell ⟨g, j, none⟩ u) g := ⟨by simp, fun k t c hk _ _ hg => blk_far hk hg u⟩
/-- The history in memory. -/
structure Hist (w0 w : World) (B g : Nat) (ok : Nat → Prop) (v1 v2 : Value) (R1 R2 : List (List Int)) : Prop where
  cell : w.heap[g]? = some (.cells #[v1, v2] 81 (0, 0))
  t : Kd.S (Kd.slice 2 (Kd.int .i64)) 105 w B ok v1 R1
  s : Kd.S (Kd.slice 3 (Kd.int .i64)) 106 w B ok v2 R2
  bel : Below B w0 w
/-- A row of ticks more. -/
theorem Hist.addT {w0 w w1 w2 : World} {B g : Nat} {ok : Nat → Prop} {v1 v2 v1' : Value} {R1 R2 R1' : List (List Int)} (h : Hist w0 w B g ok v1 v2 R1 R2) (hB : B ≤ g) (hbw : Below w.heap.size w w1) (hS : Kd.S (Kd.slice 2 (Kd.int .i64)) 105 w2 B ok v1' R1') (hB2 : Below B w0 w2) (hg : w1.grownBy w2 v1.ownBlock) :
    w2.heap[g]? = some (.cells #[v1, v2] 81 (0, 0)) ∧ Hist w0 (w2.setCell ⟨g, 0, none⟩ v1') B g ok v1' v2 R1' R2 ∧ Fr w (w2.setCell ⟨g, 0, none⟩ v1') g := by
  have hty := Kd.S_typed h.t
  have hty1 : ∀ k, v1.ownBlock = some k → ∃ c, w1.heap[k]? = some (.cells c 105 (0, 0)) := fun k hk => by
    obtain ⟨c, hc⟩ := hty k hk
    exact ⟨c, blk_below hc hbw⟩
  have c1 := blk_below h.cell hbw
  have hne : some g ≠ v1.ownBlock := fun e => by
    obtain ⟨c, hc⟩ := hty1 g e.symm
    rw [c1] at hc
    cases hc
  have c2 := blk_grown c1 hg hne
  have s2 : Kd.S (Kd.slice 3 (Kd.int .i64)) 106 w2 B ok v2 R2 := by
    refine Kd.S_mono (Kd.S_grown (Kd.S_bound (Kd.S_below h.s hbw)) hg (fun k hk e => ?_)) (fun k hk => hk.1)
    obtain ⟨_, _, _, q, hq, c, hc⟩ := hk
    obtain ⟨c', hc'⟩ := hty1 k e.symm
    rw [hc] at hc'
    cases hc'
    revert hq
    decide
  refine ⟨c2, ⟨?_, Kd.S_set hS c2 (by decide) 0 v1', Kd.S_set s2 c2 (by decide) 0 v1', hB2.setCell (p := ⟨g, 0, none⟩) hB v1'⟩, ((Fr.below g hbw).trans (Fr.grown g hg (fun k hk => by obtain ⟨c, hc⟩ := hty1 k hk; exact ⟨c, .inl hc⟩))).trans (Fr.set g 0 v1')⟩
  have := blk_set c2 0 v1'
  simpa using this
/-- A row of places more. -/
theorem Hist.addS {w0 w w1 w2 : World} {B g : Nat} {ok : Nat → Prop} {v1 v2 v2' : Value} {R1 R2 R2' : List (List Int)} (h : Hist w0 w B g ok v1 v2 R1 R2) (hB : B ≤ g) (hbw : Below w.heap.size w w1) (hS : Kd.S (Kd.slice 3 (Kd.int .i64)) 106 w2 B ok v2' R2') (hB2 : Below B w0 w2) (hg : w1.grownBy w2 v2.ownBlock) :
    w2.heap[g]? = some (.cells #[v1, v2] 81 (0, 0)) ∧ Hist w0 (w2.setCell ⟨g, 1, none⟩ v2') B g ok v1 v2' R1 R2' ∧ Fr w (w2.setCell ⟨g, 1, none⟩ v2') g := by
  have hty := Kd.S_typed h.s
  have hty1 : ∀ k, v2.ownBlock = some k → ∃ c, w1.heap[k]? = some (.cells c 106 (0, 0)) := fun k hk => by
    obtain ⟨c, hc⟩ := hty k hk
    exact ⟨c, blk_below hc hbw⟩
  have c1 := blk_below h.cell hbw
  have hne : some g ≠ v2.ownBlock := fun e => by
    obtain ⟨c, hc⟩ := hty1 g e.symm
    rw [c1] at hc
    cases hc
  have c2 := blk_grown c1 hg hne
  have s2 : Kd.S (Kd.slice 2 (Kd.int .i64)) 105 w2 B ok v1 R1 := by
    refine Kd.S_mono (Kd.S_grown (Kd.S_bound (Kd.S_below h.t hbw)) hg (fun k hk e => ?_)) (fun k hk => hk.1)
    obtain ⟨_, _, _, q, hq, c, hc⟩ := hk
    obtain ⟨c', hc'⟩ := hty1 k e.symm
    rw [hc] at hc'
    cases hc'
    revert hq
    decide
  refine ⟨c2, ⟨?_, Kd.S_set s2 c2 (by decide) 1 v2', Kd.S_set hS c2 (by decide) 1 v2', hB2.setCell (p := ⟨g, 1, none⟩) hB v2'⟩, ((Fr.below g hbw).trans (Fr.grown g hg (fun k hk => by obtain ⟨c, hc⟩ := hty1 k hk; exact ⟨c, .inr hc⟩))).trans (Fr.set g 1 v2')⟩
  have := blk_set c2 1 v2'
  simpa using this
/-- What is new is none of a history's rows. -/
theorem Hist.newT {w0 w w1 : World} {B g : Nat} {ok : Nat → Prop} {v1 v2 : Value} {R1 R2 : List (List Int)} (h : Hist w0 w B g ok v1 v2 R1 R2) (hbw : Below w.heap.size w w1) : Kd.S (Kd.slice 2 (Kd.int .i64)) 105 w1 B (fun k => ok k ∧ ¬ w.heap.size ≤ k) v1 R1 ∧ ∀ k, w.heap.size ≤ k → some k ≠ v1.ownBlock :=
  ⟨Kd.S_below (Kd.S_mono (Kd.S_bound h.t) (fun k hk => ⟨hk.1, Nat.not_le.2 hk.2.2.1⟩)) hbw, fun k hk e => Nat.not_le.2 (Kd.S_lt h.t k e.symm) hk⟩
theorem Hist.newS {w0 w w1 : World} {B g : Nat} {ok : Nat → Prop} {v1 v2 : Value} {R1 R2 : List (List Int)} (h : Hist w0 w B g ok v1 v2 R1 R2) (hbw : Below w.heap.size w w1) : Kd.S (Kd.slice 3 (Kd.int .i64)) 106 w1 B (fun k => ok k ∧ ¬ w.heap.size ≤ k) v2 R2 ∧ ∀ k, w.heap.size ≤ k → some k ≠ v2.ownBlock :=
  ⟨Kd.S_below (Kd.S_mono (Kd.S_bound h.s) (fun k hk => ⟨hk.1, Nat.not_le.2 hk.2.2.1⟩)) hbw, fun k hk e => Nat.not_le.2 (Kd.S_lt h.s k e.symm) hk⟩
theorem grown_none {w w1 : World} (hg : w.drew.grownBy w1 (Value.slice none 0 0).ownBlock) : Below w.heap.size w w1 :=
  pw_below_grown (below_drew (Below.refl w.heap.size w)) _ (Nat.le_refl _) hg (fun k hk => by cases hk)
set_option maxHeartbeats 1000000 in
theorem add_any (g gt gs : Nat) (v1 v2 : Value) (R1 R2 : List (List Int)) (T S : List Int) (B : Nat) (w0 w : World) (ok : Nat → Prop) (hok : ∀ k, w.heap.size ≤ k → ok k) (hI : Hist w0 w B g ok v1 v2 R1 R2) (hT : Blk w gt 2 T) (hS : Blk w gs 3 S)
    (hBg : B ≤ g) (hl1 : R1.length ≤ 500) (hl2 : R2.length ≤ 500) (hl3 : T.length ≤ 64) (hl4 : S.length ≤ 64) :
    Calls Try.prog 62 #[.pointer (some ⟨g, 0, none⟩), .slice (some ⟨gt, 0, none⟩) T.length T.length, .slice (some ⟨gs, 0, none⟩) S.length S.length] w fun e w' => e = .returned (.tuple #[]) ∧ ∃ v1' v2', Hist w0 w' B g ok v1' v2' (R1 ++ [T]) (R2 ++ [S]) ∧ Fr w w' g := by
  have hu81 := Try.underlying81
  have hBw : B ≤ w.heap.size := Nat.le_trans hBg (Nat.le_of_lt (blk_lt hI.cell))
  have hg0 : w.cell? ⟨g, 0, none⟩ = some v1 := (blk_cell hI.cell 0).trans rfl
  have hg2 := blk_frozen hI.cell 0
  have HI := Lib.hid hI
  have HTB := Lib.hid hT
  have HSB := Lib.hid hS
  have HT := Lib.hid (hT.C (by omega))
  have HOK := Lib.hid hok
  clear hI hT hS hok
  go_enter Try.func62, Try.ntmps62
  go_wp2
  go_region_law (first
      | (refine Kd.R_append_rows_step (Kd.int .i64) (w0 := w0) B (by rfl) (.const (.slice none 0 0)) (.tmp 11) 105 2 (.int .i64 0) 8 (by rfl) Try.underlying105 info2 (by rfl) (by decide) (by omega) (.slice none 0 0) [] T (some ⟨gt, 0, none⟩) T.length T.length (fun k => w.heap.size ≤ k) (fun _ => False) (by rfl) (by rfl) (Kd.R_nil _ _ _ _ _) HT.out (fun _ _ h => h) (fun _ h => h.elim) (fun _ h => h) (below_drew HI.out.bel) hBw (by simp; omega) ?_
         intro vi w1 hRi hBi hgi hni
         obtain ⟨Ai, ci, rfl⟩ := Kd.R_slice hRi
         have hbw1 := grown_none hgi
         have hx1 : w1.cell? ⟨g, 0, none⟩ = some v1 := (blk_cell (blk_below HI.out.cell hbw1) 0).trans rfl
         have hN := HI.out.newT hbw1
         have hnn1 := World.new_ne w1 _ hx1
         have hlt1 : g < w1.heap.size := blk_lt (blk_below HI.out.cell hbw1)
         have hne1 : w1.heap.size ≠ g := by omega
         have hsz1 := hbw1.size)
      | (refine Kd.S_append_step (Kd.slice 2 (Kd.int .i64)) (w0 := w0) (W := w1) B (by rfl) (.tmp 10) (.tmp 13) 78 105 (.slice none 0 0) 24 (by rfl) Try.underlying78 info105 (by rfl) (by decide) (by omega) v1 R1 T _ ok (fun k => w.heap.size ≤ k) (by rfl) (by rfl) ⟨_, rfl, hRi⟩ (fun k hk => ⟨HOK.out k hk, hN.2 k hk⟩) (fun k hk => HOK.out k (Nat.le_trans hsz1 hk)) hN.1 hBi (Nat.le_trans hBw hsz1) (by omega) ?_
         intro v1' w2 hS1 hB2 hg2' hat2
         obtain ⟨A1', c1', rfl⟩ := Kd.S_slice hS1
         have hA := HI.out.addT hBg hbw1 hS1 hB2 hg2'
         have hx2 : w2.cell? ⟨g, 0, none⟩ = some v1 := (blk_cell hA.1 0).trans rfl
         have hf2 := blk_frozen hA.1 0))
  all_goals
    have hI3 := Lib.hid hA.2.1
    have hF3 := Lib.hid hA.2.2
    simp only [List.length_append, List.length_cons, List.length_nil, Nat.zero_add] at hI3 hF3
    clear hA hx2 hf2 hat2 hg2' hB2 hS1 hnn1 hlt1 hne1 hN hx1 hbw1 hni hRi hgi hBi hsz1
    generalize w2.setCell ⟨g, 0, none⟩ (Value.slice A1' (R1.length + 1) c1') = w3 at *
    have hok3 : ∀ k, w3.heap.size ≤ k → ok k := fun k hk => HOK.out k (Nat.le_trans hF3.out.size hk)
    have hg1 : w3.cell? ⟨g, 1, none⟩ = some v2 := (blk_cell hI3.out.cell 1).trans rfl
    have hg3 := blk_frozen hI3.out.cell 1
    have hBw3 : B ≤ w3.heap.size := Nat.le_trans hBw hF3.out.size
    have HSB3 : Blk w3 gs 3 S := hF3.out.out gs 3 _ HSB.out (by decide) (by decide) (blk_ne HSB.out HI.out.cell (by decide))
    have HS3 := Lib.hid (HSB3.C (by omega))
    have HOK3 := Lib.hid hok3
    clear HSB3 hok3 hg0 hg2
    clear w2
    go_wp2
    go_region_law (first
      | (refine Kd.R_append_rows_step (Kd.int .i64) (w0 := w0) B (by rfl) (.const (.slice none 0 0)) (.tmp 22) 106 3 (.int .i64 0) 8 (by rfl) Try.underlying106 info3 (by rfl) (by decide) (by omega) (.slice none 0 0) [] S (some ⟨gs, 0, none⟩) S.length S.length (fun k => w3.heap.size ≤ k) (fun _ => False) (by rfl) (by rfl) (Kd.R_nil _ _ _ _ _) HS3.out (fun _ _ h => h) (fun _ h => h.elim) (fun _ h => h) (below_drew hI3.out.bel) hBw3 (by simp; omega) ?_
         intro vi w4 hRi hBi hgi hni
         obtain ⟨Ai, ci, rfl⟩ := Kd.R_slice hRi
         have hbw4 := grown_none hgi
         have hx4 : w4.cell? ⟨g, 1, none⟩ = some v2 := (blk_cell (blk_below hI3.out.cell hbw4) 1).trans rfl
         have hN := hI3.out.newS hbw4
         have hnn4 := World.new_ne w4 _ hx4
         have hlt4 : g < w4.heap.size := blk_lt (blk_below hI3.out.cell hbw4)
         have hne4 : w4.heap.size ≠ g := by omega
         have hsz4 := hbw4.size)
      | (refine Kd.S_append_step (Kd.slice 3 (Kd.int .i64)) (w0 := w0) (W := w4) B (by rfl) (.tmp 21) (.tmp 24) 79 106 (.slice none 0 0) 24 (by rfl) Try.underlying79 info106 (by rfl) (by decide) (by omega) v2 R2 S _ ok (fun k => w3.heap.size ≤ k) (by rfl) (by rfl) ⟨_, rfl, hRi⟩ (fun k hk => ⟨HOK3.out k hk, hN.2 k hk⟩) (fun k hk => HOK3.out k (Nat.le_trans hsz4 hk)) hN.1 hBi (Nat.le_trans hBw3 hsz4) (by omega) ?_
         intro v2' w5 hS1 hB2 hg2' hat2
         obtain ⟨A2', c2', rfl⟩ := Kd.S_slice hS1
         have hA := hI3.out.addS hBg hbw4 hS1 hB2 hg2'
         have hx5 : w5.cell? ⟨g, 1, none⟩ = some v2 := (blk_cell hA.1 1).trans rfl
         have hf5 := blk_frozen hA.1 1))
    all_goals
      have hI6 := hA.2.1
      have hF6 := hA.2.2
      simp only [List.length_append, List.length_cons, List.length_nil, Nat.zero_add] at hI6 hF6
      go_end0
      exact ⟨rfl, _, _, hI6, hF3.out.trans hF6⟩
theorem rowT_length (n : Nat) (l : List S87) (p : Nat) : (rowT n l p).length = n := by simp [rowT]
theorem rowS_length (n : Nat) (l : List S87) (p : Nat) : (rowS n l p).length = n := by simp [rowS]
theorem rowT_get (n : Nat) (l : List S87) (p j : Nat) (hj : j < n) : (rowT n l p)[j]? = some (tk (pnd l) (pwh l) ((j : Nat) : Int) p) := by
  unfold rowT
  rw [List.getElem?_map, List.getElem?_range hj]
  rfl
theorem rowS_get (n : Nat) (l : List S87) (p j : Nat) (hj : j < n) : (rowS n l p)[j]? = some (since (pnd l) (pwh l) ((j : Nat) : Int) p) := by
  unfold rowS
  rw [List.getElem?_map, List.getElem?_range hj]
  rfl
theorem row_ext {n : Nat} {a b : List Int} (ha : a.length = n) (hb : b.length = n) (h : ∀ j, j < n → a[j]? = b[j]?) : a = b := by
  refine List.ext_getElem? (fun j => ?_)
  by_cases hj : j < n
  · exact h j hj
  · rw [List.getElem?_eq_none (by omega), List.getElem?_eq_none (by omega)]
theorem rowT_tick {n : Nat} {l : List S87} {i m : Nat} (hm : pnd l i = (m : Int)) (hw : pwh l i = 0) : rowT n l (i + 1) = (rowT n l i).set m (tk (pnd l) (pwh l) (m : Int) i + 1) := by
  refine row_ext (rowT_length n l _) (by rw [List.length_set, rowT_length]) (fun j hj => ?_)
  rw [rowT_get n l _ j hj, tk]
  by_cases e : j = m
  · subst e
    rw [if_pos ⟨hm, hw⟩, List.getElem?_set_self (by rw [rowT_length]; exact hj)]
  · rw [if_neg (fun q => e (by have := q.1; rw [hm] at this; omega)), List.getElem?_set_ne (fun q => e q.symm), rowT_get n l _ j hj]
theorem rowT_same {n : Nat} {l : List S87} {i : Nat} (hw : pwh l i ≠ 0) : rowT n l (i + 1) = rowT n l i := by
  refine row_ext (rowT_length n l _) (rowT_length n l _) (fun j hj => ?_)
  rw [rowT_get n l _ j hj, rowT_get n l _ j hj, tk, if_neg (fun q => hw q.2)]
theorem rowS_tick {n : Nat} {l : List S87} {i : Nat} (hw : pwh l i = 0) : rowS n l (i + 1) = rowS n l i := by
  refine row_ext (rowS_length n l _) (rowS_length n l _) (fun j hj => ?_)
  rw [rowS_get n l _ j hj, rowS_get n l _ j hj, since]
  split
  · rw [if_neg (by omega), if_neg (by omega)]
  · rfl
theorem rowS_fall {n : Nat} {l : List S87} {i m : Nat} (hm : pnd l i = (m : Int)) (hw : pwh l i = 1) : rowS n l (i + 1) = (rowS n l i).set m (-1) := by
  refine row_ext (rowS_length n l _) (by rw [List.length_set, rowS_length]) (fun j hj => ?_)
  rw [rowS_get n l _ j hj, since]
  by_cases e : j = m
  · subst e
    rw [if_pos hm, if_pos hw, List.getElem?_set_self (by rw [rowS_length]; exact hj)]
  · rw [if_neg (fun q => e (by rw [hm] at q; omega)), List.getElem?_set_ne (fun q => e q.symm), rowS_get n l _ j hj]
theorem rowS_rise {n : Nat} {l : List S87} {i m : Nat} (hm : pnd l i = (m : Int)) (hw : pwh l i = 2) : rowS n l (i + 1) = (rowS n l i).set m ((i : Int) + 1) := by
  refine row_ext (rowS_length n l _) (by rw [List.length_set, rowS_length]) (fun j hj => ?_)
  rw [rowS_get n l _ j hj, since]
  by_cases e : j = m
  · subst e
    rw [if_pos hm, if_neg (by omega), if_pos hw, List.getElem?_set_self (by rw [rowS_length]; exact hj)]
  · rw [if_neg (fun q => e (by rw [hm] at q; omega)), List.getElem?_set_ne (fun q => e q.symm), rowS_get n l _ j hj]
theorem Blk.set {w : World} {g e : Nat} {T : List Int} (h : Blk w g e T) (m : Nat) (x : Int) : Blk (w.setCell ⟨g, m, none⟩ (.int .i64 x)) g e (T.set m x) := by
  have := blk_set h m (.int .i64 x)
  unfold Blk
  rw [this]
  simp [List.map_set]
theorem Blk.cell {w : World} {g e : Nat} {T : List Int} (h : Blk w g e T) {m : Nat} {x : Int} (hx : T[m]? = some x) : w.cell? ⟨g, m, none⟩ = some (.int .i64 x) := by
  rw [blk_cell h m]
  simp [hx]
theorem Blk.keep {w w' : World} {g e : Nat} {T : List Int} (h : Blk w g e T) (hk : w'.heap[g]? = w.heap[g]?) : Blk w' g e T := hk.trans h
theorem Hist.step {w0 w w' : World} {B g : Nat} {ok : Nat → Prop} {v1 v2 : Value} {R1 R2 : List (List Int)} (h : Hist w0 w B g ok v1 v2 R1 R2) (hm : ∀ k, ok k ∨ k = g → k < w.heap.size → w'.heap[k]? = w.heap[k]?) (hb : Below B w0 w') : Hist w0 w' B g ok v1 v2 R1 R2 :=
  ⟨(hm g (.inr rfl) (blk_lt h.cell)).trans h.cell, Kd.S_step h.t (fun k hk hlt => hm k (.inl hk) hlt), Kd.S_step h.s (fun k hk hlt => hm k (.inl hk) hlt), hb⟩
/-- Where the loop stands behind i beats. -/
structure Loop (w0 w : World) (gr gt gs g n : Nat) (l : List S87) (i : Nat) : Prop where
  ex : ∃ v1 v2, Hist w0 w w0.heap.size g (fun k => k ≠ gr ∧ k ≠ gt ∧ k ≠ gs ∧ k ≠ g) v1 v2 ((List.range (i + 1)).map (rowT n l)) ((List.range (i + 1)).map (rowS n l))
  t : Blk w gt 2 (rowT n l i)
  s : Blk w gs 3 (rowS n l i)
  r : w.heap[gr]? = some (.cells #[.slice none 0 0, .slice none 0 0] 81 (0, 0))
  okb : okb (pnd l) (pwh l) (n : Int) i = true
theorem Loop.bel {w0 w : World} {gr gt gs g n : Nat} {l : List S87} {i : Nat} (h : Loop w0 w gr gt gs g n l i) : Below w0.heap.size w0 w := by
  obtain ⟨v1, v2, hh⟩ := h.ex
  exact hh.bel
def PlayPost (a0 : Int) (l : List S87) (w : World) (e : Ending) (w' : World) : Prop :=
  (playok a0 l = false ∧ e = .returned (.tuple #[.agg #[.slice none 0 0, .slice none 0 0], .bool false]) ∧ Below w.heap.size w w') ∨
  (playok a0 l = true ∧ ∃ v0 v1, e = .returned (.tuple #[.agg #[v0, v1], .bool true]) ∧ Kd.S (Kd.slice 2 (Kd.int .i64)) 105 w' w.heap.size (fun _ => True) v0 ((List.range (l.length + 1)).map (rowT a0.toNat l)) ∧ Kd.S (Kd.slice 3 (Kd.int .i64)) 106 w' w.heap.size (fun _ => True) v1 ((List.range (l.length + 1)).map (rowS a0.toNat l)) ∧ Below w.heap.size w w')
set_option maxHeartbeats 1000000 in
theorem played_bad (a0 : Int) (A : Option Addr) (c : Nat) (l : List S87) (w : World) (h : a0 < 1 ∨ 64 < a0 ∨ 400 < l.length) :
    Calls Try.prog 45 #[.int .i64 a0, .slice A l.length c] w fun e w' => PlayPost a0 l w e w' := by
  have hu81 := Try.underlying81
  have hp : playok a0 l = false := by
    unfold playok
    rw [decide_eq_false (by omega), Bool.false_and]
  by_cases h1 : a0 < 1
  · have c1 : decide (a0 < 1) = true := by simpa using h1
    go_enter Try.func45, Try.ntmps45
    go_wp2
    all_goals
      refine bodyPost_ret (v := .tuple #[.agg #[.slice none 0 0, .slice none 0 0], .bool false]) (by simp [results, Try.results45, go_sem]) rfl (.inl ⟨hp, rfl, ?_⟩)
      exact (Below.refl _ w).alloc (Nat.le_refl _) _
  · have c1 : decide (a0 < 1) = false := by simpa using h1
    by_cases h2 : 64 < a0
    · have c2 : decide (64 < a0) = true := by simpa using h2
      go_enter Try.func45, Try.ntmps45
      go_wp2
      all_goals
        refine bodyPost_ret (v := .tuple #[.agg #[.slice none 0 0, .slice none 0 0], .bool false]) (by simp [results, Try.results45, go_sem]) rfl (.inl ⟨hp, rfl, ?_⟩)
        exact (Below.refl _ w).alloc (Nat.le_refl _) _
    · have c2 : decide (64 < a0) = false := by simpa using h2
      have c3 : decide ((400 : Int) < (l.length : Int)) = true := by simp; omega
      have c4 : decide (400 < l.length) = true := by simp; omega
      go_enter Try.func45, Try.ntmps45
      go_wp2
      all_goals
        refine bodyPost_ret (v := .tuple #[.agg #[.slice none 0 0, .slice none 0 0], .bool false]) (by simp [results, Try.results45, go_sem]) rfl (.inl ⟨hp, rfl, ?_⟩)
        exact (Below.refl _ w).alloc (Nat.le_refl _) _
end Go.Proofs.Ytahppppkepcbkaa.Fn
