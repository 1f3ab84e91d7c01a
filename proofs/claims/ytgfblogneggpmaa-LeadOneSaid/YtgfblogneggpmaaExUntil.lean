/- lead.Until, by hand: the number at the place from which a majority is left, in order. -/
import Derived.Test.YtgfblogneggpmaaFnx17
import Derived.Test.YtgfblogneggpmaaFnx4
import Derived.Test.YtgfblogneggpmaaFnx0
import Derived.Test.YtgfblogneggpmaaHand
import Derived.Test.YtgfblogneggpmaaThr
import Derived.Test.YtgfblogneggpmaaExCheck
import Derived.Test.YtgfblogneggpmaaExSort
import Derived.BigRegion
import Derived.Deep.LoopGhost
import Derived.Laws.CopyOwn
import Derived.OwnWalk
import Derived.Sort.OwnSortedInts
namespace Go.Proofs.Ytgfblogneggpmaa.Fn
open Go.RowKit Go.Proofs.YtgfblogneggpmaaW.PrintWords Go.Proofs.YtgfblogneggpmaaW.PrintLast Go.Proofs.YtgfblogneggpmaaW.PrintMore Go.Proofs.Ytgfblogneggpmaa.Thr
set_option linter.unusedVariables false
set_option linter.unusedSimpArgs false
set_option maxRecDepth 100000
theorem merge_ord (l : List Int) : l.mergeSort (fun x y => decide (x ≤ y)) = ord l := by
  refine sorted_eq _ _ ?_ (ord_sorted l) ((List.mergeSort_perm l _).trans (ord_perm l).symm)
  have h := List.pairwise_mergeSort (le := fun x y : Int => decide (x ≤ y)) (fun a b c h1 h2 => by simp at *; omega) (fun a b => by simp; omega) l
  exact h.imp (fun h => by simpa using h)
/-- Behind the sort the row holds the numbers in order; elder blocks stay. -/
theorem sorted_row {w w1 w2 : World} {g : Nat} {l : List Int} {cur : Array Value} (hcur : w1.heap[g]? = some (.cells cur 2 (0, 0))) (hl : cur.toList = l.map (Value.int .i64)) (hb : Below w.heap.size w w1) (hg : w.heap.size ≤ g)
    (hs : ∃ n os, w2 = Go.Sort.grow (Go.Sort.putRow (Value.int .i64) (Go.Sort.ahead w1 n) g 0 (l.mergeSort fun x y => decide (x ≤ y)).toArray) os) :
    (∀ j : Nat, j < l.length → w2.cell? ⟨g, j, none⟩ = some (.int .i64 ((ord l).getD j 0))) ∧ Below w.heap.size w w2 := by
  obtain ⟨n, os, rfl⟩ := hs
  rw [merge_ord]
  have hlen := ord_length l
  have hcs : cur.size = l.length := by rw [← Array.length_toList, hl, List.length_map]
  have hrow := heap_sortedI (n := n) (os := os) (ord l).toArray hcur
  have hgr := grownBy_sortedI (w := w1) (g := g) (n := n) (os := os) (ord l).toArray
  refine ⟨fun j hj => ?_, pw_below_grown hb (some g) hb.size hgr (fun k hk => by cases hk; exact hg)⟩
  refine (blk_cell hrow j).trans ?_
  have ht := take_putCellsI cur (ord l) (by omega)
  have h2 : ((Go.Sort.putCells (Value.int .i64) 0 (ord l).toArray cur).toList.take (ord l).length)[j]? = ((ord l).map (Value.int .i64))[j]? := by rw [ht]
  rw [List.getElem?_take_of_lt (by omega), Array.getElem?_toList] at h2
  rw [h2]
  simp [show j < (ord l).length by omega]
def lead_Until.f (a0_0 : Int) (a0_1 : Int) (a0_2 : Int) (a1_0 : Int) (l1_1 : List Int) : Option (Int × Bool × Int) :=
  (vote_Hold.f a0_0 a0_1 a0_2).bind fun x => if x.2 = 0 ∧ leadok l1_1 = true then (if thr l1_1 (l1_1.length / 2 + 1) < 0 then some (0, false, 0) else some (wrap64 (thr l1_1 (l1_1.length / 2 + 1) + x.1), true, 0)) else some (0, false, 1)
set_option maxHeartbeats 1000000 in
theorem until_bad1 (a0 a1 a2 e : Int) (A : Option Addr) (c : Nat) (l : List Int) (h e1 : Int) (w : World) (hH : vote_Hold.f a0 a1 a2 = some (h, e1)) (he : e1 ≠ 0) :
    Calls Try.prog 23 #[.agg #[.int .i64 a0, .int .i64 a1, .int .i64 a2], .agg #[.int .u64 e, .slice A l.length c]] w fun e w' => e = .returned (.tuple #[.int .i64 0, .bool false, .int .i64 1]) ∧ Below w.heap.size w w' := by
  have hu52 := Try.underlying52
  have hu23 := Try.underlying23
  have H := Lib.hid hH
  have c1 : decide (e1 = 0) = false := by simpa using he
  clear hH
  go_enter Try.func23, Try.ntmps23
  go_wp2_with (go_at_call 19; refine (vote_Hold.calls a0 a1 a2 h e1 _ H.out).mono ?_; rintro e w1 ⟨rfl, hb⟩; obtain ⟨hc, hf⟩ := bcell hb; have HB := Lib.hid hb; clear hb)
  all_goals
    refine bodyPost_ret (v := .tuple #[.int .i64 0, .bool false, .int .i64 1]) (by simp [results, Try.results23, go_sem]) rfl ⟨rfl, ?_⟩
    exact (((Below.refl _ w).alloc (Nat.le_refl _) _).alloc (by simp) _).trans (HB.out.mono (by simp; omega))
set_option maxHeartbeats 1000000 in
theorem until_bad2 (a0 a1 a2 e : Int) (A : Option Addr) (c : Nat) (l : List Int) (h : Int) (w : World) (hr : Kd.C (Kd.int .i64) w A l.length l) (hc : l.length ≤ c) (hH : vote_Hold.f a0 a1 a2 = some (h, 0)) (hk : leadok l = false) :
    Calls Try.prog 23 #[.agg #[.int .i64 a0, .int .i64 a1, .int .i64 a2], .agg #[.int .u64 e, .slice A l.length c]] w fun e w' => e = .returned (.tuple #[.int .i64 0, .bool false, .int .i64 1]) ∧ Below w.heap.size w w' := by
  have hu52 := Try.underlying52
  have hu23 := Try.underlying23
  have H := Lib.hid hH
  have hcf : lead_Check.f e l = some 1 := by unfold lead_Check.f; rw [hk]; rfl
  have HC := Lib.hid hcf
  have HR := Lib.hid hr
  clear hH hcf hr
  go_enter Try.func23, Try.ntmps23
  go_wp2_with (first
    | (go_at_call 19; refine (vote_Hold.calls a0 a1 a2 h 0 _ H.out).mono ?_; rintro e w1 ⟨rfl, hb⟩; obtain ⟨hcc, hf⟩ := bcell hb; have hz : w.heap.size + 1 < w1.heap.size := by (have := hb.size; simp at this; omega)
       have HB := Lib.hid ((((Below.refl _ w).alloc (Nat.le_refl _) _).alloc (by simp) _).trans (hb.mono (by simp; omega)))
       clear hb)
    | (go_at_call 28; refine (lead_Check.calls e A c l 1 _ (Kd.C_below HR.out HB.out) hc HC.out).mono ?_; rintro e w2 ⟨rfl, hb⟩; have HB2 := Lib.hid (HB.out.trans (hb.mono HB.out.size)); clear hb))
  all_goals
    refine bodyPost_ret (v := .tuple #[.int .i64 0, .bool false, .int .i64 1]) (by simp [results, Try.results23, go_sem]) rfl ⟨rfl, HB2.out⟩
/-- What the copy of a list of at least one leaves: the row whole. -/
theorem copied_row {w w1 : World} {g n : Nat} {A : Option Addr} {c : Nat} {l : List Int} {cur : Array Value} (hn : n = l.length) (h1 : 1 ≤ n) (hr : Kd.C (Kd.int .i64) w1 A l.length l) (hcur : w1.heap[g]? = some (.cells cur 2 (0, 0))) (hcs : cur.size = n) (hb : Below w.heap.size w w1) (hg : w.heap.size ≤ g)
    (hsz : (Try.prog.info? 2).map (·.size) = some 1) :
    ∃ w2, (Builtin.copy_ #[28, 28] 3 #[.slice (some ⟨g, 0, none⟩) n n, .slice A n c]).run Try.prog w1 = .ok (.int .i64 (n : Int)) w2 ∧ w2.heap[g]? = some (.cells (l.map (Value.int .i64)).toArray 2 (0, 0)) ∧ Below w.heap.size w w2 := by
  subst hn
  obtain ⟨ad, rfl, _⟩ := Kd.at_int hr 0 (by omega) (by omega)
  have hrun := run_copy_row (P := Try.prog) w1 28 28 3 2 g 0 l.length l.length ad l.length c cur 2 (l.map (Value.int .i64)) Try.underlying28 hsz hcur (by rw [List.length_map]; show l.length = min l.length l.length; omega) (by
      intro j v hv
      rw [List.getElem?_map] at hv
      by_cases hj : j < l.length
      · obtain ⟨ad', he, hx⟩ := Kd.at_int hr (j : Int) (by omega) (by omega)
        cases he
        rw [Int.toNat_natCast] at hx
        rw [hx]
        rw [List.getElem?_eq_getElem hj] at hv
        rw [← hv]
        show some (Value.int .i64 (l.getD ((j : Int)).toNat 0)) = _
        simp [hj]
      · rw [List.getElem?_eq_none (by omega)] at hv
        cases hv) (by rw [List.length_map]; omega) (by simp [Value.oneCell'])
  have he : cur.toList.take 0 ++ l.map (Value.int .i64) ++ cur.toList.drop (0 + (l.map (Value.int .i64)).length) = l.map (Value.int .i64) := by
    rw [List.length_map, Nat.zero_add, List.take_zero, List.nil_append, List.drop_of_length_le (by rw [Array.length_toList]; omega), List.append_nil]
  rw [he, List.length_map] at hrun
  exact ⟨w1.setRow g (l.map (Value.int .i64)).toArray, by rw [hrun]; simp [goInt], setRow_heap w1 g cur _ 2 (0, 0) hcur, below_setRow hb hg _⟩
theorem made_row {w w1 w2 : World} {n : Nat} {xs : List Value} (hb : Below w.heap.size w w1) (hown : w2.ownsRow w.heap.size 2 1 (.slice (some ⟨w1.heap.size, 0, none⟩) n n) n xs) (hg : w1.grownBy w2 none) :
    (∃ cur : Array Value, w2.heap[w1.heap.size]? = some (.cells cur 2 (0, 0)) ∧ cur.size = n) ∧ Below w.heap.size w w2 ∧ Below w1.heap.size w1 w2 := by
  refine ⟨?_, pw_below_grown hb none hb.size hg (fun k hk => by cases hk), pw_below_grown (Below.refl _ w1) none (Nat.le_refl _) hg (fun k hk => by cases hk)⟩
  rcases hown.2 with ⟨h0, _⟩ | ⟨g, cap, cur, hv, _, hh, _, _, h3, _⟩
  · cases h0
  · cases hv
    exact ⟨cur, hh, by omega⟩
theorem maj_eq (n : Nat) (h1 : 1 ≤ n) (h2 : n ≤ 64) : lead_Majority.f (n : Int) = some ((n / 2 + 1 : Nat) : Int) := by
  unfold lead_Majority.f
  rw [if_neg (by omega), Int.tdiv_eq_ediv_of_nonneg (by omega)]
  congr 1
  have e1 : wrap64 ((n : Int) / 2) = (n : Int) / 2 := by unfold wrap64; omega
  rw [e1]
  unfold wrap64
  omega
set_option maxHeartbeats 2000000 in
theorem until_good (a0 a1 a2 e : Int) (A : Option Addr) (c : Nat) (l : List Int) (h : Int) (w : World) (hr : Kd.C (Kd.int .i64) w A l.length l) (hc : l.length ≤ c) (hH : vote_Hold.f a0 a1 a2 = some (h, 0)) (hk : leadok l = true) (v : Int) (hv : thr l (l.length / 2 + 1) = v) (res : Value) (hres : res = if v < 0 then .tuple #[.int .i64 0, .bool false, .int .i64 0] else .tuple #[.int .i64 (wrap64 (v + h)), .bool true, .int .i64 0]) :
    Calls Try.prog 23 #[.agg #[.int .i64 a0, .int .i64 a1, .int .i64 a2], .agg #[.int .u64 e, .slice A l.length c]] w fun e w' => e = .returned res ∧ Below w.heap.size w w' := by
  have HRES := Lib.hid hres
  have HV := Lib.hid hv
  clear hres hv
  have hu52 := Try.underlying52
  have hu23 := Try.underlying23
  have H := Lib.hid hH
  have hcf : lead_Check.f e l = some 0 := by unfold lead_Check.f; rw [hk]; rfl
  obtain ⟨hl1, hl2⟩ : 1 ≤ l.length ∧ l.length ≤ 64 := by
    unfold leadok at hk
    rw [Bool.and_eq_true, Bool.and_eq_true, decide_eq_true_eq, decide_eq_true_eq] at hk
    exact ⟨hk.1, hk.2.1⟩
  obtain ⟨i2, hi2, hz2⟩ := Option.map_eq_some_iff.1 info2
  simp only [Prod.mk.injEq] at hz2
  obtain ⟨hz, hs, hby⟩ := hz2
  have hsz : (Try.prog.info? 2).map (·.size) = some 1 := by rw [hi2]; simp [hs]
  have HC := Lib.hid hcf
  have HR := Lib.hid hr
  clear hH hcf hr hk
  go_enter Try.func23, Try.ntmps23
  go_wp2_with (first
    | (go_at_call 19; refine (vote_Hold.calls a0 a1 a2 h 0 _ H.out).mono ?_; rintro e w1 ⟨rfl, hb⟩; obtain ⟨hcc, hf⟩ := bcell hb; have hzz : w.heap.size + 1 < w1.heap.size := by (have := hb.size; simp at this; omega)
       have HB := Lib.hid ((((Below.refl _ w).alloc (Nat.le_refl _) _).alloc (by simp) _).trans (hb.mono (by simp; omega)))
       have hx1 : w1.cell? ⟨w.heap.size + 1, 1, none⟩ = some (.slice A l.length c) := by (rw [hcc _ _ (by simp)]; simp [go_sem])
       have hx0 : w1.cell? ⟨w.heap.size + 1, 0, none⟩ = some (.int .u64 e) := by (rw [hcc _ _ (by simp)]; simp [go_sem])
       clear hb hcc hf)
    | (go_at_call 28; refine (lead_Check.calls e A c l 0 _ (Kd.C_below HR.out HB.out) hc HC.out).mono ?_; rintro e w2 ⟨rfl, hb⟩; have HB2 := Lib.hid (HB.out.trans (hb.mono HB.out.size)); have hx2 := ((bcell hb).1 (w.heap.size + 1) 1 hzz).trans hx1; have hz2 : w.heap.size + 1 < w2.heap.size := by (have := hb.size; omega)
       clear hb)
    | ((with_reducible refine gate_dst (N := 26) rfl ?_); refine wpList_make_full _ (by rfl) (.tmp 25) (.tmp 25) 28 (by rfl) w.heap.size 2 i2 (.int .i64 0) 1 Try.underlying28 hi2 hz hs .i64 .i64 (l.length : Int) (l.length : Int) l.length (by rfl) (by rfl) rfl rfl (by rw [hby]; omega) (by simp [maxLen]; omega) HB2.out.size ?_
       intro w3 hown hg2
       have hx3 := ((bcell (made_row HB2.out hown hg2).2.2).1 (w.heap.size + 1) 1 hz2).trans hx2
       have HM := Lib.hid (made_row HB2.out hown hg2)
       clear hown hg2))
  obtain ⟨⟨cur, hcur, hcs⟩, hb3, hb23⟩ := HM.out
  have hgw := HB2.out.size
  clear HM
  generalize w2.heap.size = g at *
  obtain ⟨w4, hcp, hrow4, hb4⟩ := copied_row (c := c) rfl hl1 (Kd.C_below HR.out hb3) hcur hcs hb3 hgw hsz
  have HROW := Lib.hid hrow4
  have HB4 := Lib.hid hb4
  have HGW := Lib.hid hgw
  clear hrow4 hb4 hb23 HB2 HB hx2 hx1 hx0 hcur hcs hb3 hgw
  clear cur
  rw [hcp]
  clear hcp
  go_wp2_with (first
    | (go_at_call 55
       refine (AnyM.slices_Sort_int lsort g 0 l.length l w4 (holds_of_blockI HROW.out (by show (l.map (Value.int .i64)).take l.length = _; exact List.take_of_length_le (by simp))) (by have := (Array.getElem?_eq_some_iff.1 HROW.out).1; exact this) (by omega)).mono ?_
       rintro e w5 ⟨rfl, hs5⟩
       obtain ⟨hget, hb5⟩ := sorted_row HROW.out (by simp) HB4.out HGW.out hs5
       have HGET := Lib.hid hget
       have HB5 := Lib.hid hb5
       clear hget hb5 hs5))
  refine (lead_Majority.calls (l.length : Int) ((l.length / 2 + 1 : Nat) : Int) _ (maj_eq l.length hl1 hl2)).mono ?_
  rintro e w6 ⟨rfl, hd⟩
  obtain ⟨k, hk⟩ : ∃ k : Nat, k = l.length - (l.length / 2 + 1) := ⟨_, rfl⟩
  have e1 : wrap64 ((l.length : Int) - ((l.length / 2 + 1 : Nat) : Int)) = (k : Int) := by unfold wrap64; omega
  have hkl : (k : Int) < (l.length : Int) := by omega
  have hk0 : 0 ≤ (k : Int) := by omega
  have hg5 : g < w5.heap.size := by
    have h1 := HGET.out 0 (by omega)
    exact World.block_lt_of_cell? w5 _ h1
  have hcell : w6.cell? ⟨g, k, none⟩ = some (.int .i64 v) := by
    rw [(bcell hd.below).1 g k hg5, HGET.out k (by omega), hk, ← HV.out]
    rfl
  have HB6 := Lib.hid (HB5.out.trans (hd.below.mono HB5.out.size))
  have HE := Lib.hid hk
  clear hd hk HB4 HROW
  generalize hm : ((l.length / 2 + 1 : Nat) : Int) = m at *
  clear hm
  by_cases hneg : v < 0
  · have c1 : decide (v < 0) = true := by simpa using hneg
    have hr2 := HRES.out
    rw [if_pos hneg] at hr2
    subst hr2
    go_wp2
    all_goals
      refine bodyPost_ret (v := .tuple #[.int .i64 0, .bool false, .int .i64 0]) (by simp [results, Try.results23, go_sem]) rfl ⟨rfl, HB6.out⟩
  · have c1 : decide (v < 0) = false := by simpa using hneg
    have hr2 := HRES.out
    rw [if_neg hneg] at hr2
    subst hr2
    go_wp2
    all_goals
      refine bodyPost_ret (v := .tuple #[.int .i64 (wrap64 (v + h)), .bool true, .int .i64 0]) (by simp [results, Try.results23, go_sem]) rfl ⟨rfl, HB6.out⟩
theorem lead_Until.calls (a0_0 : Int) (a0_1 : Int) (a0_2 : Int) (a1_0 : Int) (A1_1 : Option Addr) (c1_1 : Nat) (l1_1 : List Int) (r1 : Int) (r2 : Bool) (r3 : Int) (w : World) (hr1_1 : Kd.C (Kd.int .i64) w A1_1 l1_1.length l1_1) (hc1_1 : l1_1.length ≤ c1_1) (h : lead_Until.f a0_0 a0_1 a0_2 a1_0 l1_1 = some (r1, r2, r3)) :
    Calls Try.prog 23 #[.agg #[.int .i64 a0_0, .int .i64 a0_1, .int .i64 a0_2], .agg #[.int .u64 a1_0, .slice A1_1 l1_1.length c1_1]] w fun e w' => e = .returned (.tuple #[.int .i64 r1, .bool r2, .int .i64 r3]) ∧ Below w.heap.size w w' := by
  unfold lead_Until.f at h
  obtain ⟨⟨hd, e1⟩, hH, h⟩ := Option.bind_eq_some_iff.1 h
  simp only at h
  by_cases he : e1 = 0
  · subst he
    cases hk : leadok l1_1 with
    | true =>
      rw [if_pos ⟨rfl, hk⟩] at h
      refine until_good a0_0 a0_1 a0_2 a1_0 A1_1 c1_1 l1_1 hd w hr1_1 hc1_1 hH hk _ rfl _ ?_
      by_cases hn : thr l1_1 (l1_1.length / 2 + 1) < 0
      · rw [if_pos hn] at h ⊢
        simp only [Option.some.injEq, Prod.mk.injEq] at h
        obtain ⟨rfl, rfl, rfl⟩ := h
        rfl
      · rw [if_neg hn] at h ⊢
        simp only [Option.some.injEq, Prod.mk.injEq] at h
        obtain ⟨rfl, rfl, rfl⟩ := h
        rfl
    | false =>
      rw [if_neg (fun q => by rw [hk] at q; cases q.2)] at h
      simp only [Option.some.injEq, Prod.mk.injEq] at h
      obtain ⟨rfl, rfl, rfl⟩ := h
      exact until_bad2 a0_0 a0_1 a0_2 a1_0 A1_1 c1_1 l1_1 hd w hr1_1 hc1_1 hH hk
  · rw [if_neg (fun q => he q.1)] at h
    simp only [Option.some.injEq, Prod.mk.injEq] at h
    obtain ⟨rfl, rfl, rfl⟩ := h
    exact until_bad1 a0_0 a0_1 a0_2 a1_0 A1_1 c1_1 l1_1 hd e1 w hH he
end Go.Proofs.Ytgfblogneggpmaa.Fn
