/- dice.Below, by hand: what it draws. -/
import Derived.Test.YtlanodnbdgiihaaFnx2
import Derived.Test.YtlanodnbdgiihaaHand
import Derived.RegionTactic
namespace Go.Proofs.Ytlanodnbdgiihaa.Fn
open Go.RowKit Go.Proofs.YtlanodnbdgiihaaW.PrintWords Go.Proofs.YtlanodnbdgiihaaW.PrintLast Go.Proofs.YtlanodnbdgiihaaW.PrintMore
set_option linter.unusedVariables false
set_option linter.unusedSimpArgs false
def dice_Below.f (a0_0 : ByteArray) (a0_1 : Int) (a1 : Int) : Option (Int × ByteArray × Int × Int) :=
  if 0 ≤ a0_1 ∧ a0_1 ≤ (a0_0.size : Int) ∧ 1 ≤ a1 ∧ a1 ≤ 256 then (dice_hand_below.f a0_0 a0_1 a1).map fun x => (x.1, x.2.1, x.2.2, 0) else some (0, a0_0, a0_1, 1)
set_option maxHeartbeats 400000 in
theorem below_bad (L : ByteArray) (at_ m : Int) (w : World) (h : dice_Check.f L at_ = some 1) :
    Calls Try.prog 16 #[.agg #[.string L, .int .i64 at_], .int .i64 m] w fun e w' => e = .returned (.tuple #[.int .i64 0, .agg #[.string L, .int .i64 at_], .int .i64 1]) ∧ Below w.heap.size w w' := by
  have hu23 := Try.underlying23
  have H := Lib.hid h
  clear h
  go_enter Try.func16, Try.ntmps16
  go_wp2_with (go_at_call 18; refine (dice_Check.calls L at_ 1 _ H.out).mono ?_; rintro e w1 ⟨rfl, hb⟩; obtain ⟨hc, hf⟩ := bcell hb; have HB := Lib.hid hb; clear hb)
  go_region
  all_goals go_wp2
  all_goals
    refine bodyPost_ret (v := .tuple #[.int .i64 0, .agg #[.string L, .int .i64 at_], .int .i64 1]) ?_ rfl ?_
    · have hz : w.heap.size + 1 < w1.heap.size := by have := HB.out.size; simp at this; omega
      simp [results, Try.results16, go_sem, hc, hz]
    · refine ⟨rfl, ?_⟩
      have hb := HB.out
      exact (((((Below.refl _ w).alloc (Nat.le_refl _) _).alloc (by simp) _).trans (hb.mono (by simp; omega))).drew.setCell (by simp) _).setCell (by simp) _
set_option maxHeartbeats 400000 in
theorem below_good (L : ByteArray) (at_ m r1 : Int) (r2 : ByteArray) (r3 : Int) (w : World) (h : dice_Check.f L at_ = some 0) (h1 : 1 ≤ m) (h2 : m ≤ 256) (h' : dice_hand_below.f L at_ m = some (r1, r2, r3)) :
    Calls Try.prog 16 #[.agg #[.string L, .int .i64 at_], .int .i64 m] w fun e w' => e = .returned (.tuple #[.int .i64 r1, .agg #[.string r2, .int .i64 r3], .int .i64 0]) ∧ Below w.heap.size w w' := by
  have hu23 := Try.underlying23
  have hu66 := Try.underlying66
  have H := Lib.hid h
  have H' := Lib.hid h'
  have c1 : decide (m < 1) = false := by simp; omega
  have c2 : decide (256 < m) = false := by simp; omega
  clear h h' 
  go_enter Try.func16, Try.ntmps16
  go_wp2_with (go_at_call 18; refine (dice_Check.calls L at_ 0 _ H.out).mono ?_; rintro e w1 ⟨rfl, hb⟩; obtain ⟨hc, hf⟩ := bcell hb; have HB := Lib.hid hb; clear hb)
  refine (dice_hand_below.calls w1.heap.size L at_ m r1 r2 r3 w _ ⟨blk_new w1 _, by have := HB.out.size; simp at this; omega⟩ (by
    have hb := HB.out
    exact (((Below.refl _ w).alloc (Nat.le_refl _) _).alloc (by simp) _).trans (hb.mono (by simp; omega)) |>.alloc (by have := hb.size; simp at this; omega) _) H'.out).mono ?_
  rintro e w2 ⟨rfl, ⟨hI, _⟩, hb2, hk⟩
  obtain ⟨hc2, hf2⟩ := kcell hk
  have hz : w.heap.size + 1 < w1.heap.size := by have := HB.out.size; simp at this; omega
  have hz2 : w1.heap.size < w2.heap.size := by have := hk.1; simp at this; omega
  have hg0 := (blk_cell hI 0).trans rfl
  have hg1 := (blk_cell hI 1).trans rfl
  have hg2 := blk_frozen hI
  obtain ⟨hc3, hf3⟩ := bcell (below_alloc (Below.refl _ w1) (.cells #[.string L, .int .i64 at_] 66))
  have a0 : w2.cell? ⟨w.heap.size + 1, 0, none⟩ = some (.string (⟨#[]⟩ : ByteArray)) := by rw [hc2 _ _ (by simp; omega) (by omega), hc3 _ _ (by omega), hc _ _ (by simp)]; simp
  have a1 : w2.cell? ⟨w.heap.size + 1, 1, none⟩ = some (.int .i64 0) := by rw [hc2 _ _ (by simp; omega) (by omega), hc3 _ _ (by omega), hc _ _ (by simp)]; simp
  have a2 : ∀ o, w2.frozen? ⟨w.heap.size + 1, o, none⟩ = false := fun o => by rw [hf2 _ _ (by simp; omega) (by omega), hf3 _ _ (by omega), hf _ _ (by simp)]; simp
  have hne : w1.heap.size ≠ w.heap.size + 1 := by omega
  have hne' : w.heap.size + 1 ≠ w1.heap.size := by omega
  have HB2 := Lib.hid hb2
  clear hb2 hk hI hc2 hf2 hc3 hf3 hc hf HB
  go_wp2
  go_region
  all_goals go_wp2
  all_goals
    refine bodyPost_ret (v := .tuple #[.int .i64 r1, .agg #[.string r2, .int .i64 r3], .int .i64 0]) ?_ rfl ?_
    · have hz3 : w.heap.size + 1 < w2.heap.size := by omega
      simp [results, Try.results16, go_sem, hz3, a0, a1]
    · refine ⟨rfl, ?_⟩
      exact ((HB2.out.drew).setCell (by simp) _).setCell (by simp) _
set_option maxHeartbeats 400000 in
theorem below_bad2 (L : ByteArray) (at_ m : Int) (w : World) (h : dice_Check.f L at_ = some 0) (hm : m < 1) :
    Calls Try.prog 16 #[.agg #[.string L, .int .i64 at_], .int .i64 m] w fun e w' => e = .returned (.tuple #[.int .i64 0, .agg #[.string L, .int .i64 at_], .int .i64 1]) ∧ Below w.heap.size w w' := by
  have hu23 := Try.underlying23
  have H := Lib.hid h
  have c1 : decide (m < 1) = true := by simpa using hm
  clear h
  go_enter Try.func16, Try.ntmps16
  go_wp2_with (go_at_call 18; refine (dice_Check.calls L at_ 0 _ H.out).mono ?_; rintro e w1 ⟨rfl, hb⟩; obtain ⟨hc, hf⟩ := bcell hb; have HB := Lib.hid hb; clear hb)
  go_region
  all_goals go_wp2
  all_goals
    refine bodyPost_ret (v := .tuple #[.int .i64 0, .agg #[.string L, .int .i64 at_], .int .i64 1]) ?_ rfl ?_
    · have hz : w.heap.size + 1 < w1.heap.size := by have := HB.out.size; simp at this; omega
      simp [results, Try.results16, go_sem, hc, hz]
    · refine ⟨rfl, ?_⟩
      have hb := HB.out
      exact (((((Below.refl _ w).alloc (Nat.le_refl _) _).alloc (by simp) _).trans (hb.mono (by simp; omega))).drew.setCell (by simp) _).setCell (by simp) _
set_option maxHeartbeats 400000 in
theorem below_bad3 (L : ByteArray) (at_ m : Int) (w : World) (h : dice_Check.f L at_ = some 0) (hm1 : 1 ≤ m) (hm : 256 < m) :
    Calls Try.prog 16 #[.agg #[.string L, .int .i64 at_], .int .i64 m] w fun e w' => e = .returned (.tuple #[.int .i64 0, .agg #[.string L, .int .i64 at_], .int .i64 1]) ∧ Below w.heap.size w w' := by
  have hu23 := Try.underlying23
  have H := Lib.hid h
  have c1 : decide (m < 1) = false := by simp; omega
  have c2 : decide (256 < m) = true := by simpa using hm
  clear h
  go_enter Try.func16, Try.ntmps16
  go_wp2_with (go_at_call 18; refine (dice_Check.calls L at_ 0 _ H.out).mono ?_; rintro e w1 ⟨rfl, hb⟩; obtain ⟨hc, hf⟩ := bcell hb; have HB := Lib.hid hb; clear hb)
  go_region
  all_goals go_wp2
  all_goals
    refine bodyPost_ret (v := .tuple #[.int .i64 0, .agg #[.string L, .int .i64 at_], .int .i64 1]) ?_ rfl ?_
    · have hz : w.heap.size + 1 < w1.heap.size := by have := HB.out.size; simp at this; omega
      simp [results, Try.results16, go_sem, hc, hz]
    · refine ⟨rfl, ?_⟩
      have hb := HB.out
      exact (((((Below.refl _ w).alloc (Nat.le_refl _) _).alloc (by simp) _).trans (hb.mono (by simp; omega))).drew.setCell (by simp) _).setCell (by simp) _

theorem dice_Below.calls (a0_0 : ByteArray) (a0_1 : Int) (a1 : Int) (r1 : Int) (r2 : ByteArray) (r3 : Int) (r4 : Int) (w : World) (h : dice_Below.f a0_0 a0_1 a1 = some (r1, r2, r3, r4)) :
    Calls Try.prog 16 #[.agg #[.string a0_0, .int .i64 a0_1], .int .i64 a1] w fun e w' => e = .returned (.tuple #[.int .i64 r1, .agg #[.string r2, .int .i64 r3], .int .i64 r4]) ∧ Below w.heap.size w w' := by
  unfold dice_Below.f at h
  by_cases hg : 0 ≤ a0_1 ∧ a0_1 ≤ (a0_0.size : Int) ∧ 1 ≤ a1 ∧ a1 ≤ 256
  · rw [if_pos hg] at h
    obtain ⟨⟨x1, x2, x3⟩, hx, he⟩ := Option.map_eq_some_iff.1 h
    simp only [Prod.mk.injEq] at he
    obtain ⟨rfl, rfl, rfl, rfl⟩ := he
    exact below_good a0_0 a0_1 a1 _ _ _ w (by unfold dice_Check.f; rw [if_neg (by omega), if_neg (by omega)]) hg.2.2.1 hg.2.2.2 hx
  · rw [if_neg hg] at h
    simp only [Option.some.injEq, Prod.mk.injEq] at h
    obtain ⟨rfl, rfl, rfl, rfl⟩ := h
    by_cases h1 : 0 ≤ a0_1 ∧ a0_1 ≤ (a0_0.size : Int)
    · have hc : dice_Check.f a0_0 a0_1 = some 0 := by unfold dice_Check.f; rw [if_neg (by omega), if_neg (by omega)]
      by_cases h2 : a1 < 1
      · exact below_bad2 a0_0 a0_1 a1 w hc h2
      · exact below_bad3 a0_0 a0_1 a1 w hc (by omega) (by omega)
    · refine below_bad a0_0 a0_1 a1 w ?_
      unfold dice_Check.f
      by_cases h2 : a0_1 < 0
      · rw [if_pos h2]
      · rw [if_neg h2, if_pos (by omega)]
end Go.Proofs.Ytlanodnbdgiihaa.Fn
