/- dice.mix and dice.Shuffle, by hand: the order that the draws give. -/
import Derived.Test.YtlanodnbdgiihaaFnx0
import Derived.Test.YtlanodnbdgiihaaFnx2
import Derived.Test.YtlanodnbdgiihaaFnx3
import Derived.Test.YtlanodnbdgiihaaHand
import Derived.BigRegion
import Derived.Deep.LoopGhost
namespace Go.Proofs.Ytlanodnbdgiihaa.Fn
open Go.RowKit Go.Proofs.YtlanodnbdgiihaaW.PrintWords Go.Proofs.YtlanodnbdgiihaaW.PrintLast Go.Proofs.YtlanodnbdgiihaaW.PrintMore
set_option linter.unusedVariables false
set_option linter.unusedSimpArgs false
/-- Two numbers change places. -/
def swp (l : List Int) (i k : Nat) : List Int := (l.set i (l.getD k 0)).set k (l.getD i 0)
/-- What is left of a shuffle from place i on. -/
def mixr (L : ByteArray) : Nat → List Int → Int → Option (List Int × Int)
  | 0, l, at_ => some (l, at_)
  | i + 1, l, at_ => (dice_hand_below.f L at_ ((i : Int) + 2)).bind fun x => mixr L i (swp l (i + 1) x.1.toNat) x.2.2
theorem hand_in (L : ByteArray) (at_ m r1 : Int) (r2 : ByteArray) (r3 : Int) (h : dice_hand_below.f L at_ m = some (r1, r2, r3)) (hm : 1 ≤ m) : 0 ≤ r1 ∧ r1 < m ∧ r2 = L := by
  unfold dice_hand_below.f at h
  split at h
  · simp only [Option.some.injEq, Prod.mk.injEq] at h
    obtain ⟨rfl, rfl, rfl⟩ := h
    exact ⟨by omega, by omega, rfl⟩
  · split at h
    · split at h
      · rw [if_neg (by omega)] at h
        simp only [Option.some.injEq, Prod.mk.injEq] at h
        obtain ⟨rfl, rfl, rfl⟩ := h
        have hb := bt_range L (wrap64 (wrap64 (at_ + 1) - 1))
        generalize bt L (wrap64 (wrap64 (at_ + 1) - 1)) = b at hb
        have hw : wrap64 b = b := by unfold wrap64; omega
        rw [hw, Int.tmod_eq_emod_of_nonneg hb.1]
        exact ⟨Int.emod_nonneg _ (by omega), Int.emod_lt_of_pos _ (by omega), rfl⟩
      · cases h
    · cases h
theorem row_at {W : World} {base g n cap : Nat} {ok : Nat → Prop} {d : List Int} (h : Kd.R (Kd.int .i64) 3 W base ok (.slice (some ⟨g, 0, none⟩) n cap) d) (j : Nat) (hj : j < n) :
    W.cell? ⟨g, j, none⟩ = some (.int .i64 (d.getD j 0)) ∧ W.frozen? ⟨g, j, none⟩ = false := by
  obtain ⟨hn, _, _⟩ := Kd.R_reads' h
  have h1 := Kd.own_of_R h
  rw [← hn] at h1
  have := own_at_of (d := (0 : Int)) h1 (j : Int) (by omega) (by omega)
  simpa [rdOf] using this
set_option maxHeartbeats 1000000 in
theorem mix_any (A : Option Addr) (c g : Nat) (l : List Int) (L : ByteArray) (at_ : Int) (w0 w : World) (hr : Kd.C (Kd.int .i64) w A l.length l) (hc : l.length ≤ c) (hI : IsS66 w0 w g L at_) (hB : Below w0.heap.size w0 w) (hl : l.length ≤ 256)
    (hp : 0 < l.length) (r : List Int) (r' : Int) (hm : mixr L (l.length - 1) l at_ = some (r, r')) :
    Calls Try.prog 39 #[.slice A l.length c, .func (.func 37) #[.pointer (some ⟨g, 0, none⟩)] #[]] w fun e w' => ∃ v, e = .returned v ∧ Kd.R (Kd.int .i64) 3 w' w.heap.size (fun k => k ≠ g) v r ∧ IsS66 w0 w' g L r' ∧ Below w0.heap.size w0 w' ∧ KeepBut w w' g none := by
  have H := Lib.hid hr
  have hcl : slices_Clone_int_int.f l = some l := by simp [slices_Clone_int_int.f]; omega
  have H' := Lib.hid hcl
  have HI := Lib.hid hI
  have HB := Lib.hid hB
  have HM := Lib.hid hm
  clear hcl hr hI hB hm
  go_enter Try.func39, Try.ntmps39
  go_wp2_with (go_at_call 43; refine (slices_Clone_int_int.calls A c l l _ H.out hc H'.out).mono ?_; rintro e w1 ⟨v, rfl, ho, hb⟩; obtain ⟨ga, cap, rfl, hge, _, _⟩ := Kd.R_form ho hp; have HO := Lib.hid (Kd.R_mono (Kd.R_types ho (blk_below HI.out.1 hb) (by decide)) (fun k hk => hk.2)); have HK := Lib.hid (KeepBut.of_below hb g none); have HI1 := Lib.hid (IsS66.below HI.out hb); have HB1 := Lib.hid (below_then HB.out HB.out.size hb); clear ho hb)
  go_loopg [6] l.length (fun gg v6 wr => ∃ (i : Nat) (d : List Int) (at1 : Int), v6 = .int .i64 (i : Int) ∧ Aside0 (i < l.length) ∧ Aside0 (i ≤ gg) ∧ Aside0 (d.length = l.length) ∧ Aside0 (mixr L i d at1 = some (r, r')) ∧ Aside0 (Kd.R (Kd.int .i64) 3 wr w.heap.size (fun k => k ≠ g) (.slice (some ⟨ga, 0, none⟩) l.length cap) d) ∧ Aside0 (IsS66 w0 wr g L at1) ∧ Aside0 (Below w0.heap.size w0 wr) ∧ Aside0 (KeepBut w wr g none))
  case atStart => exact ⟨l.length - 1, l, at_, by rw [show ((l.length - 1 : Nat) : Int) = (l.length : Int) - 1 by omega], ⟨by omega⟩, ⟨by omega⟩, ⟨rfl⟩, ⟨HM.out⟩, ⟨HO.out⟩, ⟨HI1.out⟩, ⟨HB1.out⟩, ⟨HK.out⟩⟩
  case round =>
    obtain ⟨i, d, at1, rfl, a1, a2, a3, a4, a5, a6, a7, a8⟩ := hrel
    cases i with
    | zero =>
      go_wp2
      go_ret
      have hm := a4.out
      simp only [mixr, Option.some.injEq, Prod.mk.injEq] at hm
      obtain ⟨rfl, rfl⟩ := hm
      exact ⟨_, rfl, a5.out, a6.out, a7.out, a8.out⟩
    | succ i =>
      have hb := a4.out
      rw [mixr, Option.bind_eq_some_iff] at hb
      obtain ⟨⟨k, L2, at2⟩, hk, hm⟩ := hb
      obtain ⟨k0, k1, rfl⟩ := hand_in L at1 _ k L2 at2 hk (by omega)
      obtain ⟨k, rfl⟩ := Int.eq_ofNat_of_zero_le k0
      have hil := a1.out
      have hil2 : ((i + 1 : Nat) : Int) + 1 ≤ 256 := by omega
      have hk' : dice_hand_below.f L2 at1 (((i + 1 : Nat) : Int) + 1) = some ((k : Int), L2, at2) := by rw [show ((i + 1 : Nat) : Int) + 1 = (i : Int) + 2 by omega]; exact hk
      have HK' := Lib.hid hk'
      clear hk hk' 
      go_wp2_with fail
      refine (dice_hand_below.calls g L2 at1 _ (k : Int) L2 at2 w0 _ a6.out a7.out HK'.out).mono ?_
      rintro e w2 ⟨rfl, hI2, hB2, hk2⟩
      have ho2 := Kd.R_keep a5.out hk2 (fun _ h => h)
      have hK2 := a8.out.trans hk2 (.inl rfl)
      obtain ⟨hi0, hi1⟩ := row_at ho2 (i + 1) hil
      obtain ⟨hk0, hk1⟩ := row_at ho2 k (by omega)
      have kl : k < l.length := by omega
      have hga : g ≠ ga := fun e => (ho2.1 ga rfl) e.symm
      have hge0 : w0.heap.size ≤ ga := Nat.le_trans HB.out.size hge
      have HO2 := Lib.hid ho2
      have HK2 := Lib.hid hK2
      have HI2 := Lib.hid hI2
      have HB2 := Lib.hid hB2
      clear ho2 hK2 hI2 hB2 hk2
      have b0 : (0 : Int) ≤ (i : Int) + 1 := by omega
      have b1 : (i : Int) + 1 < (l.length : Int) := by omega
      have b2 : (k : Int) < (l.length : Int) := by omega
      have hset : ∀ (W : World) (j : Nat) (x : Int) (d1 : List Int), Kd.R (Kd.int .i64) 3 W w.heap.size (fun k => k ≠ g) (.slice (some ⟨ga, 0, none⟩) l.length cap) d1 → Kd.R (Kd.int .i64) 3 (W.setCell ⟨ga, j, none⟩ (.int .i64 x)) w.heap.size (fun k => k ≠ g) (.slice (some ⟨ga, 0, none⟩) l.length cap) (d1.set j x) := fun W j x d1 h => Kd.R_putn h (j : Int) x
      have HSET := Lib.hid hset
      clear hset
      by_cases hki : k = i + 1
      · subst hki
        go_wp2
        go_region
        all_goals go_wp2
        all_goals
          go_roundg i
          case measure => have := a2.out; omega
          case rel =>
            refine ⟨i, swp d (i + 1) (i + 1), at2, by first | rfl | go_num, ⟨by omega⟩, ⟨by omega⟩, ⟨by simp only [swp, List.length_set]; exact a3.out⟩, ⟨hm⟩, ⟨?_⟩, ⟨?_⟩, ⟨?_⟩, ⟨?_⟩⟩
            · have h := HSET.out _ (i + 1) (d.getD (i + 1) 0) _ (HSET.out _ (i + 1) (d.getD (i + 1) 0) _ HO2.out)
              simp only [List.getD_eq_getElem?_getD] at h
              simp only [swp, List.getD_eq_getElem?_getD]
              exact Kd.R_drew h
            · exact ((HI2.out.far (p := ⟨ga, i + 1, none⟩) hga _).far (p := ⟨ga, (i + 1), none⟩) hga _).drew
            · exact ((HB2.out.setCell (p := ⟨ga, i + 1, none⟩) hge0 _).setCell (p := ⟨ga, (i + 1), none⟩) hge0 _).drew
            · exact keep_drew (keep_far (keep_far HK2.out (p := ⟨ga, i + 1, none⟩) hge _) (p := ⟨ga, (i + 1), none⟩) hge _)
      · have hki' : i + 1 ≠ k := fun h => hki h.symm
        go_wp2
        go_region
        all_goals go_wp2
        all_goals
          go_roundg i
          case measure => have := a2.out; omega
          case rel =>
            refine ⟨i, swp d (i + 1) k, at2, by first | rfl | go_num, ⟨by omega⟩, ⟨by omega⟩, ⟨by simp only [swp, List.length_set]; exact a3.out⟩, ⟨hm⟩, ⟨?_⟩, ⟨?_⟩, ⟨?_⟩, ⟨?_⟩⟩
            · have h := HSET.out _ k (d.getD (i + 1) 0) _ (HSET.out _ (i + 1) (d.getD k 0) _ HO2.out)
              simp only [List.getD_eq_getElem?_getD] at h
              simp only [swp, List.getD_eq_getElem?_getD]
              exact Kd.R_drew h
            · exact ((HI2.out.far (p := ⟨ga, i + 1, none⟩) hga _).far (p := ⟨ga, k, none⟩) hga _).drew
            · exact ((HB2.out.setCell (p := ⟨ga, i + 1, none⟩) hge0 _).setCell (p := ⟨ga, k, none⟩) hge0 _).drew
            · exact keep_drew (keep_far (keep_far HK2.out (p := ⟨ga, i + 1, none⟩) hge _) (p := ⟨ga, k, none⟩) hge _)

set_option maxHeartbeats 1000000 in
theorem mix_none (A : Option Addr) (c g : Nat) (w : World) (hr : Kd.C (Kd.int .i64) w A ([] : List Int).length []) :
    Calls Try.prog 39 #[.slice A 0 c, .func (.func 37) #[.pointer (some ⟨g, 0, none⟩)] #[]] w fun e w' => ∃ v, e = .returned v ∧ Kd.R (Kd.int .i64) 3 w' w.heap.size (fun _ => True) v [] ∧ Below w.heap.size w w' := by
  have H := Lib.hid hr
  have hcl : slices_Clone_int_int.f [] = some [] := by simp [slices_Clone_int_int.f]
  have H' := Lib.hid hcl
  clear hcl hr
  go_enter Try.func39, Try.ntmps39
  go_wp2_with (go_at_call 43; refine (slices_Clone_int_int.calls A c [] [] _ H.out (Nat.zero_le _) H'.out).mono ?_; rintro e w1 ⟨v, rfl, ho, hb⟩; obtain ⟨A1, c1, rfl⟩ := Kd.R_slice ho; have HO := Lib.hid ho; have HB1 := Lib.hid hb; clear ho hb)
  go_loopg [6] 1 (fun gg v6 wr => v6 = .int .i64 (-1) ∧ Aside0 (wr = w1))
  case atStart => exact ⟨by first | rfl | (simp; done), ⟨rfl⟩⟩
  case round =>
    obtain ⟨rfl, a1⟩ := hrel
    have e := a1.out
    subst e
    go_wp2
    go_ret
    exact ⟨_, rfl, HO.out, HB1.out⟩
def dice_Shuffle.f (a0_0 : ByteArray) (a0_1 : Int) (l1 : List Int) : Option (List Int × ByteArray × Int × Int) :=
  if 0 ≤ a0_1 ∧ a0_1 ≤ (a0_0.size : Int) ∧ l1.length ≤ 256 then (mixr a0_0 (l1.length - 1) l1 a0_1).map fun x => (x.1, a0_0, x.2, 0) else some ([], a0_0, a0_1, 1)
set_option maxHeartbeats 400000 in
theorem shuffle_bad (L : ByteArray) (at_ : Int) (A : Option Addr) (c n : Nat) (w : World) (h : dice_Check.f L at_ = some 1) :
    Calls Try.prog 20 #[.agg #[.string L, .int .i64 at_], .slice A n c] w fun e w' => e = .returned (.tuple #[.slice none 0 0, .agg #[.string L, .int .i64 at_], .int .i64 1]) ∧ Below w.heap.size w w' := by
  have hu23 := Try.underlying23
  have H := Lib.hid h
  clear h
  go_enter Try.func20, Try.ntmps20
  go_wp2_with (go_at_call 18; refine (dice_Check.calls L at_ 1 _ H.out).mono ?_; rintro e w1 ⟨rfl, hb⟩; obtain ⟨hc, hf⟩ := bcell hb; have HB := Lib.hid hb; clear hb)
  go_region
  all_goals go_wp2
  all_goals
    refine bodyPost_ret (v := .tuple #[.slice none 0 0, .agg #[.string L, .int .i64 at_], .int .i64 1]) ?_ rfl ?_
    · have hz : w.heap.size + 1 < w1.heap.size := by have := HB.out.size; simp at this; omega
      simp [results, Try.results20, go_sem, hc, hz]
    · refine ⟨rfl, ?_⟩
      have hb := HB.out
      exact (((((Below.refl _ w).alloc (Nat.le_refl _) _).alloc (by simp) _).trans (hb.mono (by simp; omega))).drew.setCell (by simp) _).setCell (by simp) _
set_option maxHeartbeats 400000 in
theorem shuffle_long (L : ByteArray) (at_ : Int) (A : Option Addr) (c n : Nat) (w : World) (h : dice_Check.f L at_ = some 0) (hn : 256 < n) :
    Calls Try.prog 20 #[.agg #[.string L, .int .i64 at_], .slice A n c] w fun e w' => e = .returned (.tuple #[.slice none 0 0, .agg #[.string L, .int .i64 at_], .int .i64 1]) ∧ Below w.heap.size w w' := by
  have hu23 := Try.underlying23
  have H := Lib.hid h
  have c1 : decide ((256 : Int) < (n : Int)) = true := by simp; omega
  have c2 : decide (256 < n) = true := by simp; omega
  clear h
  go_enter Try.func20, Try.ntmps20
  go_wp2_with (go_at_call 18; refine (dice_Check.calls L at_ 0 _ H.out).mono ?_; rintro e w1 ⟨rfl, hb⟩; obtain ⟨hc, hf⟩ := bcell hb; have HB := Lib.hid hb; clear hb)
  go_region
  all_goals go_wp2
  all_goals
    refine bodyPost_ret (v := .tuple #[.slice none 0 0, .agg #[.string L, .int .i64 at_], .int .i64 1]) ?_ rfl ?_
    · have hz : w.heap.size + 1 < w1.heap.size := by have := HB.out.size; simp at this; omega
      simp [results, Try.results20, go_sem, hc, hz]
    · refine ⟨rfl, ?_⟩
      have hb := HB.out
      exact (((((Below.refl _ w).alloc (Nat.le_refl _) _).alloc (by simp) _).trans (hb.mono (by simp; omega))).drew.setCell (by simp) _).setCell (by simp) _
set_option maxHeartbeats 400000 in
theorem shuffle_good (L : ByteArray) (at_ : Int) (A : Option Addr) (c : Nat) (l r : List Int) (r' : Int) (w : World) (hr : Kd.C (Kd.int .i64) w A l.length l) (hcl : l.length ≤ c) (h : dice_Check.f L at_ = some 0) (hn : l.length ≤ 256) (hp : 0 < l.length)
    (hm : mixr L (l.length - 1) l at_ = some (r, r')) :
    Calls Try.prog 20 #[.agg #[.string L, .int .i64 at_], .slice A l.length c] w fun e w' => ∃ v, e = .returned (.tuple #[v, .agg #[.string L, .int .i64 r'], .int .i64 0]) ∧ Kd.R (Kd.int .i64) 3 w' w.heap.size (fun _ => True) v r ∧ Below w.heap.size w w' := by
  have hu23 := Try.underlying23
  have hu66 := Try.underlying66
  have H := Lib.hid h
  have HR := Lib.hid hr
  have HM := Lib.hid hm
  have c1 : decide ((256 : Int) < (l.length : Int)) = false := by simp; omega
  have c2 : decide (256 < l.length) = false := by simp; omega
  clear h hr hm
  go_enter Try.func20, Try.ntmps20
  go_wp2_with (go_at_call 18; refine (dice_Check.calls L at_ 0 _ H.out).mono ?_; rintro e w1 ⟨rfl, hb⟩; obtain ⟨hc, hf⟩ := bcell hb; have HB := Lib.hid hb; clear hb)
  have hbw : Below w.heap.size w (w1.alloc (.cells #[.string L, .int .i64 at_] 66)) := by
    have hb := HB.out
    exact (((Below.refl _ w).alloc (Nat.le_refl _) _).alloc (by simp) _).trans (hb.mono (by simp; omega)) |>.alloc (by have := hb.size; simp at this; omega) _
  have HBW := Lib.hid hbw
  clear hbw
  refine (mix_any A c w1.heap.size l L at_ w _ (Kd.C_below HR.out HBW.out) hcl ⟨blk_new w1 _, by have := HB.out.size; simp at this; omega⟩ HBW.out hn hp r r' HM.out).mono ?_
  rintro e w2 ⟨v, rfl, ho, ⟨hI, _⟩, hb2, hk⟩
  obtain ⟨hc2, hf2⟩ := kcell hk
  have hz : w.heap.size + 1 < w1.heap.size := by have := HB.out.size; simp at this; omega
  have hz2 : w1.heap.size < w2.heap.size := by have := hk.1; simp at this; omega
  have hg0 := (blk_cell hI 0).trans rfl
  have hg1 := (blk_cell hI 1).trans rfl
  have hg2 := blk_frozen hI
  obtain ⟨hc3, hf3⟩ := bcell (below_alloc (Below.refl _ w1) (.cells #[.string L, .int .i64 at_] 66))
  have a0 : w2.cell? ⟨w.heap.size + 1, 0, none⟩ = some (.string (⟨#[]⟩ : ByteArray)) := by rw [hc2 _ _ (by simp; omega) (by omega), hc3 _ _ (by omega), hc _ _ (by simp)]; simp
  have a1 : w2.cell? ⟨w.heap.size + 1, 1, none⟩ = some (.int .i64 0) := by rw [hc2 _ _ (by simp; omega) (by omega), hc3 _ _ (by omega), hc _ _ (by simp)]; simp
  have a2 : ∀ o, w2.frozen? ⟨w.heap.size + 1, o, none⟩ = false := fun o => by rw [hf2 _ _ (by simp; omega) (by omega), hf3 _ _ (by omega), hf _ _ (by simp)]; simp
  have hne : w1.heap.size ≠ w.heap.size + 1 := by omega
  have hne' : w.heap.size + 1 ≠ w1.heap.size := by omega
  have ho2 := Kd.R_lower (Kd.R_bound ho) (show w.heap.size ≤ (w1.alloc (.cells #[.string L, .int .i64 at_] 66)).heap.size by simp; omega)
  have ho3 := Kd.R_mono ho2 (ok' := fun k => k ≠ w.heap.size + 1) (fun k hk => by have := hk.2.1; simp at this; omega)
  have HO := Lib.hid ho3
  have HB2 := Lib.hid hb2
  obtain ⟨A2, c2_, rfl⟩ := Kd.R_slice ho
  clear hb2 hk hI hc2 hf2 hc3 hf3 hc hf HB ho ho2 ho3
  go_wp2
  go_region
  all_goals go_wp2
  all_goals
    refine bodyPost_ret (v := .tuple #[.slice A2 r.length c2_, .agg #[.string L, .int .i64 r'], .int .i64 0]) ?_ rfl ?_
    · have hz3 : w.heap.size + 1 < w2.heap.size := by omega
      simp [results, Try.results20, go_sem, hz3, a0, a1]
    · refine ⟨_, rfl, ?_, ((HB2.out.drew).setCell (by simp) _).setCell (by simp) _⟩
      exact Kd.R_mono (Kd.R_far (p := ⟨w.heap.size + 1, 1, none⟩) (Kd.R_far (p := ⟨w.heap.size + 1, 0, none⟩) (Kd.R_drew HO.out) (fun _ h => h) _) (fun _ h => h) _) (fun _ _ => trivial)
set_option maxHeartbeats 400000 in
theorem shuffle_nil (L : ByteArray) (at_ : Int) (A : Option Addr) (c : Nat) (w : World) (hr : Kd.C (Kd.int .i64) w A ([] : List Int).length []) (h : dice_Check.f L at_ = some 0) :
    Calls Try.prog 20 #[.agg #[.string L, .int .i64 at_], .slice A 0 c] w fun e w' => ∃ v, e = .returned (.tuple #[v, .agg #[.string L, .int .i64 at_], .int .i64 0]) ∧ Kd.R (Kd.int .i64) 3 w' w.heap.size (fun _ => True) v [] ∧ Below w.heap.size w w' := by
  have hu23 := Try.underlying23
  have hu66 := Try.underlying66
  have H := Lib.hid h
  have HR := Lib.hid hr
  clear h hr
  go_enter Try.func20, Try.ntmps20
  go_wp2_with (go_at_call 18; refine (dice_Check.calls L at_ 0 _ H.out).mono ?_; rintro e w1 ⟨rfl, hb⟩; obtain ⟨hc, hf⟩ := bcell hb; have HB := Lib.hid hb; clear hb)
  have hbw : Below w.heap.size w (w1.alloc (.cells #[.string L, .int .i64 at_] 66)) := by
    have hb := HB.out
    exact (((Below.refl _ w).alloc (Nat.le_refl _) _).alloc (by simp) _).trans (hb.mono (by simp; omega)) |>.alloc (by have := hb.size; simp at this; omega) _
  have HBW := Lib.hid hbw
  clear hbw
  refine (mix_none A c w1.heap.size _ (Kd.C_below HR.out HBW.out)).mono ?_
  rintro e w2 ⟨v, rfl, ho, hb2⟩
  have hI := blk_below (blk_new w1 (.cells #[.string L, .int .i64 at_] 66)) hb2
  obtain ⟨hc2, hf2⟩ := bcell hb2
  have hz : w.heap.size + 1 < w1.heap.size := by have := HB.out.size; simp at this; omega
  have hz2 : w1.heap.size < w2.heap.size := by have := hb2.size; simp at this; omega
  have hg0 := (blk_cell hI 0).trans rfl
  have hg1 := (blk_cell hI 1).trans rfl
  have hg2 := blk_frozen hI
  obtain ⟨hc3, hf3⟩ := bcell (below_alloc (Below.refl _ w1) (.cells #[.string L, .int .i64 at_] 66))
  have a0 : w2.cell? ⟨w.heap.size + 1, 0, none⟩ = some (.string (⟨#[]⟩ : ByteArray)) := by rw [hc2 _ _ (by simp; omega), hc3 _ _ (by omega), hc _ _ (by simp)]; simp
  have a1 : w2.cell? ⟨w.heap.size + 1, 1, none⟩ = some (.int .i64 0) := by rw [hc2 _ _ (by simp; omega), hc3 _ _ (by omega), hc _ _ (by simp)]; simp
  have a2 : ∀ o, w2.frozen? ⟨w.heap.size + 1, o, none⟩ = false := fun o => by rw [hf2 _ _ (by simp; omega), hf3 _ _ (by omega), hf _ _ (by simp)]; simp
  have hne : w1.heap.size ≠ w.heap.size + 1 := by omega
  have hne' : w.heap.size + 1 ≠ w1.heap.size := by omega
  have ho2 := Kd.R_lower (Kd.R_bound ho) (show w.heap.size ≤ (w1.alloc (.cells #[.string L, .int .i64 at_] 66)).heap.size by simp; omega)
  have ho3 := Kd.R_mono ho2 (ok' := fun k => k ≠ w.heap.size + 1) (fun k hk => by have := hk.2.1; simp at this; omega)
  have HO := Lib.hid ho3
  have HB2 := Lib.hid (below_then HBW.out HBW.out.size hb2)
  obtain ⟨A2, c2_, rfl⟩ := Kd.R_slice ho
  clear hb2 hI hc2 hf2 hc3 hf3 hc hf HB ho ho2 ho3
  go_wp2
  go_region
  all_goals go_wp2
  all_goals
    refine bodyPost_ret (v := .tuple #[.slice A2 0 c2_, .agg #[.string L, .int .i64 at_], .int .i64 0]) ?_ rfl ?_
    · have hz3 : w.heap.size + 1 < w2.heap.size := by omega
      simp [results, Try.results20, go_sem, hz3, a0, a1]
    · refine ⟨_, rfl, ?_, ((HB2.out.drew).setCell (by simp) _).setCell (by simp) _⟩
      exact Kd.R_mono (Kd.R_far (p := ⟨w.heap.size + 1, 1, none⟩) (Kd.R_far (p := ⟨w.heap.size + 1, 0, none⟩) (Kd.R_drew HO.out) (fun _ h => h) _) (fun _ h => h) _) (fun _ _ => trivial)

theorem dice_Shuffle.calls (a0_0 : ByteArray) (a0_1 : Int) (A1 : Option Addr) (c1 : Nat) (l1 : List Int) (r1 : List Int) (r2 : ByteArray) (r3 : Int) (r4 : Int) (w : World) (hr1 : Kd.C (Kd.int .i64) w A1 l1.length l1) (hc1 : l1.length ≤ c1) (h : dice_Shuffle.f a0_0 a0_1 l1 = some (r1, r2, r3, r4)) :
    Calls Try.prog 20 #[.agg #[.string a0_0, .int .i64 a0_1], .slice A1 l1.length c1] w fun e w' => ∃ v0_ : Value, e = .returned (.tuple #[v0_, .agg #[.string r2, .int .i64 r3], .int .i64 r4]) ∧ Kd.R (Kd.int .i64) 3 w' w.heap.size (fun _ => True) v0_ r1 ∧ Below w.heap.size w w' := by
  unfold dice_Shuffle.f at h
  by_cases hg : 0 ≤ a0_1 ∧ a0_1 ≤ (a0_0.size : Int) ∧ l1.length ≤ 256
  · rw [if_pos hg] at h
    have hk : dice_Check.f a0_0 a0_1 = some 0 := by unfold dice_Check.f; rw [if_neg (by omega), if_neg (by omega)]
    obtain ⟨⟨x1, x2⟩, hx, he⟩ := Option.map_eq_some_iff.1 h
    simp only [Prod.mk.injEq] at he
    obtain ⟨rfl, rfl, rfl, rfl⟩ := he
    by_cases hp : 0 < l1.length
    · exact shuffle_good a0_0 a0_1 A1 c1 l1 x1 x2 w hr1 hc1 hk hg.2.2 hp hx
    · obtain rfl : l1 = [] := List.eq_nil_of_length_eq_zero (by omega)
      simp only [mixr, List.length_nil, Option.some.injEq, Prod.mk.injEq] at hx
      obtain ⟨rfl, rfl⟩ := hx
      exact shuffle_nil a0_0 a0_1 A1 c1 w hr1 hk
  · rw [if_neg hg] at h
    simp only [Option.some.injEq, Prod.mk.injEq] at h
    obtain ⟨rfl, rfl, rfl, rfl⟩ := h
    by_cases h1 : 0 ≤ a0_1 ∧ a0_1 ≤ (a0_0.size : Int)
    · have hk : dice_Check.f a0_0 a0_1 = some 0 := by unfold dice_Check.f; rw [if_neg (by omega), if_neg (by omega)]
      exact (shuffle_long a0_0 a0_1 A1 c1 l1.length w hk (by omega)).mono fun e w' ⟨he, hb⟩ => ⟨_, he, Kd.R_nil _ _ _ _ _, hb⟩
    · have hk : dice_Check.f a0_0 a0_1 = some 1 := by
        unfold dice_Check.f
        by_cases h2 : a0_1 < 0
        · rw [if_pos h2]
        · rw [if_neg h2, if_pos (by omega)]
      exact (shuffle_bad a0_0 a0_1 A1 c1 l1.length w hk).mono fun e w' ⟨he, hb⟩ => ⟨_, he, Kd.R_nil _ _ _ _ _, hb⟩
end Go.Proofs.Ytlanodnbdgiihaa.Fn
