/- timer.Add, by hand: timers are put into a heap, one by one, and taken in order. -/
import Derived.Test.YtahppppkepcbkaaFnx0
import Derived.Test.YtahppppkepcbkaaFnx22
import Derived.Test.YtahppppkepcbkaaExSort
import Derived.Test.YtahppppkepcbkaaExCheck
namespace Go.Proofs.Ytahppppkepcbkaa.Fn
open Go.RowKit Go.Proofs.YtahppppkepcbkaaW.PrintWords Go.Proofs.YtahppppkepcbkaaW.PrintLast Go.Proofs.YtahppppkepcbkaaW.PrintMore Go.Proofs.Ytahppppkepcbkaa.Tm
set_option linter.unusedVariables false
set_option linter.unusedSimpArgs false
set_option maxRecDepth 100000
theorem srt_adj : ∀ (l : List S52), (∀ j, j + 1 < l.length → Tm.le (Tm.g l j) (Tm.g l (j + 1))) → srt l
  | [], _ => trivial
  | [a], _ => ⟨fun b hb => by simp at hb, trivial⟩
  | a :: b :: l, h => by
    have h1 : srt (b :: l) := srt_adj (b :: l) fun j hj => by
      have := h (j + 1) (by simpa using hj)
      simpa [Tm.g] using this
    have h0 : Tm.le a b := by
      have := h 0 (by simp)
      simpa [Tm.g] using this
    refine ⟨fun c hc => ?_, h1⟩
    rcases List.mem_cons.1 hc with rfl | hc
    · exact h0
    · exact Tm.le_trans h0 (h1.1 c hc)
theorem srtB_iff (l : List S52) : srtB l = true ↔ srt l := by
  unfold srtB
  rw [List.all_eq_true]
  constructor
  · intro h
    refine srt_adj l fun j hj => ?_
    have := h j (by rw [List.mem_range]; omega)
    rw [Bool.not_eq_true'] at this
    exact lt_not (by rw [this]; exact Bool.false_ne_true)
  · intro h j hj
    rw [List.mem_range] at hj
    have := srt_at h j (j + 1) (by omega) (by omega)
    rw [Bool.not_eq_true']
    cases hc : lt (Tm.g l (j + 1)) (Tm.g l j) with
    | false => rfl
    | true => exact absurd ((lt_iff _ _).1 hc) this
def timer_Add.f (l0 : List (S52)) (l1 : List (S52)) : Option ((List (S52)) × Int) := if 1000000 < l1.length then none else some (if okl l0 = true then (if 256 < l0.length + l1.length then ([], 9) else (isort (l0 ++ l1), 0)) else ([], 1))
theorem QW.form {w0 wA W : World} {bq g' n c : Nat} {A : Option Addr} {l : List S52} (h : QW w0 wA W bq g' (.slice A n c) l) : ∃ g, (0 < n → A = some ⟨g, 0, none⟩) ∧ (0 < n → g ≠ bq) ∧ g < W.heap.size := by
  by_cases hn : 0 < n
  · have hl := (Kd.R_reads' h.row).1
    obtain ⟨g, cap, e, _, hg, _⟩ := Kd.R_form h.row (by omega)
    injection e with e1 e2 e3
    exact ⟨g, fun _ => e1, fun _ => h.row.1 g (by rw [e1]; rfl), hg⟩
  · exact ⟨bq, fun q => absurd q hn, fun q => absurd q hn, h.lt⟩
theorem fold_len : ∀ (t l : List S52), (t.foldl qput l).length = l.length + t.length
  | [], l => rfl
  | x :: t, l => by
    rw [List.foldl_cons, fold_len t, List.length_cons]
    unfold qput
    rw [upw_len, List.length_append, List.length_singleton]
    omega
theorem take_g {l : List S52} {i : Nat} (hi : i < l.length) : l.take (i + 1) = l.take i ++ [Tm.g l i] := by
  rw [List.take_succ_eq_append_getElem hi]
  simp [Tm.g, hi]
set_option maxHeartbeats 2000000 in
theorem add_good (A0 : Option Addr) (c0 : Nat) (l0 : List (S52)) (A1 : Option Addr) (c1 : Nat) (l1 : List (S52)) (w : World) (hr0 : Kd.C k52 w A0 l0.length l0) (hc0 : l0.length ≤ c0) (hr1 : Kd.C k52 w A1 l1.length l1) (hc1 : l1.length ≤ c1) (ho : okl l0 = true) (hm : l0.length + l1.length ≤ 256) :
    Calls Try.prog 27 #[.slice A0 l0.length c0, .slice A1 l1.length c1] w fun e w' => ∃ v0_ : Value, e = .returned (.tuple #[v0_, .int .i64 0]) ∧ Kd.R k52 52 w' w.heap.size (fun _ => True) v0_ (isort (l0 ++ l1)) ∧ Below w.heap.size w w' := by
  have hu52 := Try.underlying52
  have HR0 := Lib.hid hr0
  have HR1 := Lib.hid hr1
  have HK := Lib.hid (show timer_Check.f l0 = some 0 by unfold timer_Check.f; rw [if_pos ho])
  have HS := Lib.hid (show qal (l0.length + l1.length) (l1.foldl qput l0) = isort (l0 ++ l1) by
    have hs : srt l0 := (srtB_iff l0).1 (by unfold okl at ho; rw [Bool.and_eq_true] at ho; exact ho.2)
    obtain ⟨r1, r2, r3⟩ := puts_all l1 l0 (srt_heap hs)
    rw [← add_eq hs l1]
    exact qal_eq _ _ r1 (by rw [← r1]; exact r3))
  have HM := Lib.hid hm
  have cc : decide ((256 : Int) < (l0.length : Int) + (l1.length : Int)) = false := by simp; omega
  have hw0 : wrap64 ((l0.length : Int) + (l1.length : Int)) = (l0.length : Int) + (l1.length : Int) := by unfold wrap64; omega
  clear hr0 hr1 ho hm
  go_enter Try.func27, Try.ntmps27
  go_wp2_with (first
    | (go_at_call 32
       refine (timer_Check.calls A0 c0 l0 0 _ HR0.out hc0 HK.out).mono ?_
       rintro e w1 ⟨rfl, hb⟩
       have HB1 := Lib.hid hb
       clear hb)
    | (go_at_call 52
       refine (api_Timer_52.calls A0 c0 l0 l0 _ (Kd.C_below HR0.out HB1.out) hc0 (clone52 (by have := HM.out; omega))).mono ?_
       rintro e w2 ⟨v, rfl, ho, hb⟩
       obtain ⟨A2, k2, rfl⟩ := Kd.R_slice ho
       have HQ := Lib.hid (QW.new (w := w) (Kd.R_lower ho HB1.out.size) (HB1.out.trans (hb.mono HB1.out.size)) w2.heap.size)
       clear ho hb))
  generalize hbq : w2.heap.size = bq at *
  generalize w2.alloc (.cells #[.slice A2 l0.length k2] 92) = w3 at *
  clear hbq
  go_loopg [24] l1.length (fun gg v24 wr => ∃ (i : Nat) (lq : List S52) (A3 : Option Addr) (c3 g3 : Nat), v24 = .int .i64 (i : Int) ∧ Aside0 (i ≤ l1.length) ∧ Aside0 (l1.length ≤ gg + i) ∧ Aside0 (lq = (l1.take i).foldl qput l0) ∧ Aside0 (lq.length = l0.length + i) ∧ Aside0 (QW w wr wr bq g3 (.slice A3 lq.length c3) lq))
  case atStart => exact ⟨0, l0, A2, k2, bq, rfl, ⟨Nat.zero_le _⟩, ⟨by omega⟩, ⟨rfl⟩, ⟨rfl⟩, ⟨HQ.out.anew _⟩⟩
  case round =>
    obtain ⟨i, lq, A3, c3, g3, rfl, a1, a2, a3, a4, a5⟩ := hrel
    by_cases hi : i < l1.length
    · have hbel := a5.out.bel
      obtain ⟨ad, rfl, hx0, hx1, hx2, hx3⟩ := at_T52 (Kd.C_below HR1.out hbel) (i : Int) (by omega) (by omega)
      rw [Int.toNat_natCast, rd_g] at hx0 hx1 hx2 hx3
      have HT := Lib.hid (take_g hi)
      have hw9 : wrap64 ((i : Int) + 1) = (i : Int) + 1 := by have := HM.out; unfold wrap64; omega
      have BI := Lib.hid hi
      clear hbel
      generalize Tm.g l1 i = x at *
      obtain ⟨x0, x1, x2, x3⟩ := x
      go_wp2_with (go_at_call 53
                   refine (qhpush_any w _ _ bq g3 A3 c3 lq ⟨x0, x1, x2, x3⟩ (a5.out.alloc (.cells #[.int .i64 x0, .int .i64 x1, .int .i64 x2, .int .u64 x3] 52)) (by have := a4.out; have := HM.out; have := BI.out; omega)).mono ?_
                   rintro e w4 ⟨rfl, A4, c4, g4, hq4⟩
                   have HQ4 := Lib.hid hq4
                   clear hq4)
      all_goals
        go_roundg (l1.length - (i + 1))
        case measure => have := a2.out; omega
        case rel =>
          have hll : (qput lq (⟨x0, x1, x2, x3⟩ : S52)).length = lq.length + 1 := by unfold qput; rw [upw_len, List.length_append, List.length_singleton]
          have h4 := HQ4.out
          rw [← hll] at h4
          exact ⟨i + 1, qput lq ⟨x0, x1, x2, x3⟩, A4, c4, g4, by first | rfl | go_num, ⟨hi⟩, ⟨by omega⟩, ⟨by rw [HT.out, List.foldl_append, ← a3.out]; rfl⟩, ⟨by rw [hll, a4.out]; omega⟩, ⟨h4⟩⟩
    · have e : i = l1.length := by have := a1.out; omega
      subst e
      have hlq := a3.out
      rw [List.take_length] at hlq
      have hln := a4.out
      have h5 := a5.out
      rw [hln] at h5
      obtain ⟨g, f1, f2, f3⟩ := h5.form
      have H5 := Lib.hid h5
      have HLN := Lib.hid hln
      have HLQ := Lib.hid hlq
      have F1 := Lib.hid f1
      have F2 := Lib.hid f2
      have F3 := Lib.hid f3
      clear hlq hln h5 f1 f2 f3
      go_wp2_with (go_at_call 54
                   refine (qall_any w _ bq g A3 c3 (l0.length + l1.length) lq F1.out F2.out F3.out HLN.out (H5.out.anew g) (by have := HM.out; omega)).mono ?_
                   rintro e w5 ⟨v5, rfl, ho5, hb5⟩
                   have HO5 := Lib.hid ho5
                   have HB5 := Lib.hid hb5
                   clear ho5 hb5)
      all_goals
        go_ret2
        refine ⟨_, rfl, ?_, HB5.out⟩
        rw [← HS.out, ← HLQ.out]
        exact HO5.out
set_option maxHeartbeats 1000000 in
theorem timer_Add.calls (A0 : Option Addr) (c0 : Nat) (l0 : List (S52)) (A1 : Option Addr) (c1 : Nat) (l1 : List (S52)) (r1 : List (S52)) (r2 : Int) (w : World) (hr0 : Kd.C k52 w A0 l0.length l0) (hc0 : l0.length ≤ c0) (hr1 : Kd.C k52 w A1 l1.length l1) (hc1 : l1.length ≤ c1) (h : timer_Add.f l0 l1 = some (r1, r2)) :
    Calls Try.prog 27 #[.slice A0 l0.length c0, .slice A1 l1.length c1] w fun e w' => ∃ v0_ : Value, e = .returned (.tuple #[v0_, .int .i64 r2]) ∧ Kd.R k52 52 w' w.heap.size (fun _ => True) v0_ r1 ∧ Below w.heap.size w w' := by
  unfold timer_Add.f at h
  by_cases hbig : 1000000 < l1.length
  · rw [if_pos hbig] at h
    cases h
  rw [if_neg hbig] at h
  have h := Option.some.inj h
  cases ho : okl l0 with
  | false =>
    rw [ho] at h
    obtain ⟨rfl, rfl⟩ := Prod.mk.inj h
    have HR0 := Lib.hid hr0
    have HK := Lib.hid (show timer_Check.f l0 = some 1 by unfold timer_Check.f; rw [ho]; rfl)
    clear h hr0 hr1
    go_enter Try.func27, Try.ntmps27
    go_wp2_with (go_at_call 32
                 refine (timer_Check.calls A0 c0 l0 1 _ HR0.out hc0 HK.out).mono ?_
                 rintro e w1 ⟨rfl, hb⟩
                 have HB1 := Lib.hid hb
                 clear hb)
    all_goals
      go_ret2
      exact ⟨_, rfl, Kd.R_nil _ _ _ _ _, HB1.out⟩
  | true =>
    rw [ho, if_pos rfl] at h
    by_cases hm : 256 < l0.length + l1.length
    · rw [if_pos hm] at h
      obtain ⟨rfl, rfl⟩ := Prod.mk.inj h
      have HK := Lib.hid (show timer_Check.f l0 = some 0 by unfold timer_Check.f; rw [ho]; rfl)
      have hl0 : l0.length ≤ 256 := by
        unfold okl at ho
        rw [Bool.and_eq_true, decide_eq_true_eq] at ho
        exact ho.1
      have cc : decide ((256 : Int) < (l0.length : Int) + (l1.length : Int)) = true := by simp; omega
      have hw0 : wrap64 ((l0.length : Int) + (l1.length : Int)) = (l0.length : Int) + (l1.length : Int) := by unfold wrap64; omega
      have HR0 := Lib.hid hr0
      clear h hr0 hr1 hm hl0 hbig ho
      go_enter Try.func27, Try.ntmps27
      go_wp2_with (go_at_call 32
                   refine (timer_Check.calls A0 c0 l0 0 _ HR0.out hc0 HK.out).mono ?_
                   rintro e w1 ⟨rfl, hb⟩
                   have HB1 := Lib.hid hb
                   clear hb)
      all_goals
        go_ret2
        exact ⟨_, rfl, Kd.R_nil _ _ _ _ _, HB1.out⟩
    · rw [if_neg hm] at h
      obtain ⟨rfl, rfl⟩ := Prod.mk.inj h
      exact add_good A0 c0 l0 A1 c1 l1 w hr0 hc0 hr1 hc1 ho (by omega)
end Go.Proofs.Ytahppppkepcbkaa.Fn
