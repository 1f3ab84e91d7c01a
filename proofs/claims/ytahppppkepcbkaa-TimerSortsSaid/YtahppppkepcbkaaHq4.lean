/- A heap of timers in memory: container/heap's down, by hand. -/
import Derived.Test.YtahppppkepcbkaaFnx0
import Derived.Test.YtahppppkepcbkaaHq3
namespace Go.Proofs.Ytahppppkepcbkaa.Fn
open Go.RowKit Go.Proofs.YtahppppkepcbkaaW.PrintWords Go.Proofs.YtahppppkepcbkaaW.PrintLast Go.Proofs.YtahppppkepcbkaaW.PrintMore Go.Proofs.Ytahppppkepcbkaa.Tm
set_option linter.unusedVariables false
set_option linter.unusedSimpArgs false
set_option maxRecDepth 100000
theorem nilchk (a : Addr) (s n : String) (W : World) : (Builtin.ssaWrapNilChk_ #[94] 94 #[.pointer (some a), strVal s, strVal n]).run Try.prog W = .ok (.pointer (some a)) W := by rfl
theorem m94 (name : String) (f : Nat) (q : Bool) (hm : (Try.t94.methods.find? (fun x => x.name == name)).map (fun m => (m.path, m.func)) = some (#[], some (f, q))) (W : World) (b : Nat) (v : Value) (h : W.cell? ⟨b, 0, none⟩ = some v) (hv : (∃ A n c, v = .slice A n c)) :
    (method 242 94 (.pointer (some ⟨b, 0, none⟩)) name).run Try.prog W = .ok (f, if q = true then .pointer (some ⟨b, 0, none⟩) else v) W := by
  obtain ⟨m, h1, h2⟩ := Option.map_eq_some_iff.1 hm
  obtain ⟨h2, h3⟩ := Prod.mk.inj h2
  obtain ⟨A, n, c, rfl⟩ := hv
  have hu94 := Try.underlying94
  have hu92 := Try.underlying92
  have hn := nilchk ⟨b, 0, none⟩
  unfold method
  simp only [go_sem]
  simp [go_sem, h1, h2, h3, follow, receiverAt]
  cases q
  · simp [go_sem, hu94, Place.get]
    rw [hn]
    simp [go_sem, h]
  · simp [go_sem, Place.get]
theorem mLess (W : World) (b : Nat) (A : Option Addr) (n c : Nat) (h : W.cell? ⟨b, 0, none⟩ = some (.slice A n c)) : (method 242 94 (.pointer (some ⟨b, 0, none⟩)) "Less").run Try.prog W = .ok (91, .slice A n c) W := m94 "Less" 91 false (by kernel_rfl) W b _ h ⟨_, _, _, rfl⟩
theorem mSwap (W : World) (b : Nat) (A : Option Addr) (n c : Nat) (h : W.cell? ⟨b, 0, none⟩ = some (.slice A n c)) : (method 242 94 (.pointer (some ⟨b, 0, none⟩)) "Swap").run Try.prog W = .ok (92, .slice A n c) W := m94 "Swap" 92 false (by kernel_rfl) W b _ h ⟨_, _, _, rfl⟩
theorem mLen (W : World) (b : Nat) (A : Option Addr) (n c : Nat) (h : W.cell? ⟨b, 0, none⟩ = some (.slice A n c)) : (method 242 94 (.pointer (some ⟨b, 0, none⟩)) "Len").run Try.prog W = .ok (68, .slice A n c) W := m94 "Len" 68 false (by kernel_rfl) W b _ h ⟨_, _, _, rfl⟩
theorem mPop (W : World) (b : Nat) (A : Option Addr) (n c : Nat) (h : W.cell? ⟨b, 0, none⟩ = some (.slice A n c)) : (method 242 94 (.pointer (some ⟨b, 0, none⟩)) "Pop").run Try.prog W = .ok (93, .pointer (some ⟨b, 0, none⟩)) W := m94 "Pop" 93 true (by kernel_rfl) W b _ h ⟨_, _, _, rfl⟩
theorem mPush (W : World) (b : Nat) (A : Option Addr) (n c : Nat) (h : W.cell? ⟨b, 0, none⟩ = some (.slice A n c)) : (method 242 94 (.pointer (some ⟨b, 0, none⟩)) "Push").run Try.prog W = .ok (94, .pointer (some ⟨b, 0, none⟩)) W := m94 "Push" 94 true (by kernel_rfl) W b _ h ⟨_, _, _, rfl⟩
theorem qless_int (w0 wA W : World) (bq g c n : Nat) (l : List S52) (hq : QW w0 wA W bq g (.slice (some ⟨g, 0, none⟩) n c) l) (a b : Int) (i k : Nat) (ha : a = (i : Int)) (hb : b = (k : Int)) (hi : i < n) (hk : k < n) :
    Calls Try.prog 91 #[.slice (some ⟨g, 0, none⟩) n c, .int .i64 a, .int .i64 b] W fun e W' => e = .returned (.bool (lt (Tm.g l i) (Tm.g l k))) ∧ QW w0 wA W' bq g (.slice (some ⟨g, 0, none⟩) n c) l ∧ (method 242 94 (.pointer (some ⟨bq, 0, none⟩)) "Less").run Try.prog W' = .ok (91, .slice (some ⟨g, 0, none⟩) n c) W' ∧ (method 242 94 (.pointer (some ⟨bq, 0, none⟩)) "Swap").run Try.prog W' = .ok (92, .slice (some ⟨g, 0, none⟩) n c) W' := by
  subst ha hb
  obtain ⟨h1, h2, h3⟩ := Kd.R_reads' hq.row
  subst h1
  exact (qless_any (some ⟨g, 0, none⟩) c l W h3 i k hi hk).mono fun e W' h => ⟨h.1, hq.below h.2, mLess _ _ _ _ _ ((blk_cell (hq.below h.2).blk 0).trans rfl), mSwap _ _ _ _ _ ((blk_cell (hq.below h.2).blk 0).trans rfl)⟩
theorem qswap_int (w0 wA W : World) (bq g c n : Nat) (l : List S52) (hq : QW w0 wA W bq g (.slice (some ⟨g, 0, none⟩) n c) l) (a b : Int) (i k : Nat) (ha : a = (i : Int)) (hb : b = (k : Int)) (hi : i < n) (hk : k < n) :
    Calls Try.prog 92 #[.slice (some ⟨g, 0, none⟩) n c, .int .i64 a, .int .i64 b] W fun e W' => e = .returned (.tuple #[]) ∧ QW w0 wA W' bq g (.slice (some ⟨g, 0, none⟩) n c) (swp l i k) ∧ (method 242 94 (.pointer (some ⟨bq, 0, none⟩)) "Less").run Try.prog W' = .ok (91, .slice (some ⟨g, 0, none⟩) n c) W' ∧ (method 242 94 (.pointer (some ⟨bq, 0, none⟩)) "Swap").run Try.prog W' = .ok (92, .slice (some ⟨g, 0, none⟩) n c) W' := by
  subst ha hb
  obtain ⟨h1, h2, h3⟩ := Kd.R_reads' hq.row
  subst h1
  exact (qswap_any w0 wA W bq g c l hq i k hi hk).mono fun e W' h => ⟨h.1, h.2, mLess _ _ _ _ _ ((blk_cell h.2.blk 0).trans rfl), mSwap _ _ _ _ _ ((blk_cell h.2.blk 0).trans rfl)⟩
theorem dwn_stop {n f i : Nat} {l : List S52} (h : ¬ 2 * i + 1 < n) : dwn n f i l = l := by
  cases f with
  | zero => rfl
  | succ f => rw [dwn, if_neg h]
theorem dwn_step {n f i k : Nat} {l : List S52} (h : 2 * i + 1 < n) (hk : kid l i n = k) : dwn n (f + 1) i l = if lt (Tm.g l k) (Tm.g l i) = true then dwn n f k (swp l i k) else l := by
  rw [dwn, if_pos h, hk]
  rfl
theorem kid_two {n i : Nat} {l : List S52} (h : 2 * i + 2 < n) : kid l i n = if lt (Tm.g l (2 * i + 2)) (Tm.g l (2 * i + 1)) = true then 2 * i + 2 else 2 * i + 1 := by
  unfold kid
  by_cases q : lt (Tm.g l (2 * i + 2)) (Tm.g l (2 * i + 1)) = true
  · rw [if_pos ⟨h, q⟩, if_pos q]
  · rw [if_neg (fun q' => q q'.2), if_neg q]
theorem kid_one {n i : Nat} {l : List S52} (h : ¬ 2 * i + 2 < n) : kid l i n = 2 * i + 1 := by
  unfold kid
  rw [if_neg (fun q => h q.1)]
set_option maxHeartbeats 1000000 in
theorem qdown_any (w0 wA W : World) (bq g c m : Nat) (l : List S52) (hq : QW w0 wA W bq g (.slice (some ⟨g, 0, none⟩) m c) l) (i0 n : Nat) (hm : m ≤ 300) (hn : n ≤ m) (hi0 : i0 ≤ m) :
    Calls Try.prog 70 #[.iface 94 (.pointer (some ⟨bq, 0, none⟩)), .int .i64 (i0 : Int), .int .i64 (n : Int)] W fun e W' => (∃ b, e = .returned (.bool b)) ∧ QW w0 wA W' bq g (.slice (some ⟨g, 0, none⟩) m c) (dwn n n i0 l) := by
  have HQ := Lib.hid hq
  clear hq
  go_enter Try.func70, Try.ntmps70
  go_wp2_with fail
  go_loopg [7] n (fun gg v7 wr => ∃ (i f : Nat) (l' : List S52), v7 = .int .i64 (i : Int) ∧ Aside0 (i ≤ m) ∧ Aside0 (n ≤ gg + i) ∧ Aside0 (n ≤ i + f) ∧ Aside0 (dwn n f i l' = dwn n n i0 l) ∧ Aside0 (QW w0 wA wr bq g (.slice (some ⟨g, 0, none⟩) m c) l'))
  case atStart => exact ⟨i0, n, l, rfl, ⟨hi0⟩, ⟨by omega⟩, ⟨by omega⟩, ⟨rfl⟩, ⟨HQ.out⟩⟩
  case round =>
    obtain ⟨i, f, l', rfl, a1, a2, a3, a4, a5⟩ := hrel
    have him := a1.out
    have hg0 : wr.cell? ⟨bq, 0, none⟩ = some (.slice (some ⟨g, 0, none⟩) m c) := (blk_cell a5.out.blk 0).trans rfl
    have hl0 := mLess wr bq _ _ _ hg0
    have hs0 := mSwap wr bq _ _ _ hg0
    clear hg0
    have E2 := Lib.hid (show 2 * (i : Int) + 1 + 1 = ((2 * i + 2 : Nat) : Int) by omega)
    have E1 := Lib.hid (show 2 * (i : Int) + 1 = ((2 * i + 1 : Nat) : Int) by omega)
    have hw1 : wrap64 (2 * (i : Int)) = 2 * (i : Int) := by unfold wrap64; omega
    have hw2 : wrap64 (2 * (i : Int) + 1) = 2 * (i : Int) + 1 := by unfold wrap64; omega
    have hw3 : wrap64 (2 * (i : Int) + 1 + 1) = 2 * (i : Int) + 1 + 1 := by unfold wrap64; omega
    by_cases h1 : 2 * i + 1 < n
    · have B1 := Lib.hid (show 2 * i + 1 < m by clear hw1 hw2 hw3; omega)
      have B0 := Lib.hid (show i < m by clear hw1 hw2 hw3; omega)
      have c1 : decide ((n : Int) ≤ 2 * (i : Int) + 1) = false := by clear hw1 hw2 hw3; simp; omega
      have c3 : decide (2 * (i : Int) + 1 < 0) = false := by clear hw1 hw2 hw3; simp; omega
      obtain ⟨f, rfl⟩ : ∃ f', f = f' + 1 := ⟨f - 1, by have := a3.out; clear hw1 hw2 hw3; omega⟩
      have hdw := a4.out
      by_cases h2 : 2 * i + 2 < n
      · have B2 := Lib.hid (show 2 * i + 2 < m by clear hw1 hw2 hw3; omega)
        have c2 : decide (2 * (i : Int) + 1 + 1 < (n : Int)) = true := by clear hw1 hw2 hw3; simp; omega
        have hk := kid_two (l := l') h2
        cases h3 : lt (Tm.g l' (2 * i + 2)) (Tm.g l' (2 * i + 1)) with
        | true =>
          rw [h3, if_pos rfl] at hk
          rw [dwn_step h1 hk] at hdw
          clear hk
          cases h4 : lt (Tm.g l' (2 * i + 2)) (Tm.g l' i) with
          | true =>
            rw [h4] at hdw
            rw [if_pos rfl] at hdw
            have HD := Lib.hid hdw
            clear hdw
            go_wp2_with (first | (go_at_call_of 91 (Value.int IntKind.i64 (i : Int)); refine (qless_int w0 wA _ bq g c m l' HQ1.out (2 * (i : Int) + 1 + 1) (i : Int) (2 * i + 2) i E2.out rfl B2.out B0.out).mono ?_; rintro e w2 ⟨rfl, hq2, hl2, hs2⟩; rw [h4]; have HQ2 := Lib.hid hq2; clear hq2) | (go_at_call 92; refine (qswap_int w0 wA _ bq g c m l' HQ2.out (i : Int) (2 * (i : Int) + 1 + 1) i (2 * i + 2) rfl E2.out B0.out B2.out).mono ?_; rintro e w3 ⟨rfl, hq3, hl3, hs3⟩; have HQ3 := Lib.hid hq3; clear hq3) | (go_at_call 91; refine (qless_int w0 wA _ bq g c m l' a5.out (2 * (i : Int) + 1 + 1) (2 * (i : Int) + 1) (2 * i + 2) (2 * i + 1) E2.out E1.out B2.out B1.out).mono ?_; rintro e w1 ⟨rfl, hq1, hl1, hs1⟩; rw [h3]; have HQ1 := Lib.hid hq1; clear hq1))
            all_goals
              go_roundg (n - (2 * i + 2))
              case measure => have := a2.out; clear hw1 hw2 hw3; omega
              case rel => exact ⟨2 * i + 2, f, swp l' i (2 * i + 2), by first | rfl | go_num | (rw [E2.out]) | (rw [E1.out]), ⟨by clear hw1 hw2 hw3; have := B1.out; omega⟩, ⟨by clear hw1 hw2 hw3; omega⟩, ⟨by have := a3.out; clear hw1 hw2 hw3; omega⟩, ⟨HD.out⟩, ⟨HQ3.out⟩⟩
          | false =>
            rw [h4] at hdw
            rw [if_neg Bool.false_ne_true] at hdw
            have HD := Lib.hid hdw
            clear hdw
            go_wp2_with (first | (go_at_call_of 91 (Value.int IntKind.i64 (i : Int)); refine (qless_int w0 wA _ bq g c m l' HQ1.out (2 * (i : Int) + 1 + 1) (i : Int) (2 * i + 2) i E2.out rfl B2.out B0.out).mono ?_; rintro e w2 ⟨rfl, hq2, hl2, hs2⟩; rw [h4]; have HQ2 := Lib.hid hq2; clear hq2) | (go_at_call 92; refine (qswap_int w0 wA _ bq g c m l' HQ2.out (i : Int) (2 * (i : Int) + 1 + 1) i (2 * i + 2) rfl E2.out B0.out B2.out).mono ?_; rintro e w3 ⟨rfl, hq3, hl3, hs3⟩; have HQ3 := Lib.hid hq3; clear hq3) | (go_at_call 91; refine (qless_int w0 wA _ bq g c m l' a5.out (2 * (i : Int) + 1 + 1) (2 * (i : Int) + 1) (2 * i + 2) (2 * i + 1) E2.out E1.out B2.out B1.out).mono ?_; rintro e w1 ⟨rfl, hq1, hl1, hs1⟩; rw [h3]; have HQ1 := Lib.hid hq1; clear hq1))
            all_goals
              go_ret
              refine ⟨⟨_, rfl⟩, ?_⟩
              rw [← HD.out]
              exact HQ2.out
        | false =>
          rw [h3, if_neg Bool.false_ne_true] at hk
          rw [dwn_step h1 hk] at hdw
          clear hk
          cases h4 : lt (Tm.g l' (2 * i + 1)) (Tm.g l' i) with
          | true =>
            rw [h4] at hdw
            rw [if_pos rfl] at hdw
            have HD := Lib.hid hdw
            clear hdw
            go_wp2_with (first | (go_at_call_of 91 (Value.int IntKind.i64 (i : Int)); refine (qless_int w0 wA _ bq g c m l' HQ1.out (2 * (i : Int) + 1) (i : Int) (2 * i + 1) i E1.out rfl B1.out B0.out).mono ?_; rintro e w2 ⟨rfl, hq2, hl2, hs2⟩; rw [h4]; have HQ2 := Lib.hid hq2; clear hq2) | (go_at_call 92; refine (qswap_int w0 wA _ bq g c m l' HQ2.out (i : Int) (2 * (i : Int) + 1) i (2 * i + 1) rfl E1.out B0.out B1.out).mono ?_; rintro e w3 ⟨rfl, hq3, hl3, hs3⟩; have HQ3 := Lib.hid hq3; clear hq3) | (go_at_call 91; refine (qless_int w0 wA _ bq g c m l' a5.out (2 * (i : Int) + 1 + 1) (2 * (i : Int) + 1) (2 * i + 2) (2 * i + 1) E2.out E1.out B2.out B1.out).mono ?_; rintro e w1 ⟨rfl, hq1, hl1, hs1⟩; rw [h3]; have HQ1 := Lib.hid hq1; clear hq1))
            all_goals
              go_roundg (n - (2 * i + 1))
              case measure => have := a2.out; clear hw1 hw2 hw3; omega
              case rel => exact ⟨2 * i + 1, f, swp l' i (2 * i + 1), by first | rfl | go_num | (rw [E2.out]) | (rw [E1.out]), ⟨by clear hw1 hw2 hw3; have := B1.out; omega⟩, ⟨by clear hw1 hw2 hw3; omega⟩, ⟨by have := a3.out; clear hw1 hw2 hw3; omega⟩, ⟨HD.out⟩, ⟨HQ3.out⟩⟩
          | false =>
            rw [h4] at hdw
            rw [if_neg Bool.false_ne_true] at hdw
            have HD := Lib.hid hdw
            clear hdw
            go_wp2_with (first | (go_at_call_of 91 (Value.int IntKind.i64 (i : Int)); refine (qless_int w0 wA _ bq g c m l' HQ1.out (2 * (i : Int) + 1) (i : Int) (2 * i + 1) i E1.out rfl B1.out B0.out).mono ?_; rintro e w2 ⟨rfl, hq2, hl2, hs2⟩; rw [h4]; have HQ2 := Lib.hid hq2; clear hq2) | (go_at_call 92; refine (qswap_int w0 wA _ bq g c m l' HQ2.out (i : Int) (2 * (i : Int) + 1) i (2 * i + 1) rfl E1.out B0.out B1.out).mono ?_; rintro e w3 ⟨rfl, hq3, hl3, hs3⟩; have HQ3 := Lib.hid hq3; clear hq3) | (go_at_call 91; refine (qless_int w0 wA _ bq g c m l' a5.out (2 * (i : Int) + 1 + 1) (2 * (i : Int) + 1) (2 * i + 2) (2 * i + 1) E2.out E1.out B2.out B1.out).mono ?_; rintro e w1 ⟨rfl, hq1, hl1, hs1⟩; rw [h3]; have HQ1 := Lib.hid hq1; clear hq1))
            all_goals
              go_ret
              refine ⟨⟨_, rfl⟩, ?_⟩
              rw [← HD.out]
              exact HQ2.out
      · have c2 : decide (2 * (i : Int) + 1 + 1 < (n : Int)) = false := by clear hw1 hw2 hw3; simp; omega
        have hk := kid_one (l := l') h2
        rw [dwn_step h1 hk] at hdw
        clear hk
        cases h4 : lt (Tm.g l' (2 * i + 1)) (Tm.g l' i) with
        | true =>
          rw [h4] at hdw
          rw [if_pos rfl] at hdw
          have HD := Lib.hid hdw
          clear hdw
          go_wp2_with (first | (go_at_call_of 91 (Value.int IntKind.i64 (i : Int)); refine (qless_int w0 wA _ bq g c m l' a5.out (2 * (i : Int) + 1) (i : Int) (2 * i + 1) i E1.out rfl B1.out B0.out).mono ?_; rintro e w2 ⟨rfl, hq2, hl2, hs2⟩; rw [h4]; have HQ2 := Lib.hid hq2; clear hq2) | (go_at_call 92; refine (qswap_int w0 wA _ bq g c m l' HQ2.out (i : Int) (2 * (i : Int) + 1) i (2 * i + 1) rfl E1.out B0.out B1.out).mono ?_; rintro e w3 ⟨rfl, hq3, hl3, hs3⟩; have HQ3 := Lib.hid hq3; clear hq3))
          all_goals
            go_roundg (n - (2 * i + 1))
            case measure => have := a2.out; clear hw1 hw2 hw3; omega
            case rel => exact ⟨2 * i + 1, f, swp l' i (2 * i + 1), by first | rfl | go_num | (rw [E2.out]) | (rw [E1.out]), ⟨by clear hw1 hw2 hw3; have := B1.out; omega⟩, ⟨by clear hw1 hw2 hw3; omega⟩, ⟨by have := a3.out; clear hw1 hw2 hw3; omega⟩, ⟨HD.out⟩, ⟨HQ3.out⟩⟩
        | false =>
          rw [h4] at hdw
          rw [if_neg Bool.false_ne_true] at hdw
          have HD := Lib.hid hdw
          clear hdw
          go_wp2_with (first | (go_at_call_of 91 (Value.int IntKind.i64 (i : Int)); refine (qless_int w0 wA _ bq g c m l' a5.out (2 * (i : Int) + 1) (i : Int) (2 * i + 1) i E1.out rfl B1.out B0.out).mono ?_; rintro e w2 ⟨rfl, hq2, hl2, hs2⟩; rw [h4]; have HQ2 := Lib.hid hq2; clear hq2) | (go_at_call 92; refine (qswap_int w0 wA _ bq g c m l' HQ2.out (i : Int) (2 * (i : Int) + 1) i (2 * i + 1) rfl E1.out B0.out B1.out).mono ?_; rintro e w3 ⟨rfl, hq3, hl3, hs3⟩; have HQ3 := Lib.hid hq3; clear hq3))
          all_goals
            go_ret
            refine ⟨⟨_, rfl⟩, ?_⟩
            rw [← HD.out]
            exact HQ2.out
    · have c1 : decide ((n : Int) ≤ 2 * (i : Int) + 1) = true := by clear hw1 hw2 hw3; simp; omega
      go_wp2
      all_goals
        go_ret
        refine ⟨⟨_, rfl⟩, ?_⟩
        rw [← a4.out, dwn_stop h1]
        exact a5.out
end Go.Proofs.Ytahppppkepcbkaa.Fn
