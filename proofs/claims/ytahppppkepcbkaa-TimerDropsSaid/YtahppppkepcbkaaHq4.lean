/- A heap of timers in memory: container/heap's down, by hand. -/
import Derived.Test.YtahppppkepcbkaaFnx0
import Derived.Test.YtahppppkepcbkaaFnx22
import Derived.Test.YtahppppkepcbkaaHq
namespace Go.Proofs.Ytahppppkepcbkaa.Fn
open Go.RowKit Go.Proofs.YtahppppkepcbkaaW.PrintWords Go.Proofs.YtahppppkepcbkaaW.PrintLast Go.Proofs.YtahppppkepcbkaaW.PrintMore Go.Proofs.Ytahppppkepcbkaa.Tm
set_option linter.unusedVariables false
set_option linter.unusedSimpArgs false
set_option maxRecDepth 100000
theorem nilchk (a : Addr) (s n : String) (W : World) : (Builtin.ssaWrapNilChk_ #[94] 94 #[.pointer (some a), strVal s, strVal n]).run Try.prog W = .ok (.pointer (some a)) W := by rfl
theorem m94 (name : String) (f : Nat) (q : Bool) (hm : (Try.t94.methods.find? (fun x => x.name == name)).map (fun m => (m.path, m.func)) = some (#[], some (f, q))) (W : World) (b : Nat) (v : Value) (h : W.cell? ⟨b, 0, none⟩ = some v) (hv : (∃ A n c, v = .slice A n c)) :
    (method 242 94 (.pointer (some ⟨b, 0, none⟩)) name).run Try.prog W = .ok (f, if q = true then .pointer (some ⟨b, 0, none⟩) else v) W := by
  obtain ⟨m, h1, h2⟩ := Option.map_eq_some_iff.1 hm
  obtain ⟨h2, h3⟩ := Prod.mk.inj h2
  obtain ⟨A, n, c, rfl⟩ := hv
  have hu94 := Try.underlying94
  have hu92 := Try.underlying92
  have hn := nilchk ⟨b, 0, none⟩
  unfold method
  simp only [go_sem]
  simp [go_sem, h1, h2, h3, follow, receiverAt]
  cases q
  · simp [go_sem, hu94, Place.get]
    rw [hn]
    simp [go_sem, h]
  · simp [go_sem, Place.get]
theorem mLess (W : World) (b : Nat) (A : Option Addr) (n c : Nat) (h : W.cell? ⟨b, 0, none⟩ = some (.slice A n c)) : (method 242 94 (.pointer (some ⟨b, 0, none⟩)) "Less").run Try.prog W = .ok (91, .slice A n c) W := m94 "Less" 91 false (by kernel_rfl) W b _ h ⟨_, _, _, rfl⟩
theorem mSwap (W : World) (b : Nat) (A : Option Addr) (n c : Nat) (h : W.cell? ⟨b, 0, none⟩ = some (.slice A n c)) : (method 242 94 (.pointer (some ⟨b, 0, none⟩)) "Swap").run Try.prog W = .ok (92, .slice A n c) W := m94 "Swap" 92 false (by kernel_rfl) W b _ h ⟨_, _, _, rfl⟩
theorem mLen (W : World) (b : Nat) (A : Option Addr) (n c : Nat) (h : W.cell? ⟨b, 0, none⟩ = some (.slice A n c)) : (method 242 94 (.pointer (some ⟨b, 0, none⟩)) "Len").run Try.prog W = .ok (68, .slice A n c) W := m94 "Len" 68 false (by kernel_rfl) W b _ h ⟨_, _, _, rfl⟩
theorem mPop (W : World) (b : Nat) (A : Option Addr) (n c : Nat) (h : W.cell? ⟨b, 0, none⟩ = some (.slice A n c)) : (method 242 94 (.pointer (some ⟨b, 0, none⟩)) "Pop").run Try.prog W = .ok (93, .pointer (some ⟨b, 0, none⟩)) W := m94 "Pop" 93 true (by kernel_rfl) W b _ h ⟨_, _, _, rfl⟩
theorem mPush (W : World) (b : Nat) (A : Option Addr) (n c : Nat) (h : W.cell? ⟨b, 0, none⟩ = some (.slice A n c)) : (method 242 94 (.pointer (some ⟨b, 0, none⟩)) "Push").run Try.prog W = .ok (94, .pointer (some ⟨b, 0, none⟩)) W := m94 "Push" 94 true (by kernel_rfl) W b _ h ⟨_, _, _, rfl⟩
theorem qless_int (w0 wA W : World) (bq g c n : Nat) (l : List S52) (hq : QW w0 wA W bq g (.slice (some ⟨g, 0, none⟩) n c) l) (a b : Int) (i k : Nat) (ha : a = (i : Int)) (hb : b = (k : Int)) (hi : i < n) (hk : k < n) :
    Calls Try.prog 91 #[.slice (some ⟨g, 0, none⟩) n c, .int .i64 a, .int .i64 b] W fun e W' => e = .returned (.bool (lt (Tm.g l i) (Tm.g l k))) ∧ QW w0 wA W' bq g (.slice (some ⟨g, 0, none⟩) n c) l ∧ (method 242 94 (.pointer (some ⟨bq, 0, none⟩)) "Less").run Try.prog W' = .ok (91, .slice (some ⟨g, 0, none⟩) n c) W' ∧ (method 242 94 (.pointer (some ⟨bq, 0, none⟩)) "Swap").run Try.prog W' = .ok (92, .slice (some ⟨g, 0, none⟩) n c) W' := by
  subst ha hb
  obtain ⟨h1, h2, h3⟩ := Kd.R_reads' hq.row
  subst h1
  exact (qless_any (some ⟨g, 0, none⟩) c l W h3 i k hi hk).mono fun e W' h => ⟨h.1, hq.below h.2, mLess _ _ _ _ _ ((blk_cell (hq.below h.2).blk 0).trans rfl), mSwap _ _ _ _ _ ((blk_cell (hq.below h.2).blk 0).trans rfl)⟩
theorem qswap_int (w0 wA W : World) (bq g c n : Nat) (l : List S52) (hq : QW w0 wA W bq g (.slice (some ⟨g, 0, none⟩) n c) l) (a b : Int) (i k : Nat) (ha : a = (i : Int)) (hb : b = (k : Int)) (hi : i < n) (hk : k < n) :
    Calls Try.prog 92 #[.slice (some ⟨g, 0, none⟩) n c, .int .i64 a, .int .i64 b] W fun e W' => e = .returned (.tuple #[]) ∧ QW w0 wA W' bq g (.slice (some ⟨g, 0, none⟩) n c) (swp l i k) ∧ (method 242 94 (.pointer (some ⟨bq, 0, none⟩)) "Less").run Try.prog W' = .ok (91, .slice (some ⟨g, 0, none⟩) n c) W' ∧ (method 242 94 (.pointer (some ⟨bq, 0, none⟩)) "Swap").run Try.prog W' = .ok (92, .slice (some ⟨g, 0, none⟩) n c) W' := by
  subst ha hb
  obtain ⟨h1, h2, h3⟩ := Kd.R_reads' hq.row
  subst h1
  exact (qswap_any w0 wA W bq g c l hq i k hi hk).mono fun e W' h => ⟨h.1, h.2, mLess _ _ _ _ _ ((blk_cell h.2.blk 0).trans rfl), mSwap _ _ _ _ _ ((blk_cell h.2.blk 0).trans rfl)⟩
theorem dwn_stop {n f i : Nat} {l : List S52} (h : ¬ 2 * i + 1 < n) : dwn n f i l = l := by
  cases f with
  | zero => rfl
  | succ f => rw [dwn, if_neg h]
theorem dwn_step {n f i k : Nat} {l : List S52} (h : 2 * i + 1 < n) (hk : kid l i n = k) : dwn n (f + 1) i l = if lt (Tm.g l k) (Tm.g l i) = true then dwn n f k (swp l i k) else l := by
  rw [dwn, if_pos h, hk]
  rfl
theorem kid_two {n i : Nat} {l : List S52} (h : 2 * i + 2 < n) : kid l i n = if lt (Tm.g l (2 * i + 2)) (Tm.g l (2 * i + 1)) = true then 2 * i + 2 else 2 * i + 1 := by
  unfold kid
  by_cases q : lt (Tm.g l (2 * i + 2)) (Tm.g l (2 * i + 1)) = true
  · rw [if_pos ⟨h, q⟩, if_pos q]
  · rw [if_neg (fun q' => q q'.2), if_neg q]
theorem kid_one {n i : Nat} {l : List S52} (h : ¬ 2 * i + 2 < n) : kid l i n = 2 * i + 1 := by
  unfold kid
  rw [if_neg (fun q => h q.1)]
set_option maxHeartbeats 1000000 in
theorem qdown_any (w0 wA W : World) (bq g c m : Nat) (l : List S52) (hq : QW w0 wA W bq g (.slice (some ⟨g, 0, none⟩) m c) l) (i0 n : Nat) (hm : m ≤ 300) (hn : n ≤ m) (hi0 : i0 ≤ m) :
    Calls Try.prog 70 #[.iface 94 (.pointer (some ⟨bq, 0, none⟩)), .int .i64 (i0 : Int), .int .i64 (n : Int)] W fun e W' => (∃ b, e = .returned (.bool b)) ∧ QW w0 wA W' bq g (.slice (some ⟨g, 0, none⟩) m c) (dwn n n i0 l) := by
  have HQ := Lib.hid hq
  clear hq
  go_enter Try.func70, Try.ntmps70
  go_wp2_with fail
  go_loopg [7] n (fun gg v7 wr => ∃ (i f : Nat) (l' : List S52), v7 = .int .i64 (i : Int) ∧ Aside0 (i ≤ m) ∧ Aside0 (n ≤ gg + i) ∧ Aside0 (n ≤ i + f) ∧ Aside0 (dwn n f i l' = dwn n n i0 l) ∧ Aside0 (QW w0 wA wr bq g (.slice (some ⟨g, 0, none⟩) m c) l'))
  case atStart => exact ⟨i0, n, l, rfl, ⟨hi0⟩, ⟨by omega⟩, ⟨by omega⟩, ⟨rfl⟩, ⟨HQ.out⟩⟩
  case round =>
    obtain ⟨i, f, l', rfl, a1, a2, a3, a4, a5⟩ := hrel
    have him := a1.out
    have hg0 : wr.cell? ⟨bq, 0, none⟩ = some (.slice (some ⟨g, 0, none⟩) m c) := (blk_cell a5.out.blk 0).trans rfl
    have hl0 := mLess wr bq _ _ _ hg0
    have hs0 := mSwap wr bq _ _ _ hg0
    clear hg0
    have E2 := Lib.hid (show 2 * (i : Int) + 1 + 1 = ((2 * i + 2 : Nat) : Int) by omega)
    have E1 := Lib.hid (show 2 * (i : Int) + 1 = ((2 * i + 1 : Nat) : Int) by omega)
    have hw1 : wrap64 (2 * (i : Int)) = 2 * (i : Int) := by unfold wrap64; omega
    have hw2 : wrap64 (2 * (i : Int) + 1) = 2 * (i : Int) + 1 := by unfold wrap64; omega
    have hw3 : wrap64 (2 * (i : Int) + 1 + 1) = 2 * (i : Int) + 1 + 1 := by unfold wrap64; omega
    by_cases h1 : 2 * i + 1 < n
    · have B1 := Lib.hid (show 2 * i + 1 < m by clear hw1 hw2 hw3; omega)
      have B0 := Lib.hid (show i < m by clear hw1 hw2 hw3; omega)
      have c1 : decide ((n : Int) ≤ 2 * (i : Int) + 1) = false := by clear hw1 hw2 hw3; simp; omega
      have c3 : decide (2 * (i : Int) + 1 < 0) = false := by clear hw1 hw2 hw3; simp; omega
      obtain ⟨f, rfl⟩ : ∃ f', f = f' + 1 := ⟨f - 1, by have := a3.out; clear hw1 hw2 hw3; omega⟩
      have hdw := a4.out
      by_cases h2 : 2 * i + 2 < n
      · have B2 := Lib.hid (show 2 * i + 2 < m by clear hw1 hw2 hw3; omega)
        have c2 : decide (2 * (i : Int) + 1 + 1 < (n : Int)) = true := by clear hw1 hw2 hw3; simp; omega
        have hk := kid_two (l := l') h2
        cases h3 : lt (Tm.g l' (2 * i + 2)) (Tm.g l' (2 * i + 1)) with
        | true =>
          rw [h3, if_pos rfl] at hk
          rw [dwn_step h1 hk] at hdw
          clear hk
          cases h4 : lt (Tm.g l' (2 * i + 2)) (Tm.g l' i) with
          | true =>
            rw [h4] at hdw
            rw [if_pos rfl] at hdw
            have HD := Lib.hid hdw
            clear hdw
            go_wp2_with (first | (go_at_call_of 91 (Value.int IntKind.i64 (i : Int)); refine (qless_int w0 wA _ bq g c m l' HQ1.out (2 * (i : Int) + 1 + 1) (i : Int) (2 * i + 2) i E2.out rfl B2.out B0.out).mono ?_; rintro e w2 ⟨rfl, hq2, hl2, hs2⟩; rw [h4]; have HQ2 := Lib.hid hq2; clear hq2) | (go_at_call 92; refine (qswap_int w0 wA _ bq g c m l' HQ2.out (i : Int) (2 * (i : Int) + 1 + 1) i (2 * i + 2) rfl E2.out B0.out B2.out).mono ?_; rintro e w3 ⟨rfl, hq3, hl3, hs3⟩; have HQ3 := Lib.hid hq3; clear hq3) | (go_at_call 91; refine (qless_int w0 wA _ bq g c m l' a5.out (2 * (i : Int) + 1 + 1) (2 * (i : Int) + 1) (2 * i + 2) (2 * i + 1) E2.out E1.out B2.out B1.out).mono ?_; rintro e w1 ⟨rfl, hq1, hl1, hs1⟩; rw [h3]; have HQ1 := Lib.hid hq1; clear hq1))
            all_goals
              go_roundg (n - (2 * i + 2))
              case measure => have := a2.out; clear hw1 hw2 hw3; omega
              case rel => exact ⟨2 * i + 2, f, swp l' i (2 * i + 2), by first | rfl | go_num | (rw [E2.out]) | (rw [E1.out]), ⟨by clear hw1 hw2 hw3; have := B1.out; omega⟩, ⟨by clear hw1 hw2 hw3; omega⟩, ⟨by have := a3.out; clear hw1 hw2 hw3; omega⟩, ⟨HD.out⟩, ⟨HQ3.out⟩⟩
          | false =>
            rw [h4] at hdw
            rw [if_neg Bool.false_ne_true] at hdw
            have HD := Lib.hid hdw
            clear hdw
            go_wp2_with (first | (go_at_call_of 91 (Value.int IntKind.i64 (i : Int)); refine (qless_int w0 wA _ bq g c m l' HQ1.out (2 * (i : Int) + 1 + 1) (i : Int) (2 * i + 2) i E2.out rfl B2.out B0.out).mono ?_; rintro e w2 ⟨rfl, hq2, hl2, hs2⟩; rw [h4]; have HQ2 := Lib.hid hq2; clear hq2) | (go_at_call 92; refine (qswap_int w0 wA _ bq g c m l' HQ2.out (i : Int) (2 * (i : Int) + 1 + 1) i (2 * i + 2) rfl E2.out B0.out B2.out).mono ?_; rintro e w3 ⟨rfl, hq3, hl3, hs3⟩; have HQ3 := Lib.hid hq3; clear hq3) | (go_at_call 91; refine (qless_int w0 wA _ bq g c m l' a5.out (2 * (i : Int) + 1 + 1) (2 * (i : Int) + 1) (2 * i + 2) (2 * i + 1) E2.out E1.out B2.out B1.out).mono ?_; rintro e w1 ⟨rfl, hq1, hl1, hs1⟩; rw [h3]; have HQ1 := Lib.hid hq1; clear hq1))
            all_goals
              go_ret
              refine ⟨⟨_, rfl⟩, ?_⟩
              rw [← HD.out]
              exact HQ2.out
        | false =>
          rw [h3, if_neg Bool.false_ne_true] at hk
          rw [dwn_step h1 hk] at hdw
          clear hk
          cases h4 : lt (Tm.g l' (2 * i + 1)) (Tm.g l' i) with
          | true =>
            rw [h4] at hdw
            rw [if_pos rfl] at hdw
            have HD := Lib.hid hdw
            clear hdw
            go_wp2_with (first | (go_at_call_of 91 (Value.int IntKind.i64 (i : Int)); refine (qless_int w0 wA _ bq g c m l' HQ1.out (2 * (i : Int) + 1) (i : Int) (2 * i + 1) i E1.out rfl B1.out B0.out).mono ?_; rintro e w2 ⟨rfl, hq2, hl2, hs2⟩; rw [h4]; have HQ2 := Lib.hid hq2; clear hq2) | (go_at_call 92; refine (qswap_int w0 wA _ bq g c m l' HQ2.out (i : Int) (2 * (i : Int) + 1) i (2 * i + 1) rfl E1.out B0.out B1.out).mono ?_; rintro e w3 ⟨rfl, hq3, hl3, hs3⟩; have HQ3 := Lib.hid hq3; clear hq3) | (go_at_call 91; refine (qless_int w0 wA _ bq g c m l' a5.out (2 * (i : Int) + 1 + 1) (2 * (i : Int) + 1) (2 * i + 2) (2 * i + 1) E2.out E1.out B2.out B1.out).mono ?_; rintro e w1 ⟨rfl, hq1, hl1, hs1⟩; rw [h3]; have HQ1 := Lib.hid hq1; clear hq1))
            all_goals
              go_roundg (n - (2 * i + 1))
              case measure => have := a2.out; clear hw1 hw2 hw3; omega
              case rel => exact ⟨2 * i + 1, f, swp l' i (2 * i + 1), by first | rfl | go_num | (rw [E2.out]) | (rw [E1.out]), ⟨by clear hw1 hw2 hw3; have := B1.out; omega⟩, ⟨by clear hw1 hw2 hw3; omega⟩, ⟨by have := a3.out; clear hw1 hw2 hw3; omega⟩, ⟨HD.out⟩, ⟨HQ3.out⟩⟩
          | false =>
            rw [h4] at hdw
            rw [if_neg Bool.false_ne_true] at hdw
            have HD := Lib.hid hdw
            clear hdw
            go_wp2_with (first | (go_at_call_of 91 (Value.int IntKind.i64 (i : Int)); refine (qless_int w0 wA _ bq g c m l' HQ1.out (2 * (i : Int) + 1) (i : Int) (2 * i + 1) i E1.out rfl B1.out B0.out).mono ?_; rintro e w2 ⟨rfl, hq2, hl2, hs2⟩; rw [h4]; have HQ2 := Lib.hid hq2; clear hq2) | (go_at_call 92; refine (qswap_int w0 wA _ bq g c m l' HQ2.out (i : Int) (2 * (i : Int) + 1) i (2 * i + 1) rfl E1.out B0.out B1.out).mono ?_; rintro e w3 ⟨rfl, hq3, hl3, hs3⟩; have HQ3 := Lib.hid hq3; clear hq3) | (go_at_call 91; refine (qless_int w0 wA _ bq g c m l' a5.out (2 * (i : Int) + 1 + 1) (2 * (i : Int) + 1) (2 * i + 2) (2 * i + 1) E2.out E1.out B2.out B1.out).mono ?_; rintro e w1 ⟨rfl, hq1, hl1, hs1⟩; rw [h3]; have HQ1 := Lib.hid hq1; clear hq1))
            all_goals
              go_ret
              refine ⟨⟨_, rfl⟩, ?_⟩
              rw [← HD.out]
              exact HQ2.out
      · have c2 : decide (2 * (i : Int) + 1 + 1 < (n : Int)) = false := by clear hw1 hw2 hw3; simp; omega
        have hk := kid_one (l := l') h2
        rw [dwn_step h1 hk] at hdw
        clear hk
        cases h4 : lt (Tm.g l' (2 * i + 1)) (Tm.g l' i) with
        | true =>
          rw [h4] at hdw
          rw [if_pos rfl] at hdw
          have HD := Lib.hid hdw
          clear hdw
          go_wp2_with (first | (go_at_call_of 91 (Value.int IntKind.i64 (i : Int)); refine (qless_int w0 wA _ bq g c m l' a5.out (2 * (i : Int) + 1) (i : Int) (2 * i + 1) i E1.out rfl B1.out B0.out).mono ?_; rintro e w2 ⟨rfl, hq2, hl2, hs2⟩; rw [h4]; have HQ2 := Lib.hid hq2; clear hq2) | (go_at_call 92; refine (qswap_int w0 wA _ bq g c m l' HQ2.out (i : Int) (2 * (i : Int) + 1) i (2 * i + 1) rfl E1.out B0.out B1.out).mono ?_; rintro e w3 ⟨rfl, hq3, hl3, hs3⟩; have HQ3 := Lib.hid hq3; clear hq3))
          all_goals
            go_roundg (n - (2 * i + 1))
            case measure => have := a2.out; clear hw1 hw2 hw3; omega
            case rel => exact ⟨2 * i + 1, f, swp l' i (2 * i + 1), by first | rfl | go_num | (rw [E2.out]) | (rw [E1.out]), ⟨by clear hw1 hw2 hw3; have := B1.out; omega⟩, ⟨by clear hw1 hw2 hw3; omega⟩, ⟨by have := a3.out; clear hw1 hw2 hw3; omega⟩, ⟨HD.out⟩, ⟨HQ3.out⟩⟩
        | false =>
          rw [h4] at hdw
          rw [if_neg Bool.false_ne_true] at hdw
          have HD := Lib.hid hdw
          clear hdw
          go_wp2_with (first | (go_at_call_of 91 (Value.int IntKind.i64 (i : Int)); refine (qless_int w0 wA _ bq g c m l' a5.out (2 * (i : Int) + 1) (i : Int) (2 * i + 1) i E1.out rfl B1.out B0.out).mono ?_; rintro e w2 ⟨rfl, hq2, hl2, hs2⟩; rw [h4]; have HQ2 := Lib.hid hq2; clear hq2) | (go_at_call 92; refine (qswap_int w0 wA _ bq g c m l' HQ2.out (i : Int) (2 * (i : Int) + 1) i (2 * i + 1) rfl E1.out B0.out B1.out).mono ?_; rintro e w3 ⟨rfl, hq3, hl3, hs3⟩; have HQ3 := Lib.hid hq3; clear hq3))
          all_goals
            go_ret
            refine ⟨⟨_, rfl⟩, ?_⟩
            rw [← HD.out]
            exact HQ2.out
    · have c1 : decide ((n : Int) ≤ 2 * (i : Int) + 1) = true := by clear hw1 hw2 hw3; simp; omega
      go_wp2
      all_goals
        go_ret
        refine ⟨⟨_, rfl⟩, ?_⟩
        rw [← a4.out, dwn_stop h1]
        exact a5.out
end Go.Proofs.Ytahppppkepcbkaa.Fn
/- A heap of timers in memory: container/heap's up, Init, Push, Pop, and all, by hand. -/
namespace Go.Proofs.Ytahppppkepcbkaa.Fn
open Go.RowKit Go.Proofs.YtahppppkepcbkaaW.PrintWords Go.Proofs.YtahppppkepcbkaaW.PrintLast Go.Proofs.YtahppppkepcbkaaW.PrintMore Go.Proofs.Ytahppppkepcbkaa.Tm
set_option linter.unusedVariables false
set_option linter.unusedSimpArgs false
set_option maxRecDepth 100000
theorem upw_stop {f : Nat} {l : List S52} : upw f 0 l = l := by
  cases f with
  | zero => rfl
  | succ f => rw [upw, if_pos rfl]
theorem upw_step {f j p : Nat} {l : List S52} (h : j ≠ 0) (hp : p = (j - 1) / 2) : upw (f + 1) j l = if lt (Tm.g l j) (Tm.g l p) = true then upw f p (swp l p j) else l := by
  subst hp
  rw [upw, if_neg h]
  rfl
set_option maxHeartbeats 1000000 in
theorem qup_any (w0 wA W : World) (bq g c m : Nat) (l : List S52) (hq : QW w0 wA W bq g (.slice (some ⟨g, 0, none⟩) m c) l) (j0 : Nat) (hm : m ≤ 300) (hj0 : j0 < m) :
    Calls Try.prog 67 #[.iface 94 (.pointer (some ⟨bq, 0, none⟩)), .int .i64 (j0 : Int)] W fun e W' => e = .returned (.tuple #[]) ∧ QW w0 wA W' bq g (.slice (some ⟨g, 0, none⟩) m c) (upw j0 j0 l) := by
  have HQ := Lib.hid hq
  clear hq
  go_enter Try.func67, Try.ntmps67
  go_wp2_with fail
  go_loopg [1] j0 (fun gg v1 wr => ∃ (j f : Nat) (l' : List S52), v1 = .int .i64 (j : Int) ∧ Aside0 (j < m) ∧ Aside0 (j ≤ gg) ∧ Aside0 (j ≤ f) ∧ Aside0 (upw f j l' = upw j0 j0 l) ∧ Aside0 (QW w0 wA wr bq g (.slice (some ⟨g, 0, none⟩) m c) l'))
  case atStart => exact ⟨j0, j0, l, rfl, ⟨hj0⟩, ⟨Nat.le_refl _⟩, ⟨Nat.le_refl _⟩, ⟨rfl⟩, ⟨HQ.out⟩⟩
  case round =>
    obtain ⟨j, f, l', rfl, a1, a2, a3, a4, a5⟩ := hrel
    have hjm := a1.out
    have hg0 : wr.cell? ⟨bq, 0, none⟩ = some (.slice (some ⟨g, 0, none⟩) m c) := (blk_cell a5.out.blk 0).trans rfl
    have hl0 := mLess wr bq _ _ _ hg0
    have hs0 := mSwap wr bq _ _ _ hg0
    clear hg0
    by_cases h0 : j = 0
    · subst h0
      have hw1 : wrap64 (((0 : Nat) : Int) - 1) = -1 := by unfold wrap64; omega
      go_wp2
      all_goals
        go_end0
        refine ⟨rfl, ?_⟩
        rw [← a4.out, upw_stop]
        exact a5.out
    · obtain ⟨f, rfl⟩ : ∃ f', f = f' + 1 := ⟨f - 1, by have := a3.out; omega⟩
      obtain ⟨p, hp⟩ : ∃ p, p = (j - 1) / 2 := ⟨_, rfl⟩
      have hdw := a4.out
      rw [upw_step h0 hp] at hdw
      have BP := Lib.hid (show p < m by omega)
      have HP := Lib.hid (show p < j by omega)
      have hd : Int.tdiv ((j : Int) - 1) 2 = (p : Int) := by
        rw [Int.tdiv_eq_ediv_of_nonneg (by omega), hp]
        omega
      have hpj : decide ((p : Int) = (j : Int)) = false := by simp; omega
      have hpj' : ((p : Int) == (j : Int)) = false := by simp; omega
      clear hp
      have hw1 : wrap64 ((j : Int) - 1) = (j : Int) - 1 := by unfold wrap64; omega
      have hw2 : wrap64 (p : Int) = (p : Int) := by unfold wrap64; have := BP.out; omega
      cases h4 : lt (Tm.g l' j) (Tm.g l' p) with
      | true =>
        rw [h4, if_pos rfl] at hdw
        have HD := Lib.hid hdw
        clear hdw
        go_wp2_with (first | (go_at_call 91; refine (qless_int w0 wA _ bq g c m l' a5.out (j : Int) (p : Int) j p rfl rfl a1.out BP.out).mono ?_; rintro e w2 ⟨rfl, hq2, hl2, hs2⟩; rw [h4]; have HQ2 := Lib.hid hq2; clear hq2) | (go_at_call 92; refine (qswap_int w0 wA _ bq g c m l' HQ2.out (p : Int) (j : Int) p j rfl rfl BP.out a1.out).mono ?_; rintro e w3 ⟨rfl, hq3, hl3, hs3⟩; have HQ3 := Lib.hid hq3; clear hq3))
        all_goals
          go_roundg p
          case measure => have := a2.out; have := HP.out; clear hw1 hw2; omega
          case rel => exact ⟨p, f, swp l' p j, rfl, ⟨BP.out⟩, ⟨Nat.le_refl _⟩, ⟨by have := a3.out; have := HP.out; clear hw1 hw2; omega⟩, ⟨HD.out⟩, ⟨HQ3.out⟩⟩
      | false =>
        rw [h4, if_neg Bool.false_ne_true] at hdw
        have HD := Lib.hid hdw
        clear hdw
        go_wp2_with (go_at_call 91; refine (qless_int w0 wA _ bq g c m l' a5.out (j : Int) (p : Int) j p rfl rfl a1.out BP.out).mono ?_; rintro e w2 ⟨rfl, hq2, hl2, hs2⟩; rw [h4]; have HQ2 := Lib.hid hq2; clear hq2)
        all_goals
          go_end0
          refine ⟨rfl, ?_⟩
          rw [← HD.out]
          exact HQ2.out
end Go.Proofs.Ytahppppkepcbkaa.Fn
/- A heap of timers in memory: container/heap's Init, Push, Pop, by hand. -/
namespace Go.Proofs.Ytahppppkepcbkaa.Fn
open Go.RowKit Go.Proofs.YtahppppkepcbkaaW.PrintWords Go.Proofs.YtahppppkepcbkaaW.PrintLast Go.Proofs.YtahppppkepcbkaaW.PrintMore Go.Proofs.Ytahppppkepcbkaa.Tm
set_option linter.unusedVariables false
set_option linter.unusedSimpArgs false
set_option maxRecDepth 100000
theorem qlen_any (w0 wA W : World) (bq g : Nat) (A : Option Addr) (n c : Nat) (l : List S52) (hq : QW w0 wA W bq g (.slice A n c) l) :
    Calls Try.prog 68 #[.slice A n c] W fun e W' => e = .returned (.int .i64 (n : Int)) ∧ QW w0 wA W' bq g (.slice A n c) l ∧ W'.cell? ⟨bq, 0, none⟩ = some (.slice A n c) := by
  obtain ⟨h1, h2, h3⟩ := Kd.R_reads' hq.row
  subst h1
  exact (timer_queue_Len.calls A c l _ W h3 h2 rfl).mono fun e W' h => ⟨h.1, hq.below h.2.below, (blk_cell (hq.below h.2.below).blk 0).trans rfl⟩
set_option maxHeartbeats 1000000 in
theorem qinit_none (w0 wA W : World) (bq g : Nat) (A : Option Addr) (c : Nat) (hq : QW w0 wA W bq g (.slice A 0 c) []) :
    Calls Try.prog 56 #[.iface 94 (.pointer (some ⟨bq, 0, none⟩))] W fun e W' => e = .returned (.tuple #[]) ∧ QW w0 wA W' bq g (.slice A 0 c) [] := by
  have hg0 : W.cell? ⟨bq, 0, none⟩ = some (.slice A 0 c) := (blk_cell hq.blk 0).trans rfl
  have hl0 := mLen W bq _ _ _ hg0
  have HQ := Lib.hid hq
  clear hq hg0
  go_enter Try.func56, Try.ntmps56
  go_wp2_with (go_at_call 68; refine (qlen_any w0 wA _ bq g A 0 c [] HQ.out).mono ?_; rintro e w1 ⟨rfl, hq1, hg1⟩; have HQ1 := Lib.hid hq1; clear hq1)
  go_loopg [3] 1 (fun gg v3 wr => v3 = .int .i64 (-1) ∧ Aside0 (wr = w1))
  case atStart => exact ⟨by first | rfl | (simp; done), ⟨rfl⟩⟩
  case round =>
    obtain ⟨rfl, a1⟩ := hrel
    have e := a1.out
    subst e
    go_wp2
    all_goals
      go_end0
      exact ⟨rfl, HQ1.out⟩
set_option maxHeartbeats 1000000 in
theorem qinit_some (w0 wA W : World) (bq g c n : Nat) (l : List S52) (hq : QW w0 wA W bq g (.slice (some ⟨g, 0, none⟩) n c) l) (hn : 0 < n) (hm : n ≤ 300) :
    Calls Try.prog 56 #[.iface 94 (.pointer (some ⟨bq, 0, none⟩))] W fun e W' => e = .returned (.tuple #[]) ∧ QW w0 wA W' bq g (.slice (some ⟨g, 0, none⟩) n c) (ini n (n / 2) l) := by
  have hg0 : W.cell? ⟨bq, 0, none⟩ = some (.slice (some ⟨g, 0, none⟩) n c) := (blk_cell hq.blk 0).trans rfl
  have hl0 := mLen W bq _ _ _ hg0
  have HQ := Lib.hid hq
  clear hq hg0
  obtain ⟨h, hh⟩ : ∃ h, h = n / 2 := ⟨_, rfl⟩
  rw [← hh]
  have hd : Int.tdiv (n : Int) 2 = (h : Int) := by rw [Int.tdiv_eq_ediv_of_nonneg (by omega)]; omega
  have hdv : (n : Int) / 2 = (h : Int) := by omega
  have HN := Lib.hid (show h ≤ n by omega)
  have hh2 : h ≤ 300 := by omega
  clear hh
  have hw0 : wrap64 (h : Int) = (h : Int) := by unfold wrap64; omega
  have hw1 : wrap64 ((h : Int) - 1) = (h : Int) - 1 := by unfold wrap64; omega
  go_enter Try.func56, Try.ntmps56
  go_wp2_with (go_at_call 68; refine (qlen_any w0 wA _ bq g _ n c l HQ.out).mono ?_; rintro e w1 ⟨rfl, hq1, hg1⟩; have HQ1 := Lib.hid hq1; clear hq1)
  clear hg1
  go_loopg [3] h (fun gg v3 wr => ∃ (i : Nat) (l' : List S52), v3 = .int .i64 ((i : Int) - 1) ∧ Aside0 (i ≤ h) ∧ Aside0 (i ≤ gg) ∧ Aside0 (ini n i l' = ini n h l) ∧ Aside0 (QW w0 wA wr bq g (.slice (some ⟨g, 0, none⟩) n c) l'))
  case atStart => exact ⟨h, l, by first | rfl | (simp; done) | (simp [*]; done), ⟨Nat.le_refl _⟩, ⟨Nat.le_refl _⟩, ⟨rfl⟩, ⟨HQ1.out⟩⟩
  case round =>
    obtain ⟨i, l', rfl, a1, a2, a3, a4⟩ := hrel
    cases i with
    | zero =>
      go_wp2
      all_goals
        go_end0
        refine ⟨rfl, ?_⟩
        rw [← a3.out]
        exact a4.out
    | succ i =>
      have hi := a1.out
      have HI := Lib.hid (show i ≤ n by have := HN.out; omega)
      have hc : decide ((0 : Int) ≤ (i : Int)) = true := by simp
      have hw2 : wrap64 ((i : Int) - 1) = (i : Int) - 1 := by unfold wrap64; have := HN.out; omega
      have he : ((i + 1 : Nat) : Int) - 1 = (i : Int) := by omega
      rw [he]
      clear he
      go_wp2_with (go_at_call 70; refine (qdown_any w0 wA _ bq g c n l' a4.out i n hm (Nat.le_refl _) HI.out).mono ?_; rintro e w2 ⟨⟨b, rfl⟩, hq2⟩; have HQ2 := Lib.hid hq2; clear hq2)
      all_goals
        go_roundg i
        case measure => have := a2.out; omega
        case rel => exact ⟨i, dwn n n i l', rfl, ⟨by have := a1.out; omega⟩, ⟨Nat.le_refl _⟩, ⟨by rw [← a3.out]; rfl⟩, ⟨HQ2.out⟩⟩
set_option maxHeartbeats 1000000 in
theorem qhpush_any (w0 wA W : World) (bq g : Nat) (A : Option Addr) (c : Nat) (l : List S52) (x : S52) (hq : QW w0 wA W bq g (.slice A l.length c) l) (hm : l.length < 299) :
    Calls Try.prog 53 #[.iface 94 (.pointer (some ⟨bq, 0, none⟩)), .iface 52 (tv x)] W fun e W' => e = .returned (.tuple #[]) ∧ ∃ A' c' g', QW w0 W' W' bq g' (.slice A' (l.length + 1) c') (qput l x) := by
  have hg0 : W.cell? ⟨bq, 0, none⟩ = some (.slice A l.length c) := (blk_cell hq.blk 0).trans rfl
  have hl0 := mPush W bq _ _ _ hg0
  have HQ := Lib.hid hq
  clear hq hg0
  have hw1 : wrap64 (((l.length + 1 : Nat) : Int) - 1) = (l.length : Int) := by unfold wrap64; omega
  generalize htv : tv x = tx
  go_enter Try.func53, Try.ntmps53
  go_wp2_with (first
    | (go_at_call 94
       rw [← htv]
       refine (qpush_any w0 wA _ bq g _ l x HQ.out (by omega)).mono ?_
       rintro e w1 ⟨rfl, v1, hq1⟩
       obtain ⟨g1, c1, rfl, _⟩ := Kd.R_form (hq1 0).row (by simp)
       have hlen : (l ++ [x]).length = l.length + 1 := by simp
       rw [hlen] at hq1
       have hl1 := mLen w1 bq _ _ _ ((blk_cell (hq1 0).blk 0).trans rfl)
       have HQ1 := Lib.hid (hq1 g1)
       clear hq1 hlen)
    | (go_at_call 68
       refine (qlen_any w0 _ _ bq g1 _ (l.length + 1) c1 (l ++ [x]) HQ1.out).mono ?_
       rintro e w2 ⟨rfl, hq2, hg2⟩
       have HQ2 := Lib.hid hq2
       clear hq2 hg2)
    | (go_at_call 67
       refine (qup_any w0 _ _ bq g1 c1 (l.length + 1) (l ++ [x]) HQ2.out l.length (by omega) (by omega)).mono ?_
       rintro e w3 ⟨rfl, hq3⟩
       have HQ3 := Lib.hid (hq3.anew g1)
       clear hq3))
  all_goals
    go_end0
    exact ⟨rfl, _, _, _, HQ3.out⟩
set_option maxHeartbeats 1000000 in
theorem qhpop_any (w0 wA W : World) (bq g c n : Nat) (l : List S52) (hq : QW w0 wA W bq g (.slice (some ⟨g, 0, none⟩) (n + 1) c) l) (hl : l.length = n + 1) (hm : n < 299) :
    Calls Try.prog 69 #[.iface 94 (.pointer (some ⟨bq, 0, none⟩))] W fun e W' => e = .returned (.iface 52 (tv (Tm.g (qpop n l) n))) ∧ QW w0 wA W' bq g (.slice (some ⟨g, 0, none⟩) n c) ((qpop n l).take n) := by
  have hg0 : W.cell? ⟨bq, 0, none⟩ = some (.slice (some ⟨g, 0, none⟩) (n + 1) c) := (blk_cell hq.blk 0).trans rfl
  have hl0 := mLen W bq _ _ _ hg0
  have HQ := Lib.hid hq
  have HL := Lib.hid (show (qpop n l).length = n + 1 by unfold qpop; rw [dwn_len, swp_len, hl])
  clear hq hg0 hl
  have hw1 : wrap64 (((n + 1 : Nat) : Int) - 1) = (n : Int) := by unfold wrap64; omega
  go_enter Try.func69, Try.ntmps69
  go_wp2_with (first
    | (go_at_call 68
       refine (qlen_any w0 wA _ bq g _ (n + 1) c l HQ.out).mono ?_
       rintro e w1 ⟨rfl, hq1, hg1⟩
       have hs1 := mSwap w1 bq _ _ _ hg1
       have HQ1 := Lib.hid hq1
       clear hq1 hg1)
    | (go_at_call 92
       refine (qswap_int w0 wA _ bq g c (n + 1) l HQ1.out 0 (n : Int) 0 n rfl rfl (by omega) (by omega)).mono ?_
       rintro e w2 ⟨rfl, hq2, hx2, hy2⟩
       have HQ2 := Lib.hid hq2
       clear hq2 hx2 hy2)
    | (go_at_call 70
       refine (qdown_any w0 wA _ bq g c (n + 1) (swp l 0 n) HQ2.out 0 n (by omega) (by omega) (by omega)).mono ?_
       rintro e w3 ⟨⟨b, rfl⟩, hq3⟩
       have hp3 := mPop w3 bq _ _ _ ((blk_cell hq3.blk 0).trans rfl)
       have HQ3 := Lib.hid hq3
       clear hq3)
    | (go_at_call 93
       refine (qpop_any w0 wA _ bq g c n (qpop n l) HQ3.out HL.out (by omega)).mono ?_
       rintro e w4 ⟨rfl, hq4⟩
       have HQ4 := Lib.hid hq4
       clear hq4))
  all_goals
    go_ret
    exact ⟨rfl, HQ4.out⟩
end Go.Proofs.Ytahppppkepcbkaa.Fn
/- A heap of timers in memory: all of it taken, one by one, by hand. -/
namespace Go.Proofs.Ytahppppkepcbkaa.Fn
open Go.RowKit Go.Proofs.YtahppppkepcbkaaW.PrintWords Go.Proofs.YtahppppkepcbkaaW.PrintLast Go.Proofs.YtahppppkepcbkaaW.PrintMore Go.Proofs.Ytahppppkepcbkaa.Tm
set_option linter.unusedVariables false
set_option linter.unusedSimpArgs false
set_option maxRecDepth 100000
theorem make0 (n : Nat) (hn : n ≤ 300) (W : World) : (Instr.makeSlice 54 (.int .i64 0) (.int .i64 (n : Int))).run Try.prog W = .ok (.slice (some ⟨W.heap.size, 0, none⟩) 0 n) (W.alloc (.cells (madeCells #[.int .i64 0, .int .i64 0, .int .i64 0, .int .u64 0] (n * 4)) 52)) := by
  obtain ⟨i0, hi, hzz⟩ := Option.map_eq_some_iff.1 info52
  simp only [Prod.mk.injEq] at hzz
  obtain ⟨hz0, hz1, hz2⟩ := hzz
  have hr := run_make (P := Try.prog) W 54 52 i0 (.agg #[(.int .i64 0), (.int .i64 0), (.int .i64 0), (.int .u64 0)]) Try.underlying54 hi hz0 .i64 .i64 0 (n : Int) (by omega) (by omega) (by rw [hz2]; omega) (by omega)
  rw [hz1] at hr
  exact hr
theorem R_made (W : World) (base : Nat) (hb : base ≤ W.heap.size) (ok : Nat → Prop) (hok : ok W.heap.size) (n : Nat) (hn : n ≤ 300) :
    Kd.R k52 52 (W.alloc (.cells (madeCells #[.int .i64 0, .int .i64 0, .int .i64 0, .int .u64 0] (n * 4)) 52)) base ok (.slice (some ⟨W.heap.size, 0, none⟩) 0 n) [] := by
  have h : Kd.R k52 52 (W.alloc (.cells (madeCells #[.int .i64 0, .int .i64 0, .int .i64 0, .int .u64 0] (n * 4)) 52)) base ok (.slice (some ⟨W.heap.size, 0, none⟩) n n) (List.replicate n z52) := by
    refine ⟨fun k hk => ?_, (madeCells #[.int .i64 0, .int .i64 0, .int .i64 0, .int .u64 0] (n * 4)).toList, ?_, ?_⟩
    · have : W.heap.size = k := by simpa [Value.ownBlock] using hk
      subst this
      exact hok
    · have h2 := World.ownsRow_lit (base := base) (e := 52) (size := 4) W (madeCells #[.int .i64 0, .int .i64 0, .int .i64 0, .int .u64 0] (n * 4)) n hb (by simp [maxLen]; omega) (by simp [size_madeCells])
      rw [List.length_replicate]
      exact h2
    · exact Kd.reps_made (z := .agg #[.int .i64 0, .int .i64 0, .int .i64 0, .int .u64 0]) (size := 4) (z0 := z52) rfl (by decide) (k52_mkM _ _ _ z52) n
  have := Kd.R_take h (m := 0) (Nat.zero_le _)
  rwa [List.take_zero] at this
theorem R_tight {W : World} {base g n c : Nat} {ok : Nat → Prop} {l : List S52} (h : Kd.R k52 52 W base ok (.slice (some ⟨g, 0, none⟩) n c) l) : Kd.R k52 52 W base (fun k => k = g) (.slice (some ⟨g, 0, none⟩) n c) l :=
  ⟨fun k hk => by have : g = k := by simpa [Value.ownBlock] using hk
                  exact this.symm, h.2.imp_ (fun p cs hp => by obtain rfl := k52_openM hp; exact k52_mkM _ _ _ p)⟩
theorem qpop_length {m : Nat} {l : List S52} (h : l.length = m + 1) : (qpop m l).length = m + 1 := by unfold qpop; rw [dwn_len, swp_len, h]
theorem QW.row_lt {w0 wA W : World} {bq g g' n c : Nat} {l : List S52} (h : QW w0 wA W bq g' (.slice (some ⟨g, 0, none⟩) n c) l) : g < W.heap.size := Kd.R_lt h.row g rfl
/-- Behind an append to another row. -/
theorem QW.after {w0 wA W W' : World} {bq g n c : Nat} {l o : List S52} {v : Value} (h : QW w0 wA W bq g (.slice (some ⟨g, 0, none⟩) n c) l) (hr : Kd.R k52 52 W w0.heap.size (fun k => k ≠ bq ∧ k ≠ g) v o) (hb : Below w0.heap.size w0 W') (hG : W.grownBy W' v.ownBlock) : QW w0 W' W' bq g (.slice (some ⟨g, 0, none⟩) n c) l :=
  ⟨blk_grown h.blk hG (Kd.R_away hr (fun k hk => hk.1)), Kd.R_mono (Kd.R_step (R_tight h.row) (fun k hk hl => by subst hk; exact hG.block k hl (Kd.R_away hr (fun k hk => hk.2)))) (fun k hk => by subst hk; exact h.row.1 k rfl), h.ge, hb, KeepBut.refl _ _ _⟩
/-- What is taken out, one by one. -/
def qal : Nat → List S52 → List S52
  | 0, _ => []
  | n + 1, l => Tm.g (qpop n l) n :: qal n ((qpop n l).take n)
theorem qal_eq : ∀ (n : Nat) (l : List S52), l.length = n → Hp 0 n l → qal n l = qall n l
  | 0, _, _, _ => rfl
  | n + 1, l, hl, h => by
    obtain ⟨q1, q2, q3, q4⟩ := qpop_all hl h
    rw [qal, qall, q4, qal_eq n _ (by rw [List.length_take]; omega) q3]
set_option maxHeartbeats 1000000 in
theorem qall_any (w0 W : World) (bq g : Nat) (A : Option Addr) (c n : Nat) (l : List S52) (hA : 0 < n → A = some ⟨g, 0, none⟩) (hgb : 0 < n → g ≠ bq) (hgl : g < W.heap.size) (hl : l.length = n) (hq : QW w0 W W bq g (.slice A n c) l) (hm : n ≤ 299) :
    Calls Try.prog 54 #[.pointer (some ⟨bq, 0, none⟩)] W fun e W' => ∃ v, e = .returned v ∧ Kd.R k52 52 W' w0.heap.size (fun _ => True) v (qal n l) ∧ Below w0.heap.size w0 W' := by
  have hu54 := Try.underlying54
  have hu92 := Try.underlying92
  have hg0 : W.cell? ⟨bq, 0, none⟩ = some (.slice A n c) := (blk_cell hq.blk 0).trans rfl
  have hgf := blk_frozen hq.blk 0
  have hmk := make0 n (by omega)
  have HL := Lib.hid hl
  have HA := Lib.hid hA
  have HGL := Lib.hid hgl
  have HBQ := Lib.hid hq.lt
  have HR0 := Lib.hid (R_made W w0.heap.size hq.bel.size (fun k => k ≠ bq ∧ k ≠ g) ⟨Nat.ne_of_gt hq.lt, Nat.ne_of_gt hgl⟩ n (by omega))
  have HQ0 := Lib.hid ((hq.alloc (.cells (madeCells #[.int .i64 0, .int .i64 0, .int .i64 0, .int .u64 0] (n * 4)) 52)).anew g)
  have HN := Lib.hid hm
  clear hq hl hA hgl hm
  go_enter Try.func54, Try.ntmps54
  go_wp2_with fail
  clear hmk hg0 hgf
  go_loopg [3] n (fun gg v3 wr => ∃ (m : Nat) (l' o : List S52), Aside0 (m ≤ gg) ∧ Aside0 (m ≤ n) ∧ Aside0 (l'.length = m) ∧ Aside0 (o ++ qal m l' = qal n l) ∧ Aside0 (o.length + m = n) ∧ Aside0 (QW w0 wr wr bq g (.slice A m c) l') ∧ Aside0 (Kd.R k52 52 wr w0.heap.size (fun k => k ≠ bq ∧ k ≠ g) v3 o))
  case atStart => exact ⟨n, l, [], ⟨Nat.le_refl _⟩, ⟨Nat.le_refl _⟩, ⟨HL.out⟩, ⟨rfl⟩, ⟨Nat.zero_add _⟩, ⟨HQ0.out⟩, ⟨HR0.out⟩⟩
  case round =>
    obtain ⟨m, l', o, a1, a2, a3, a4, a5, a6, a7⟩ := hrel
    have hg0 : wr.cell? ⟨bq, 0, none⟩ = some (.slice A m c) := (blk_cell a6.out.blk 0).trans rfl
    obtain ⟨A3, c3, rfl⟩ := Kd.R_slice a7.out
    cases m with
    | zero =>
      go_wp2_with (go_at_call 68; refine (qlen_any w0 wr _ bq g A 0 c l' a6.out).mono ?_; rintro e w1 ⟨rfl, hq1, hg1⟩; have HQ1 := Lib.hid hq1; clear hq1)
      all_goals
        go_ret
        have hr := a4.out
        rw [qal, List.append_nil] at hr
        refine ⟨_, rfl, ?_, HQ1.out.bel⟩
        rw [← hr]
        exact Kd.R_mono (Kd.R_step a7.out (fun k hk hl => HQ1.out.keep.2 k hl hk.1 (fun e => hk.2 (by injection e)))) (fun _ _ => trivial)
    | succ m =>
      have hAg := HA.out (by have := a2.out; omega)
      subst hAg
      have hc : decide ((0 : Int) < ((m + 1 : Nat) : Int)) = true := by simp
      go_wp2_with (first
        | (go_at_call 68
           refine (qlen_any w0 wr _ bq g _ (m + 1) c l' a6.out).mono ?_
           rintro e w1 ⟨rfl, hq1, hg1⟩
           have HQ1 := Lib.hid hq1
           clear hq1 hg1)
        | (go_at_call 69
           refine (qhpop_any w0 wr _ bq g c m l' HQ1.out a3.out (by have := a2.out; have := HN.out; omega)).mono ?_
           rintro e w2 ⟨rfl, hq2⟩
           obtain ⟨x0, x1, x2, x3, hx⟩ : ∃ x0 x1 x2 x3, Tm.g (qpop m l') m = ⟨x0, x1, x2, x3⟩ := ⟨_, _, _, _, rfl⟩
           rw [hx]
           unfold tv
           have hta := fun W => ta52 (.agg #[.int .i64 x0, .int .i64 x1, .int .i64 x2, .int .u64 x3]) W
           have HR2 := Lib.hid (Kd.R_step a7.out (w1 := w2) (fun k hk hl => hq2.keep.2 k hl hk.1 (fun e => hk.2 (by injection e))))
           have HX := Lib.hid hx
           have HQ2 := Lib.hid hq2
           clear hq2 hx)
        | ((with_reducible refine gate_builtin (b := .append) (xs := #[.tmp 14, .tmp 19]) rfl ?_)
           at_builtin
           refine Kd.R_append k52 (w0 := w0) (W := w2) w0.heap.size rfl (.tmp 14) (.tmp 19) 54 52 (.agg #[(.int .i64 0), (.int .i64 0), (.int .i64 0), (.int .u64 0)]) 32 rfl Try.underlying54 info52 rfl (by decide) (by omega) (.slice A3 o.length c3) o ⟨x0, x1, x2, x3⟩ [.int .i64 x0, .int .i64 x1, .int .i64 x2, .int .u64 x3] (fun k => k ≠ bq ∧ k ≠ g) (fun _ => False) rfl rfl (k52_mkM _ _ _ ⟨x0, x1, x2, x3⟩) (fun _ hk => hk.elim) (fun k hk => ⟨Nat.ne_of_gt (Nat.lt_of_lt_of_le HQ2.out.lt hk), Nat.ne_of_gt (Nat.lt_of_lt_of_le (HQ2.out.row_lt) hk)⟩) HR2.out HQ2.out.bel HQ2.out.bel.size (by have := a5.out; have := HN.out; omega) ?_
           intro v4 w4 ho4 hb4 hG4 hat4
           have HQ4 := Lib.hid (QW.after HQ2.out HR2.out hb4 hG4)
           have HR4 := Lib.hid ho4
           clear hb4 hG4 hat4 ho4))
      all_goals
        go_roundg m
        case measure => have := a1.out; omega
        case rel => exact ⟨m, (qpop m l').take m, o ++ [⟨x0, x1, x2, x3⟩], ⟨Nat.le_refl _⟩, ⟨by have := a2.out; omega⟩, ⟨by rw [List.length_take]; have := qpop_length a3.out; omega⟩, ⟨by rw [← a4.out, qal, HX.out, List.append_assoc]; rfl⟩, ⟨by have := a5.out; simp; omega⟩, ⟨HQ4.out⟩, ⟨HR4.out⟩⟩
end Go.Proofs.Ytahppppkepcbkaa.Fn
