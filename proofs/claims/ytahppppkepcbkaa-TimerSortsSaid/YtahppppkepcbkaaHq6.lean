/- A heap of timers in memory: container/heap's Init, Push, Pop, by hand. -/
import Derived.Test.YtahppppkepcbkaaFnx0
import Derived.Test.YtahppppkepcbkaaFnx22
import Derived.Test.YtahppppkepcbkaaHq5
namespace Go.Proofs.Ytahppppkepcbkaa.Fn
open Go.RowKit Go.Proofs.YtahppppkepcbkaaW.PrintWords Go.Proofs.YtahppppkepcbkaaW.PrintLast Go.Proofs.YtahppppkepcbkaaW.PrintMore Go.Proofs.Ytahppppkepcbkaa.Tm
set_option linter.unusedVariables false
set_option linter.unusedSimpArgs false
set_option maxRecDepth 100000
theorem qlen_any (w0 wA W : World) (bq g : Nat) (A : Option Addr) (n c : Nat) (l : List S52) (hq : QW w0 wA W bq g (.slice A n c) l) :
    Calls Try.prog 68 #[.slice A n c] W fun e W' => e = .returned (.int .i64 (n : Int)) ∧ QW w0 wA W' bq g (.slice A n c) l ∧ W'.cell? ⟨bq, 0, none⟩ = some (.slice A n c) := by
  obtain ⟨h1, h2, h3⟩ := Kd.R_reads' hq.row
  subst h1
  exact (timer_queue_Len.calls A c l _ W h3 h2 rfl).mono fun e W' h => ⟨h.1, hq.below h.2.below, (blk_cell (hq.below h.2.below).blk 0).trans rfl⟩
set_option maxHeartbeats 1000000 in
theorem qinit_none (w0 wA W : World) (bq g : Nat) (A : Option Addr) (c : Nat) (hq : QW w0 wA W bq g (.slice A 0 c) []) :
    Calls Try.prog 56 #[.iface 94 (.pointer (some ⟨bq, 0, none⟩))] W fun e W' => e = .returned (.tuple #[]) ∧ QW w0 wA W' bq g (.slice A 0 c) [] := by
  have hg0 : W.cell? ⟨bq, 0, none⟩ = some (.slice A 0 c) := (blk_cell hq.blk 0).trans rfl
  have hl0 := mLen W bq _ _ _ hg0
  have HQ := Lib.hid hq
  clear hq hg0
  go_enter Try.func56, Try.ntmps56
  go_wp2_with (go_at_call 68; refine (qlen_any w0 wA _ bq g A 0 c [] HQ.out).mono ?_; rintro e w1 ⟨rfl, hq1, hg1⟩; have HQ1 := Lib.hid hq1; clear hq1)
  go_loopg [3] 1 (fun gg v3 wr => v3 = .int .i64 (-1) ∧ Aside0 (wr = w1))
  case atStart => exact ⟨by first | rfl | (simp; done), ⟨rfl⟩⟩
  case round =>
    obtain ⟨rfl, a1⟩ := hrel
    have e := a1.out
    subst e
    go_wp2
    all_goals
      go_end0
      exact ⟨rfl, HQ1.out⟩
set_option maxHeartbeats 1000000 in
theorem qinit_some (w0 wA W : World) (bq g c n : Nat) (l : List S52) (hq : QW w0 wA W bq g (.slice (some ⟨g, 0, none⟩) n c) l) (hn : 0 < n) (hm : n ≤ 300) :
    Calls Try.prog 56 #[.iface 94 (.pointer (some ⟨bq, 0, none⟩))] W fun e W' => e = .returned (.tuple #[]) ∧ QW w0 wA W' bq g (.slice (some ⟨g, 0, none⟩) n c) (ini n (n / 2) l) := by
  have hg0 : W.cell? ⟨bq, 0, none⟩ = some (.slice (some ⟨g, 0, none⟩) n c) := (blk_cell hq.blk 0).trans rfl
  have hl0 := mLen W bq _ _ _ hg0
  have HQ := Lib.hid hq
  clear hq hg0
  obtain ⟨h, hh⟩ : ∃ h, h = n / 2 := ⟨_, rfl⟩
  rw [← hh]
  have hd : Int.tdiv (n : Int) 2 = (h : Int) := by rw [Int.tdiv_eq_ediv_of_nonneg (by omega)]; omega
  have hdv : (n : Int) / 2 = (h : Int) := by omega
  have HN := Lib.hid (show h ≤ n by omega)
  have hh2 : h ≤ 300 := by omega
  clear hh
  have hw0 : wrap64 (h : Int) = (h : Int) := by unfold wrap64; omega
  have hw1 : wrap64 ((h : Int) - 1) = (h : Int) - 1 := by unfold wrap64; omega
  go_enter Try.func56, Try.ntmps56
  go_wp2_with (go_at_call 68; refine (qlen_any w0 wA _ bq g _ n c l HQ.out).mono ?_; rintro e w1 ⟨rfl, hq1, hg1⟩; have HQ1 := Lib.hid hq1; clear hq1)
  clear hg1
  go_loopg [3] h (fun gg v3 wr => ∃ (i : Nat) (l' : List S52), v3 = .int .i64 ((i : Int) - 1) ∧ Aside0 (i ≤ h) ∧ Aside0 (i ≤ gg) ∧ Aside0 (ini n i l' = ini n h l) ∧ Aside0 (QW w0 wA wr bq g (.slice (some ⟨g, 0, none⟩) n c) l'))
  case atStart => exact ⟨h, l, by first | rfl | (simp; done) | (simp [*]; done), ⟨Nat.le_refl _⟩, ⟨Nat.le_refl _⟩, ⟨rfl⟩, ⟨HQ1.out⟩⟩
  case round =>
    obtain ⟨i, l', rfl, a1, a2, a3, a4⟩ := hrel
    cases i with
    | zero =>
      go_wp2
      all_goals
        go_end0
        refine ⟨rfl, ?_⟩
        rw [← a3.out]
        exact a4.out
    | succ i =>
      have hi := a1.out
      have HI := Lib.hid (show i ≤ n by have := HN.out; omega)
      have hc : decide ((0 : Int) ≤ (i : Int)) = true := by simp
      have hw2 : wrap64 ((i : Int) - 1) = (i : Int) - 1 := by unfold wrap64; have := HN.out; omega
      have he : ((i + 1 : Nat) : Int) - 1 = (i : Int) := by omega
      rw [he]
      clear he
      go_wp2_with (go_at_call 70; refine (qdown_any w0 wA _ bq g c n l' a4.out i n hm (Nat.le_refl _) HI.out).mono ?_; rintro e w2 ⟨⟨b, rfl⟩, hq2⟩; have HQ2 := Lib.hid hq2; clear hq2)
      all_goals
        go_roundg i
        case measure => have := a2.out; omega
        case rel => exact ⟨i, dwn n n i l', rfl, ⟨by have := a1.out; omega⟩, ⟨Nat.le_refl _⟩, ⟨by rw [← a3.out]; rfl⟩, ⟨HQ2.out⟩⟩
set_option maxHeartbeats 1000000 in
theorem qhpush_any (w0 wA W : World) (bq g : Nat) (A : Option Addr) (c : Nat) (l : List S52) (x : S52) (hq : QW w0 wA W bq g (.slice A l.length c) l) (hm : l.length < 299) :
    Calls Try.prog 53 #[.iface 94 (.pointer (some ⟨bq, 0, none⟩)), .iface 52 (tv x)] W fun e W' => e = .returned (.tuple #[]) ∧ ∃ A' c' g', QW w0 W' W' bq g' (.slice A' (l.length + 1) c') (qput l x) := by
  have hg0 : W.cell? ⟨bq, 0, none⟩ = some (.slice A l.length c) := (blk_cell hq.blk 0).trans rfl
  have hl0 := mPush W bq _ _ _ hg0
  have HQ := Lib.hid hq
  clear hq hg0
  have hw1 : wrap64 (((l.length + 1 : Nat) : Int) - 1) = (l.length : Int) := by unfold wrap64; omega
  generalize htv : tv x = tx
  go_enter Try.func53, Try.ntmps53
  go_wp2_with (first
    | (go_at_call 94
       rw [← htv]
       refine (qpush_any w0 wA _ bq g _ l x HQ.out (by omega)).mono ?_
       rintro e w1 ⟨rfl, v1, hq1⟩
       obtain ⟨g1, c1, rfl, _⟩ := Kd.R_form (hq1 0).row (by simp)
       have hlen : (l ++ [x]).length = l.length + 1 := by simp
       rw [hlen] at hq1
       have hl1 := mLen w1 bq _ _ _ ((blk_cell (hq1 0).blk 0).trans rfl)
       have HQ1 := Lib.hid (hq1 g1)
       clear hq1 hlen)
    | (go_at_call 68
       refine (qlen_any w0 _ _ bq g1 _ (l.length + 1) c1 (l ++ [x]) HQ1.out).mono ?_
       rintro e w2 ⟨rfl, hq2, hg2⟩
       have HQ2 := Lib.hid hq2
       clear hq2 hg2)
    | (go_at_call 67
       refine (qup_any w0 _ _ bq g1 c1 (l.length + 1) (l ++ [x]) HQ2.out l.length (by omega) (by omega)).mono ?_
       rintro e w3 ⟨rfl, hq3⟩
       have HQ3 := Lib.hid (hq3.anew g1)
       clear hq3))
  all_goals
    go_end0
    exact ⟨rfl, _, _, _, HQ3.out⟩
set_option maxHeartbeats 1000000 in
theorem qhpop_any (w0 wA W : World) (bq g c n : Nat) (l : List S52) (hq : QW w0 wA W bq g (.slice (some ⟨g, 0, none⟩) (n + 1) c) l) (hl : l.length = n + 1) (hm : n < 299) :
    Calls Try.prog 69 #[.iface 94 (.pointer (some ⟨bq, 0, none⟩))] W fun e W' => e = .returned (.iface 52 (tv (Tm.g (qpop n l) n))) ∧ QW w0 wA W' bq g (.slice (some ⟨g, 0, none⟩) n c) ((qpop n l).take n) := by
  have hg0 : W.cell? ⟨bq, 0, none⟩ = some (.slice (some ⟨g, 0, none⟩) (n + 1) c) := (blk_cell hq.blk 0).trans rfl
  have hl0 := mLen W bq _ _ _ hg0
  have HQ := Lib.hid hq
  have HL := Lib.hid (show (qpop n l).length = n + 1 by unfold qpop; rw [dwn_len, swp_len, hl])
  clear hq hg0 hl
  have hw1 : wrap64 (((n + 1 : Nat) : Int) - 1) = (n : Int) := by unfold wrap64; omega
  go_enter Try.func69, Try.ntmps69
  go_wp2_with (first
    | (go_at_call 68
       refine (qlen_any w0 wA _ bq g _ (n + 1) c l HQ.out).mono ?_
       rintro e w1 ⟨rfl, hq1, hg1⟩
       have hs1 := mSwap w1 bq _ _ _ hg1
       have HQ1 := Lib.hid hq1
       clear hq1 hg1)
    | (go_at_call 92
       refine (qswap_int w0 wA _ bq g c (n + 1) l HQ1.out 0 (n : Int) 0 n rfl rfl (by omega) (by omega)).mono ?_
       rintro e w2 ⟨rfl, hq2, hx2, hy2⟩
       have HQ2 := Lib.hid hq2
       clear hq2 hx2 hy2)
    | (go_at_call 70
       refine (qdown_any w0 wA _ bq g c (n + 1) (swp l 0 n) HQ2.out 0 n (by omega) (by omega) (by omega)).mono ?_
       rintro e w3 ⟨⟨b, rfl⟩, hq3⟩
       have hp3 := mPop w3 bq _ _ _ ((blk_cell hq3.blk 0).trans rfl)
       have HQ3 := Lib.hid hq3
       clear hq3)
    | (go_at_call 93
       refine (qpop_any w0 wA _ bq g c n (qpop n l) HQ3.out HL.out (by omega)).mono ?_
       rintro e w4 ⟨rfl, hq4⟩
       have HQ4 := Lib.hid hq4
       clear hq4))
  all_goals
    go_ret
    exact ⟨rfl, HQ4.out⟩
end Go.Proofs.Ytahppppkepcbkaa.Fn
