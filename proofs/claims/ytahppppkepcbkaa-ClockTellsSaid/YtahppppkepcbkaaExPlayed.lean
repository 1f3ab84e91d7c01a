/- clock.played, by hand: the walk of good beats, and the contract. -/
import Derived.Test.YtahppppkepcbkaaFnx0
import Derived.Test.YtahppppkepcbkaaPlay
import Derived.BigQuiet
import Derived.Deep.CutBlock
namespace Go.Proofs.Ytahppppkepcbkaa.Fn
open Go.RowKit Go.Proofs.YtahppppkepcbkaaW.PrintWords Go.Proofs.YtahppppkepcbkaaW.PrintLast Go.Proofs.YtahppppkepcbkaaW.PrintMore Go.Proofs.Ytahppppkepcbkaa.Clk
set_option linter.unusedVariables false
set_option linter.unusedSimpArgs false
set_option maxRecDepth 100000
theorem blk_alloc_lt (w : World) (o : Obj) (k : Nat) (h : k < w.heap.size) : (w.alloc o).heap[k]? = w.heap[k]? := by
  show (w.heap.push o)[k]? = _
  rw [Array.getElem?_push, if_neg (by omega)]
theorem blk_alloc_new (w : World) (o : Obj) : (w.alloc o).heap[w.heap.size]? = some o := by
  show (w.heap.push o)[w.heap.size]? = _
  simp
theorem blk_new2 (w : World) (o o2 o3 : Obj) : (((w.alloc o).alloc o2).alloc o3).drew.heap[w.heap.size + 1 + 1]? = some o3 := by
  have h := blk_alloc_new ((w.alloc o).alloc o2) o3
  rwa [show ((w.alloc o).alloc o2).heap.size = w.heap.size + 1 + 1 by simp] at h
/-- The world behind the makes. -/
structure Start (w W : World) (gt gs n : Nat) (l : List S87) : Prop where
  size : W.heap.size = w.heap.size + 3
  t : Blk W gt 2 (rowT n l 0)
  s : Blk W gs 3 (rowS n l 0)
  r : W.heap[w.heap.size]? = some (.cells #[.slice none 0 0, .slice none 0 0] 81 (0, 0))
  ne : gt ≠ gs ∧ w.heap.size < gt ∧ w.heap.size < gs ∧ gt < w.heap.size + 3 ∧ gs < w.heap.size + 3
  bel : Below w.heap.size w W
theorem madeT (n : Nat) (l : List S87) : madeCells #[.int .i64 0] n = ((rowT n l 0).map (Value.int .i64)).toArray := by
  apply Array.toList_inj.1
  rw [toList_madeCells_one, rowT]
  simp [tk, List.map_const']
theorem madeS (n : Nat) (l : List S87) : madeCells #[.int .i64 0] n = ((rowS n l 0).map (Value.int .i64)).toArray := by
  apply Array.toList_inj.1
  rw [toList_madeCells_one, rowS]
  simp [since, List.map_const']
theorem start_a (w : World) (n : Nat) (l : List S87) : Start w (((w.alloc (.cells #[.slice none 0 0, .slice none 0 0] 81)).alloc (.cells (madeCells #[.int .i64 0] n) 3)).alloc (.cells (madeCells #[.int .i64 0] n) 2)).drew (w.heap.size + 1 + 1) (w.heap.size + 1) n l := by
  have b1 := (((Below.refl w.heap.size w).alloc (Nat.le_refl _) (.cells #[.slice none 0 0, .slice none 0 0] 81)).alloc (by simp) (.cells (madeCells #[.int .i64 0] n) 3)).alloc (by simp; omega) (.cells (madeCells #[.int .i64 0] n) 2)
  refine ⟨by simp, ?_, ?_, ?_, by omega, b1.drew⟩
  · unfold Blk
    rw [← madeT]
    exact blk_new2 _ _ _ _
  · unfold Blk
    rw [← madeS]
    show (((w.alloc (.cells #[.slice none 0 0, .slice none 0 0] 81)).alloc (.cells (madeCells #[.int .i64 0] n) 3)).alloc (.cells (madeCells #[.int .i64 0] n) 2)).heap[w.heap.size + 1]? = _
    rw [blk_alloc_lt _ _ _ (by simp)]
    simpa using blk_alloc_new (w.alloc (.cells #[.slice none 0 0, .slice none 0 0] 81)) (.cells (madeCells #[.int .i64 0] n) 3)
  · show (((w.alloc (.cells #[.slice none 0 0, .slice none 0 0] 81)).alloc (.cells (madeCells #[.int .i64 0] n) 3)).alloc (.cells (madeCells #[.int .i64 0] n) 2)).heap[w.heap.size]? = _
    rw [blk_alloc_lt _ _ _ (by simp; omega), blk_alloc_lt _ _ _ (by simp)]
    exact blk_alloc_new w _
theorem start_b (w : World) (n : Nat) (l : List S87) : Start w (((w.alloc (.cells #[.slice none 0 0, .slice none 0 0] 81)).alloc (.cells (madeCells #[.int .i64 0] n) 2)).alloc (.cells (madeCells #[.int .i64 0] n) 3)).drew (w.heap.size + 1) (w.heap.size + 1 + 1) n l := by
  have b1 := (((Below.refl w.heap.size w).alloc (Nat.le_refl _) (.cells #[.slice none 0 0, .slice none 0 0] 81)).alloc (by simp) (.cells (madeCells #[.int .i64 0] n) 2)).alloc (by simp; omega) (.cells (madeCells #[.int .i64 0] n) 3)
  refine ⟨by simp, ?_, ?_, ?_, by omega, b1.drew⟩
  · unfold Blk
    rw [← madeT]
    show (((w.alloc (.cells #[.slice none 0 0, .slice none 0 0] 81)).alloc (.cells (madeCells #[.int .i64 0] n) 2)).alloc (.cells (madeCells #[.int .i64 0] n) 3)).heap[w.heap.size + 1]? = _
    rw [blk_alloc_lt _ _ _ (by simp)]
    simpa using blk_alloc_new (w.alloc (.cells #[.slice none 0 0, .slice none 0 0] 81)) (.cells (madeCells #[.int .i64 0] n) 2)
  · unfold Blk
    rw [← madeS]
    exact blk_new2 _ _ _ _
  · show (((w.alloc (.cells #[.slice none 0 0, .slice none 0 0] 81)).alloc (.cells (madeCells #[.int .i64 0] n) 2)).alloc (.cells (madeCells #[.int .i64 0] n) 3)).heap[w.heap.size]? = _
    rw [blk_alloc_lt _ _ _ (by simp; omega), blk_alloc_lt _ _ _ (by simp)]
    exact blk_alloc_new w _
/-- Behind the first row: the loop begins. -/
theorem Start.hist {w W : World} {gt gs n : Nat} {l : List S87} (h : Start w W gt gs n l) : Hist w (W.alloc (.cells #[.slice none 0 0, .slice none 0 0] 81)) w.heap.size W.heap.size (fun k => k ≠ w.heap.size ∧ k ≠ gt ∧ k ≠ gs ∧ k ≠ W.heap.size) (.slice none 0 0) (.slice none 0 0) [] [] :=
  ⟨blk_alloc_new W _, Kd.S_nil _ _ _ _ _, Kd.S_nil _ _ _ _ _, h.bel.alloc (by rw [h.size]; omega) _⟩
theorem Blk.fr {w w' : World} {g e g2 : Nat} {T : List Int} (h : Blk w g e T) (hf : Fr w w' g2) (he : e ≠ 105) (he2 : e ≠ 106) (hg : g ≠ g2) : Blk w' g e T := hf.out g e _ h he he2 hg
theorem hist_ok {w : World} {a b c g : Nat} (h : a < w.heap.size ∧ b < w.heap.size ∧ c < w.heap.size ∧ g < w.heap.size) : ∀ k, w.heap.size ≤ k → k ≠ a ∧ k ≠ b ∧ k ≠ c ∧ k ≠ g := fun k hk => ⟨by omega, by omega, by omega, by omega⟩
theorem Start.loop {w W : World} {gt gs n : Nat} {l : List S87} (h : Start w W gt gs n l) (h2 : n ≤ 64) :
    Calls Try.prog 62 #[.pointer (some ⟨W.heap.size, 0, none⟩), .slice (some ⟨gt, 0, none⟩) n n, .slice (some ⟨gs, 0, none⟩) n n] (W.alloc (.cells #[.slice none 0 0, .slice none 0 0] 81)) fun e w' => e = .returned (.tuple #[]) ∧ Loop w w' w.heap.size gt gs W.heap.size n l 0 := by
  have hs := h.size
  have hn := h.ne
  have hT := blk_alloc h.t (.cells #[.slice none 0 0, .slice none 0 0] 81)
  have hS := blk_alloc h.s (.cells #[.slice none 0 0, .slice none 0 0] 81)
  have hR := blk_alloc h.r (.cells #[.slice none 0 0, .slice none 0 0] 81)
  have hz : (W.alloc (.cells #[.slice none 0 0, .slice none 0 0] 81)).heap.size = W.heap.size + 1 := by simp
  have ha := add_any W.heap.size gt gs (.slice none 0 0) (.slice none 0 0) [] [] (rowT n l 0) (rowS n l 0) w.heap.size w (W.alloc (.cells #[.slice none 0 0, .slice none 0 0] 81)) _ (hist_ok ⟨by omega, by omega, by omega, by omega⟩) h.hist hT hS (by omega) (by simp) (by simp) (by rw [rowT_length]; exact h2) (by rw [rowS_length]; exact h2)
  rw [rowT_length, rowS_length] at ha
  refine ha.mono ?_
  rintro e w' ⟨rfl, v1, v2, hH, hF⟩
  refine ⟨rfl, ⟨v1, v2, hH⟩, Blk.fr hT hF (by decide) (by decide) (by omega), Blk.fr hS hF (by decide) (by decide) (by omega), hF.out _ _ _ hR (by decide) (by decide) (by omega), rfl⟩
theorem Loop.lt {w0 w : World} {gr gt gs g n : Nat} {l : List S87} {i : Nat} (h : Loop w0 w gr gt gs g n l i) : gr < w.heap.size ∧ gt < w.heap.size ∧ gs < w.heap.size ∧ g < w.heap.size := by
  obtain ⟨v1, v2, hh⟩ := h.ex
  exact ⟨blk_lt h.r, blk_lt h.t, blk_lt h.s, blk_lt hh.cell⟩
theorem Loop.add {w0 w w3 : World} {gr gt gs g n : Nat} {l : List S87} {i : Nat} (h : Loop w0 w gr gt gs g n l i) (hm : ∀ k, k ≠ gt → k ≠ gs → k < w.heap.size → w3.heap[k]? = w.heap[k]?) (hb : Below w0.heap.size w0 w3) (hsz : w.heap.size ≤ w3.heap.size)
    (hT : Blk w3 gt 2 (rowT n l (i + 1))) (hS : Blk w3 gs 3 (rowS n l (i + 1))) (hok : Clk.okb (pnd l) (pwh l) (n : Int) (i + 1) = true) (h2 : n ≤ 64) (hi : i < 400) (hne : gt ≠ g ∧ gs ≠ g ∧ gr ≠ g ∧ gr ≠ gt ∧ gr ≠ gs) (hg : w0.heap.size ≤ g) :
    Calls Try.prog 62 #[.pointer (some ⟨g, 0, none⟩), .slice (some ⟨gt, 0, none⟩) n n, .slice (some ⟨gs, 0, none⟩) n n] w3 fun e w' => e = .returned (.tuple #[]) ∧ Loop w0 w' gr gt gs g n l (i + 1) := by
  obtain ⟨l1, l2, l3, l4⟩ := h.lt
  obtain ⟨v1, v2, hh⟩ := h.ex
  have hH : Hist w0 w3 w0.heap.size g (fun k => k ≠ gr ∧ k ≠ gt ∧ k ≠ gs ∧ k ≠ g) v1 v2 ((List.range (i + 1)).map (rowT n l)) ((List.range (i + 1)).map (rowS n l)) := by
    refine hh.step (fun k hk hlt => hm k ?_ ?_ hlt) hb
    · rcases hk with hk | rfl
      · exact hk.2.1
      · exact fun e => hne.1 e.symm
    · rcases hk with hk | rfl
      · exact hk.2.2.1
      · exact fun e => hne.2.1 e.symm
  have ha := add_any g gt gs v1 v2 _ _ (rowT n l (i + 1)) (rowS n l (i + 1)) w0.heap.size w0 w3 _ (hist_ok ⟨by omega, by omega, by omega, by omega⟩) hH hT hS hg (by simp; omega) (by simp; omega) (by rw [rowT_length]; exact h2) (by rw [rowS_length]; exact h2)
  rw [rowT_length, rowS_length] at ha
  refine ha.mono ?_
  rintro e w' ⟨rfl, u1, u2, hH2, hF⟩
  refine ⟨rfl, ⟨u1, u2, ?_⟩, Blk.fr hT hF (by decide) (by decide) hne.1, Blk.fr hS hF (by decide) (by decide) hne.2.1, hF.out _ _ _ ((hm gr hne.2.2.2.1 hne.2.2.2.2 l1).trans h.r) (by decide) (by decide) hne.2.2.1, hok⟩
  rw [List.range_succ (n := i + 1), List.map_append, List.map_append]
  exact hH2
theorem Loop.alloc {w0 w : World} {gr gt gs g n : Nat} {l : List S87} {i : Nat} (h : Loop w0 w gr gt gs g n l i) (o : Obj) : Loop w0 (w.alloc o) gr gt gs g n l i := by
  obtain ⟨v1, v2, hh⟩ := h.ex
  exact ⟨⟨v1, v2, hh.step (fun k _ hk => Below.heap_alloc w o k hk) (hh.bel.alloc (hh.bel.size) o)⟩, blk_alloc h.t o, blk_alloc h.s o, blk_alloc h.r o, h.okb⟩
theorem Loop.drewN {w0 w : World} {gr gt gs g n : Nat} {l : List S87} {i : Nat} (h : Loop w0 w gr gt gs g n l i) (q : Nat) : Loop w0 (w.drewN q) gr gt gs g n l i := by
  obtain ⟨v1, v2, hh⟩ := h.ex
  exact ⟨⟨v1, v2, hh.step (fun k _ hk => rfl) (pw_below_drewN hh.bel q)⟩, blk_drewN h.t q, blk_drewN h.s q, blk_drewN h.r q, h.okb⟩
theorem okb_not {nd wh : Nat → Int} {n : Int} {i len : Nat} (hi : i < len) (h : ¬(0 ≤ nd i ∧ nd i < n ∧ (since nd wh (nd i) i < 0 ↔ wh i = 2) ∧ (wh i = 0 ∨ wh i = 1 ∨ wh i = 2))) : Clk.okb nd wh n len = false := by
  cases e : Clk.okb nd wh n len with
  | false => rfl
  | true => exact absurd (Clk.okb_at nd wh e hi) h
theorem okb_more {nd wh : Nat → Int} {n : Int} {i : Nat} (hi : Clk.okb nd wh n i = true) (h : 0 ≤ nd i ∧ nd i < n ∧ (since nd wh (nd i) i < 0 ↔ wh i = 2) ∧ (wh i = 0 ∨ wh i = 1 ∨ wh i = 2)) : Clk.okb nd wh n (i + 1) = true := by
  rw [Clk.okb, hi, decide_eq_true ⟨h.1, h.2.1⟩, decide_eq_true h.2.2.1, decide_eq_true h.2.2.2]
  rfl
theorem playok_not {n : Nat} {l : List S87} {i : Nat} (hi : i < l.length) (h : ¬(0 ≤ pnd l i ∧ pnd l i < (n : Int) ∧ (since (pnd l) (pwh l) (pnd l i) i < 0 ↔ pwh l i = 2) ∧ (pwh l i = 0 ∨ pwh l i = 1 ∨ pwh l i = 2))) : playok (n : Int) l = false := by
  unfold playok
  rw [okb_not hi h, Bool.and_false]
set_option maxHeartbeats 2000000 in
theorem played_good (n : Nat) (A : Option Addr) (c : Nat) (l : List S87) (w : World) (h1 : 1 ≤ n) (h2 : n ≤ 64) (h3 : l.length ≤ 400) (hr : Kd.C k87 w A l.length l) (hc : l.length ≤ c) :
    Calls Try.prog 45 #[.int .i64 (n : Int), .slice A l.length c] w fun e w' => PlayPost (n : Int) l w e w' := by
  have hu81 := Try.underlying81
  have hu87 := Try.underlying87
  have HR := Lib.hid hr
  clear hr
  have c1 : decide ((n : Int) < 1) = false := by simp; omega
  have c2 : decide ((64 : Int) < (n : Int)) = false := by simp; omega
  have c3 : decide ((400 : Int) < (l.length : Int)) = false := by simp; omega
  have c4 : decide (400 < l.length) = false := by simp; omega
  have hm1 := print_make_int (P := Try.prog) 105 2 (.int .i64 0) 8 Try.underlying105 info2 rfl (by omega) (n : Int) (by omega) (by omega)
  have hm2 := print_make_int (P := Try.prog) 106 3 (.int .i64 0) 8 Try.underlying106 info3 rfl (by omega) (n : Int) (by omega) (by omega)
  rw [Int.toNat_natCast] at hm1 hm2
  go_enter Try.func45, Try.ntmps45
  go_wp2
  go_region
  all_goals clear hm1 hm2 c1 c2 c3 c4
  all_goals
    first
      | (have hSt := start_a w n l
         obtain ⟨W, hW⟩ : ∃ W, W = (((w.alloc (.cells #[.slice none 0 0, .slice none 0 0] 81)).alloc (.cells (madeCells #[.int .i64 0] n) 3)).alloc (.cells (madeCells #[.int .i64 0] n) 2)).drew := ⟨_, rfl⟩
         rw [← hW] at hSt ⊢
         clear hW
         generalize hgt : w.heap.size + 1 + 1 = gt at hSt ⊢
         generalize hgs : w.heap.size + 1 = gs at hSt ⊢)
      | (have hSt := start_b w n l
         obtain ⟨W, hW⟩ : ∃ W, W = (((w.alloc (.cells #[.slice none 0 0, .slice none 0 0] 81)).alloc (.cells (madeCells #[.int .i64 0] n) 2)).alloc (.cells (madeCells #[.int .i64 0] n) 3)).drew := ⟨_, rfl⟩
         rw [← hW] at hSt ⊢
         clear hW
         generalize hgs : w.heap.size + 1 + 1 = gs at hSt ⊢
         generalize hgt : w.heap.size + 1 = gt at hSt ⊢)
    have HSt := Lib.hid hSt
    clear hSt
    go_wp2_with fail
    refine (HSt.out.loop h2).mono ?_
    rintro e w1 ⟨rfl, hL⟩
    have hne0 : gt ≠ W.heap.size ∧ gs ≠ W.heap.size ∧ w.heap.size ≠ W.heap.size ∧ w.heap.size ≠ gt ∧ w.heap.size ≠ gs ∧ gt ≠ gs := by
      have h1 := HSt.out.ne
      have h2 := HSt.out.size
      omega
    have hWg : w.heap.size < W.heap.size := by have := HSt.out.size; omega
    generalize W.heap.size = g at *
    generalize hgr : w.heap.size = gr at *
    have HL := Lib.hid hL
    have HNE := Lib.hid hne0
    clear hL HSt hne0
    clear W
    go_wp2_with fail
    go_loopg [32] l.length (fun gg v32 wr => ∃ i : Nat, v32 = .int .i64 (i : Int) ∧ Aside0 (i ≤ l.length) ∧ Aside0 (l.length ≤ gg + i) ∧ Aside0 (Loop w wr gr gt gs g n l i))
    case atStart => exact ⟨0, rfl, ⟨Nat.zero_le _⟩, ⟨by omega⟩, ⟨HL.out⟩⟩
    case round =>
      obtain ⟨i, rfl, a1, a2, a3⟩ := hrel
      by_cases hi : i < l.length
      · obtain ⟨ad, rfl, hx0, hx1⟩ := at_T87 (Kd.C_below HR.out (Below.mono a3.out.bel (by omega))) (i : Int) (by omega) (by omega)
        rw [Int.toNat_natCast] at hx0 hx1
        have hlt := a3.out.lt
        have hp0 : pnd l i = (rd_T87 l (i : Int)).f0 := rfl
        have hp1 : pwh l i = (rd_T87 l (i : Int)).f1 := rfl
        generalize (rd_T87 l (i : Int)).f0 = x at *
        generalize (rd_T87 l (i : Int)).f1 = y at *
        have hL2 := a3.out.alloc (.cells #[.int .i64 x, .int .i64 y] 87)
        have hb2 := blk_new wr (.cells #[.int .i64 x, .int .i64 y] 87)
        have hok := a3.out.okb
        have hbz : (wr.alloc (.cells #[.int .i64 x, .int .i64 y] 87)).heap.size = wr.heap.size + 1 := by simp
        have HLT := Lib.hid hlt
        have HP0 := Lib.hid hp0
        have HP1 := Lib.hid hp1
        have HOK := Lib.hid hok
        have HL2 := Lib.hid hL2
        have HB2 := Lib.hid hb2
        have HBZ := Lib.hid hbz
        clear hlt hp0 hp1 hL2 hb2 hbz hok
        have PB : ∀ W' : World, Below w.heap.size w W' → ¬(0 ≤ x ∧ x < (n : Int) ∧ (since (pnd l) (pwh l) x i < 0 ↔ y = 2) ∧ (y = 0 ∨ y = 1 ∨ y = 2)) → PlayPost (n : Int) l w (.returned (.tuple #[.agg #[.slice none 0 0, .slice none 0 0], .bool false])) W' := by
          intro W' hb hx
          refine .inl ⟨playok_not hi ?_, rfl, hb⟩
          rw [HP0.out, HP1.out]
          exact hx
        rw [hgr] at PB
        have HPB := Lib.hid PB
        clear PB
        have hge : gr ≤ gt ∧ gr ≤ gs := by omega
        have HGE := Lib.hid hge
        clear hge
        go_wp2
        all_goals
          obtain ⟨W2, hW2⟩ : ∃ W2, W2 = wr.alloc (.cells #[.int .i64 x, .int .i64 y] 87) := ⟨_, rfl⟩
          rw [← hW2] at HL2 HB2 HBZ ⊢
          clear hW2 a3 hx0 hx1
          generalize wr.heap.size = b at *
          have hg0 : W2.cell? ⟨gr, 0, none⟩ = some (.slice none 0 0) := (blk_cell HL2.out.r 0).trans rfl
          have hg1 : W2.cell? ⟨gr, 1, none⟩ = some (.slice none 0 0) := (blk_cell HL2.out.r 1).trans rfl
          have hgf0 := blk_frozen HL2.out.r 0
          have hgf1 := blk_frozen HL2.out.r 1
          have hb0 : W2.cell? ⟨b, 0, none⟩ = some (.int .i64 x) := (blk_cell HB2.out 0).trans rfl
          have hb1 : W2.cell? ⟨b, 1, none⟩ = some (.int .i64 y) := (blk_cell HB2.out 1).trans rfl
          clear wr
          by_cases b1 : x < 0
          · have c1 : decide (x < 0) = true := by simpa using b1
            go_quiet (fail)
            all_goals go_wp2
            all_goals
              obtain ⟨W3, hW3⟩ : ∃ W3, W3 = ((W2.drewN nq).setCell ⟨gr, 0, none⟩ (.slice none 0 0)).setCell ⟨gr, 1, none⟩ (.slice none 0 0) := ⟨_, rfl⟩
              rw [← hW3]
              have hr3 : W3.heap[gr]? = some (.cells #[.slice none 0 0, .slice none 0 0] 81 (0, 0)) := by
                rw [hW3]
                exact blk_set (blk_set (blk_drewN HL2.out.r nq) 0 _) 1 _
              have hc30 : W3.cell? ⟨gr, 0, none⟩ = some (.slice none 0 0) := (blk_cell hr3 0).trans rfl
              have hc31 : W3.cell? ⟨gr, 1, none⟩ = some (.slice none 0 0) := (blk_cell hr3 1).trans rfl
              have hb3 : Below gr w W3 := by
                rw [hW3]
                have hb := HL2.out.bel
                rw [hgr] at hb
                exact ((pw_below_drewN hb nq).setCell (p := ⟨gr, 0, none⟩) (Nat.le_refl _) _).setCell (p := ⟨gr, 1, none⟩) (Nat.le_refl _) _
              refine bodyPost_ret (v := .tuple #[.agg #[.slice none 0 0, .slice none 0 0], .bool false]) ?_ rfl (HPB.out _ hb3 ?_)
              · simp [results, Try.results45, go_sem, hu81, hc30, hc31]
              omega
          · have c1 : decide (x < 0) = false := by simpa using b1
            by_cases b2 : (n : Int) ≤ x
            · have c2 : decide ((n : Int) ≤ x) = true := by simpa using b2
              go_quiet (fail)
              all_goals go_wp2
              all_goals
                obtain ⟨W3, hW3⟩ : ∃ W3, W3 = ((W2.drewN nq).setCell ⟨gr, 0, none⟩ (.slice none 0 0)).setCell ⟨gr, 1, none⟩ (.slice none 0 0) := ⟨_, rfl⟩
                rw [← hW3]
                have hr3 : W3.heap[gr]? = some (.cells #[.slice none 0 0, .slice none 0 0] 81 (0, 0)) := by
                  rw [hW3]
                  exact blk_set (blk_set (blk_drewN HL2.out.r nq) 0 _) 1 _
                have hc30 : W3.cell? ⟨gr, 0, none⟩ = some (.slice none 0 0) := (blk_cell hr3 0).trans rfl
                have hc31 : W3.cell? ⟨gr, 1, none⟩ = some (.slice none 0 0) := (blk_cell hr3 1).trans rfl
                have hb3 : Below gr w W3 := by
                  rw [hW3]
                  have hb := HL2.out.bel
                  rw [hgr] at hb
                  exact ((pw_below_drewN hb nq).setCell (p := ⟨gr, 0, none⟩) (Nat.le_refl _) _).setCell (p := ⟨gr, 1, none⟩) (Nat.le_refl _) _
                refine bodyPost_ret (v := .tuple #[.agg #[.slice none 0 0, .slice none 0 0], .bool false]) ?_ rfl (HPB.out _ hb3 ?_)
                · simp [results, Try.results45, go_sem, hu81, hc30, hc31]
                omega
            · have c2 : decide ((n : Int) ≤ x) = false := by simpa using b2
              obtain ⟨m, rfl⟩ := Int.eq_ofNat_of_zero_le (show 0 ≤ x by omega)
              have hmn : m < n := by omega
              have hc2' : decide (n ≤ m) = false := by simpa using hmn
              have hgs := Blk.cell HL2.out.s (rowS_get n l i m hmn)
              have hgt := Blk.cell HL2.out.t (rowT_get n l i m hmn)
              have hgsf := blk_frozen HL2.out.s m
              have hgtf := blk_frozen HL2.out.t m
              have hsr := since_rng (pnd l) (pwh l) (m : Int) i
              have htr := tk_rng (pnd l) (pwh l) (m : Int) i
              have hsv := Lib.hid (rfl : since (pnd l) (pwh l) (m : Int) i = since (pnd l) (pwh l) (m : Int) i)
              have htv := Lib.hid (rfl : tk (pnd l) (pwh l) (m : Int) i = tk (pnd l) (pwh l) (m : Int) i)
              generalize hse : since (pnd l) (pwh l) (m : Int) i = sv at hgs hsr HPB
              generalize hte : tk (pnd l) (pwh l) (m : Int) i = tv at hgt htr
              have HSE := Lib.hid hse
              have HTE := Lib.hid hte
              have OKM : (0 ≤ (m : Int) ∧ (m : Int) < (n : Int)) → (sv < 0 ↔ y = 2) → (y = 0 ∨ y = 1 ∨ y = 2) → Clk.okb (pnd l) (pwh l) (n : Int) (i + 1) = true := by
                intro q1 q2 q3
                refine okb_more HOK.out ?_
                rw [HP0.out, HP1.out, HSE.out]
                exact ⟨q1.1, q1.2, q2, q3⟩
              clear hsv htv hse hte
              by_cases y2 : y = 2
              · have c5 : (y == 2) = true := by simpa using y2
                by_cases s1 : sv < 0
                · have c4 : decide (sv < 0) = true := by simpa using s1
                  go_quiet (fail)
                  go_wp2_with fail
                  refine (HL2.out.add (i := i) (fun k _ hk _ => Below.heap_setCell (W2.drewN nq) ⟨gs, m, none⟩ _ k hk) ((pw_below_drewN HL2.out.bel nq).setCell (p := ⟨gs, m, none⟩) (by rw [hgr]; exact HGE.out.2) _) (by simp) ?_ ?_ (OKM ⟨by omega, by omega⟩ ?_ (by omega)) h2 (by omega) ⟨HNE.out.1, HNE.out.2.1, HNE.out.2.2.1, HNE.out.2.2.2.1, HNE.out.2.2.2.2.1⟩ (by rw [hgr]; exact Nat.le_of_lt hWg)).mono ?_
                  · rw [rowT_same (by rw [HP1.out]; omega)]
                    exact Blk.keep (w := W2.drewN nq) (blk_drewN HL2.out.t nq) (Below.heap_setCell _ _ _ gt HNE.out.2.2.2.2.2)
                  · rw [rowS_rise HP0.out (by rw [HP1.out]; exact y2)]
                    exact Blk.set (blk_drewN HL2.out.s nq) m _
                  · exact ⟨fun _ => y2, fun _ => s1⟩
                  · rintro e w5 ⟨rfl, hL5⟩
                    have HL5 := Lib.hid hL5
                    clear hL5
                    go_wp2_with fail
                    go_roundg (l.length - (i + 1))
                    case measure => have := a2.out; omega
                    case rel => exact ⟨i + 1, by first | rfl | go_num | (simp; done), ⟨by omega⟩, ⟨by omega⟩, ⟨HL5.out⟩⟩
                · have c4 : decide (sv < 0) = false := by simpa using s1
                  go_quiet (fail)
                  all_goals go_wp2
                  all_goals
                    obtain ⟨W3, hW3⟩ : ∃ W3, W3 = ((W2.drewN nq).setCell ⟨gr, 0, none⟩ (.slice none 0 0)).setCell ⟨gr, 1, none⟩ (.slice none 0 0) := ⟨_, rfl⟩
                    rw [← hW3]
                    have hr3 : W3.heap[gr]? = some (.cells #[.slice none 0 0, .slice none 0 0] 81 (0, 0)) := by
                      rw [hW3]
                      exact blk_set (blk_set (blk_drewN HL2.out.r nq) 0 _) 1 _
                    have hc30 : W3.cell? ⟨gr, 0, none⟩ = some (.slice none 0 0) := (blk_cell hr3 0).trans rfl
                    have hc31 : W3.cell? ⟨gr, 1, none⟩ = some (.slice none 0 0) := (blk_cell hr3 1).trans rfl
                    have hb3 : Below gr w W3 := by
                      rw [hW3]
                      have hb := HL2.out.bel
                      rw [hgr] at hb
                      exact ((pw_below_drewN hb nq).setCell (p := ⟨gr, 0, none⟩) (Nat.le_refl _) _).setCell (p := ⟨gr, 1, none⟩) (Nat.le_refl _) _
                    refine bodyPost_ret (v := .tuple #[.agg #[.slice none 0 0, .slice none 0 0], .bool false]) ?_ rfl (HPB.out _ hb3 ?_)
                    · simp [results, Try.results45, go_sem, hu81, hc30, hc31]
                    exact fun hh => absurd (hh.2.2.1.2 y2) (by omega)
              · have c5 : (y == 2) = false := by simpa using y2
                by_cases s1 : sv < 0
                · have c4 : decide (sv < 0) = true := by simpa using s1
                  go_quiet (fail)
                  all_goals go_wp2
                  all_goals
                    obtain ⟨W3, hW3⟩ : ∃ W3, W3 = ((W2.drewN nq).setCell ⟨gr, 0, none⟩ (.slice none 0 0)).setCell ⟨gr, 1, none⟩ (.slice none 0 0) := ⟨_, rfl⟩
                    rw [← hW3]
                    have hr3 : W3.heap[gr]? = some (.cells #[.slice none 0 0, .slice none 0 0] 81 (0, 0)) := by
                      rw [hW3]
                      exact blk_set (blk_set (blk_drewN HL2.out.r nq) 0 _) 1 _
                    have hc30 : W3.cell? ⟨gr, 0, none⟩ = some (.slice none 0 0) := (blk_cell hr3 0).trans rfl
                    have hc31 : W3.cell? ⟨gr, 1, none⟩ = some (.slice none 0 0) := (blk_cell hr3 1).trans rfl
                    have hb3 : Below gr w W3 := by
                      rw [hW3]
                      have hb := HL2.out.bel
                      rw [hgr] at hb
                      exact ((pw_below_drewN hb nq).setCell (p := ⟨gr, 0, none⟩) (Nat.le_refl _) _).setCell (p := ⟨gr, 1, none⟩) (Nat.le_refl _) _
                    refine bodyPost_ret (v := .tuple #[.agg #[.slice none 0 0, .slice none 0 0], .bool false]) ?_ rfl (HPB.out _ hb3 ?_)
                    · simp [results, Try.results45, go_sem, hu81, hc30, hc31]
                    exact fun hh => absurd (hh.2.2.1.1 s1) y2
                · have c4 : decide (sv < 0) = false := by simpa using s1
                  by_cases y0 : y = 0
                  · go_quiet (fail)
                    go_wp2_with fail
                    refine (HL2.out.add (i := i) (fun k hk _ _ => Below.heap_setCell (W2.drewN nq) ⟨gt, m, none⟩ _ k hk) ((pw_below_drewN HL2.out.bel nq).setCell (p := ⟨gt, m, none⟩) (by rw [hgr]; exact HGE.out.1) _) (by simp) ?_ ?_ (OKM ⟨by omega, by omega⟩ ?_ (by omega)) h2 (by omega) ⟨HNE.out.1, HNE.out.2.1, HNE.out.2.2.1, HNE.out.2.2.2.1, HNE.out.2.2.2.2.1⟩ (by rw [hgr]; exact Nat.le_of_lt hWg)).mono ?_
                    · rw [rowT_tick HP0.out (by rw [HP1.out]; exact y0), HTE.out]
                      exact Blk.set (blk_drewN HL2.out.t nq) m _
                    · rw [rowS_tick (by rw [HP1.out]; exact y0)]
                      exact Blk.keep (w := W2.drewN nq) (blk_drewN HL2.out.s nq) (Below.heap_setCell _ _ _ gs (fun e => HNE.out.2.2.2.2.2 e.symm))
                    · exact ⟨fun h => absurd h (by omega), fun h => absurd h y2⟩
                    · rintro e w5 ⟨rfl, hL5⟩
                      have HL5 := Lib.hid hL5
                      clear hL5
                      go_wp2_with fail
                      go_roundg (l.length - (i + 1))
                      case measure => have := a2.out; omega
                      case rel => exact ⟨i + 1, by first | rfl | go_num | (simp; done), ⟨by omega⟩, ⟨by omega⟩, ⟨HL5.out⟩⟩
                  · by_cases y1 : y = 1
                    · go_quiet (fail)
                      go_wp2_with fail
                      refine (HL2.out.add (i := i) (fun k _ hk _ => Below.heap_setCell (W2.drewN nq) ⟨gs, m, none⟩ _ k hk) ((pw_below_drewN HL2.out.bel nq).setCell (p := ⟨gs, m, none⟩) (by rw [hgr]; exact HGE.out.2) _) (by simp) ?_ ?_ (OKM ⟨by omega, by omega⟩ ?_ (by omega)) h2 (by omega) ⟨HNE.out.1, HNE.out.2.1, HNE.out.2.2.1, HNE.out.2.2.2.1, HNE.out.2.2.2.2.1⟩ (by rw [hgr]; exact Nat.le_of_lt hWg)).mono ?_
                      · rw [rowT_same (by rw [HP1.out]; omega)]
                        exact Blk.keep (w := W2.drewN nq) (blk_drewN HL2.out.t nq) (Below.heap_setCell _ _ _ gt HNE.out.2.2.2.2.2)
                      · rw [rowS_fall HP0.out (by rw [HP1.out]; exact y1)]
                        exact Blk.set (blk_drewN HL2.out.s nq) m _
                      · exact ⟨fun h => absurd h (by omega), fun h => absurd h y2⟩
                      · rintro e w5 ⟨rfl, hL5⟩
                        have HL5 := Lib.hid hL5
                        clear hL5
                        go_wp2_with fail
                        go_roundg (l.length - (i + 1))
                        case measure => have := a2.out; omega
                        case rel => exact ⟨i + 1, by first | rfl | go_num | (simp; done), ⟨by omega⟩, ⟨by omega⟩, ⟨HL5.out⟩⟩
                    · go_quiet (fail)
                      all_goals go_wp2
                      all_goals
                        obtain ⟨W3, hW3⟩ : ∃ W3, W3 = ((W2.drewN nq).setCell ⟨gr, 0, none⟩ (.slice none 0 0)).setCell ⟨gr, 1, none⟩ (.slice none 0 0) := ⟨_, rfl⟩
                        rw [← hW3]
                        have hr3 : W3.heap[gr]? = some (.cells #[.slice none 0 0, .slice none 0 0] 81 (0, 0)) := by
                          rw [hW3]
                          exact blk_set (blk_set (blk_drewN HL2.out.r nq) 0 _) 1 _
                        have hc30 : W3.cell? ⟨gr, 0, none⟩ = some (.slice none 0 0) := (blk_cell hr3 0).trans rfl
                        have hc31 : W3.cell? ⟨gr, 1, none⟩ = some (.slice none 0 0) := (blk_cell hr3 1).trans rfl
                        have hb3 : Below gr w W3 := by
                          rw [hW3]
                          have hb := HL2.out.bel
                          rw [hgr] at hb
                          exact ((pw_below_drewN hb nq).setCell (p := ⟨gr, 0, none⟩) (Nat.le_refl _) _).setCell (p := ⟨gr, 1, none⟩) (Nat.le_refl _) _
                        refine bodyPost_ret (v := .tuple #[.agg #[.slice none 0 0, .slice none 0 0], .bool false]) ?_ rfl (HPB.out _ hb3 ?_)
                        · simp [results, Try.results45, go_sem, hu81, hc30, hc31]
                        exact fun hh => by have := hh.2.2.2; omega
      · obtain rfl : i = l.length := by have := a1.out; omega
        obtain ⟨v1, v2, hh⟩ := a3.out.ex
        obtain ⟨A1, k1, e1⟩ := Kd.S_slice hh.t
        obtain ⟨A2, k2, e2⟩ := Kd.S_slice hh.s
        rw [List.length_map, List.length_range] at e1 e2
        subst e1
        subst e2
        have hr0 := a3.out.r
        have hx0 : wr.cell? ⟨g, 0, none⟩ = some (.slice A1 (l.length + 1) k1) := (blk_cell hh.cell 0).trans rfl
        have hx1 : wr.cell? ⟨g, 1, none⟩ = some (.slice A2 (l.length + 1) k2) := (blk_cell hh.cell 1).trans rfl
        have hg0 : wr.cell? ⟨gr, 0, none⟩ = some (.slice none 0 0) := (blk_cell hr0 0).trans rfl
        have hg1 : wr.cell? ⟨gr, 1, none⟩ = some (.slice none 0 0) := (blk_cell hr0 1).trans rfl
        have hgf0 := blk_frozen hr0 0
        have hgf1 := blk_frozen hr0 1
        have HH := Lib.hid hh
        have HR0 := Lib.hid hr0
        clear hh hr0
        go_wp2
        all_goals
          have hr1 := blk_set HR0.out 0 (.slice A1 (l.length + 1) k1)
          have hr2 := blk_set hr1 1 (.slice A2 (l.length + 1) k2)
          have ht := Kd.S_set (Kd.S_set HH.out.t HR0.out (by decide) 0 (.slice A1 (l.length + 1) k1)) hr1 (by decide) 1 (.slice A2 (l.length + 1) k2)
          have hs := Kd.S_set (Kd.S_set HH.out.s HR0.out (by decide) 0 (.slice A1 (l.length + 1) k1)) hr1 (by decide) 1 (.slice A2 (l.length + 1) k2)
          have hb := (HH.out.bel.setCell (p := ⟨gr, 0, none⟩) (by rw [hgr]; exact Nat.le_refl _) (.slice A1 (l.length + 1) k1)).setCell (p := ⟨gr, 1, none⟩) (by rw [hgr]; exact Nat.le_refl _) (.slice A2 (l.length + 1) k2)
          have hc30 := (blk_cell hr2 0).trans (rfl : _ = some (Value.slice A1 (l.length + 1) k1))
          have hc31 := (blk_cell hr2 1).trans (rfl : _ = some (Value.slice A2 (l.length + 1) k2))
          refine bodyPost_ret (v := .tuple #[.agg #[.slice A1 (l.length + 1) k1, .slice A2 (l.length + 1) k2], .bool true]) ?_ rfl ?_
          · simp [results, Try.results45, go_sem, hu81, hc30, hc31]
          refine Or.inr ⟨?_, _, _, rfl, ?_, ?_, hb⟩
          · unfold playok
            rw [decide_eq_true ⟨by omega, by omega, h3⟩, a3.out.okb]
            rfl
          · rw [Int.toNat_natCast]
            exact Kd.S_mono ht (fun _ _ => trivial)
          · rw [Int.toNat_natCast]
            exact Kd.S_mono hs (fun _ _ => trivial)
theorem clock_played.calls (a0 : Int) (A1 : Option Addr) (c1 : Nat) (l1 : List (S87)) (r1 : List (List Int)) (r2 : List (List Int)) (r3 : Bool) (w : World) (hr1 : Kd.C k87 w A1 l1.length l1) (hc1 : l1.length ≤ c1) (h : clock_played.f a0 l1 = some (r1, r2, r3)) :
    Calls Try.prog 45 #[.int .i64 a0, .slice A1 l1.length c1] w fun e w' => ∃ v0_ v1_ : Value, e = .returned (.tuple #[.agg #[v0_, v1_], .bool r3]) ∧ Kd.S (Kd.slice 2 (Kd.int .i64)) 105 w' w.heap.size (fun _ => True) v0_ r1 ∧ Kd.S (Kd.slice 3 (Kd.int .i64)) 106 w' w.heap.size (fun _ => True) v1_ r2 ∧ Below w.heap.size w w' := by
  have key : ∀ e w', PlayPost a0 l1 w e w' → ∃ v0_ v1_ : Value, e = .returned (.tuple #[.agg #[v0_, v1_], .bool r3]) ∧ Kd.S (Kd.slice 2 (Kd.int .i64)) 105 w' w.heap.size (fun _ => True) v0_ r1 ∧ Kd.S (Kd.slice 3 (Kd.int .i64)) 106 w' w.heap.size (fun _ => True) v1_ r2 ∧ Below w.heap.size w w' := by
    intro e w' hp
    unfold clock_played.f at h
    rcases hp with ⟨hp, rfl, hb⟩ | ⟨hp, v0, v1, rfl, ht, hs, hb⟩
    · rw [if_neg (by rw [hp]; exact Bool.false_ne_true)] at h
      cases h
      exact ⟨_, _, rfl, Kd.S_nil _ _ _ _ _, Kd.S_nil _ _ _ _ _, hb⟩
    · rw [if_pos hp] at h
      cases h
      exact ⟨v0, v1, rfl, ht, hs, hb⟩
  by_cases hb : a0 < 1 ∨ 64 < a0 ∨ 400 < l1.length
  · exact (played_bad a0 A1 c1 l1 w hb).mono key
  · obtain ⟨n, rfl⟩ := Int.eq_ofNat_of_zero_le (show 0 ≤ a0 by omega)
    exact (played_good n A1 c1 l1 w (by omega) (by omega) (by omega) hr1 hc1).mono key
end Go.Proofs.Ytahppppkepcbkaa.Fn
