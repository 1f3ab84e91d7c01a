/- chapter 18's law: something happens; by hand. -/
import Derived.Test.YtgfblogneggpmaaFnx0
import Derived.Test.YtgfblogneggpmaaFnx6
import Derived.Test.YtgfblogneggpmaaOneB
import Derived.Test.YtgfblogneggpmaaOneAsk
import Derived.Test.YtgfblogneggpmaaOneCome2
namespace Go.Proofs.Ytgfblogneggpmaa.One
open Go.RowKit Go.Proofs.Ytgfblogneggpmaa.Fn Go.Proofs.YtgfblogneggpmaaW.PrintWords Go.Proofs.YtgfblogneggpmaaW.PrintLast Go.Proofs.YtgfblogneggpmaaW.PrintMore Go.Proofs.Ytgfblogneggpmaa.Vote Go.Proofs.Ytgfblogneggpmaa.Clk Go.Proofs.Ytgfblogneggpmaa.Thr
set_option linter.unusedVariables false
set_option linter.unusedSimpArgs false
set_option maxRecDepth 100000
theorem info106 : (Try.prog.info? 106).map (fun i => (i.zero, i.size, i.bytes)) = some (some (.agg #[.int .i64 0, .int .i64 0]), 2, 16) := by kernel_rfl
/-- The nodes' block is copied to the result's (from slot a_ to slot b_). -/
theorem reg_ret4 {id : Nat} {o1 o2 : Oper} {Q : Exit → Act → World → Prop} {a : Act} {W : World} (T : Nat) {gw gs : Nat} {cs old : Array Value} (h1 : o1.op = .load 80 (.tmp 2)) (hd1 : o1.dst = some T) (hg1 : o1.guard = none) (h2 : o2.op = .store 80 (.tmp 4) (.tmp T)) (hd2 : o2.dst = none) (hg2 : o2.guard = none)
    (hx : a.eval (.tmp 2) = .pointer (some ⟨gw, 0, none⟩)) (hs : (a.put (some T) (.agg cs)).eval (.tmp 4) = .pointer (some ⟨gs, 0, none⟩)) (hy : (a.put (some T) (.agg cs)).eval (.tmp T) = .agg cs) (hw : W.heap[gw]? = some (.cells cs 80 (0, 0))) (hz : W.heap[gs]? = some (.cells old 80 (0, 0))) (hc : cs.size = 13) (ho : old.size = 13) (hall : cs.all (·.oneCell') = true)
    (h : Q .normal ((a.put (some T) (.agg cs)).put none undef) (W.setRow gs cs)) : Code.wp Try.prog (.region id #[o1, o2] false) Q a W := by
  have hi : (Try.prog.info? 80).map (·.size) = some cs.size := by rw [hc]; exact info80s
  refine wp_region_lit (l := [o1, o2]) (wpList_load_row hg1 80 (.tmp 2) h1 gw hx 80 cs (0, 0) _ hw Try.underlying80 rfl hi (wpList_store_row hg2 80 (.tmp 4) (.tmp T) h2 gs cs ?_ ?_ 80 old hz hi (by rw [ho, hc]) hall ?_))
  · rw [hd1]; exact hs
  · rw [hd1]; exact hy
  · rw [hd1, hd2]
    exact h
theorem fin_ret4 {fn : Func} {a : Act} {w0 : World} {B : Nat} {W W2 : World} {tag tag' : Nat → Nat} {t d r : Int} {n : Nat} {x : NV} {s s' : St} {gs : Nat} (hf : fn.results = #[.cell 4 80]) (hd : a.defers = []) (hp : a.tmps.getD 4 undef = .pointer (some ⟨gs, 0, none⟩)) (hz : W2.heap[gs]? = some zblk) (hs : Stp t n s s') (h : Nw w0 B W tag W2 tag' x s') (ht : tag' gs = 0) (h0 : W.heap.size ≤ gs) (hB : B ≤ gs) :
    bodyPost Try.prog fn (Pst w0 B W tag t d r n s) .ret a (W2.setRow gs #[.int .i64 t, .int .i64 d, .int .i64 r, x.c, x.l, x.u, x.v, x.d, x.r, x.g, x.b, .int .u64 s'.top, .bool true]) :=
  bodyPost_ret (results_cell_row hf _ _ gs 80 _ (0, 0) _ hp (setRow_heap W2 gs _ _ 80 (0, 0) hz) Try.underlying80 rfl info80s) hd ⟨x, tag', s', hs, rfl, h.setRow ht h0 hB _⟩
/-- What happens begins with: the nodes' block, the happening's, the result's. -/
structure Eh (w0 : World) (B : Nat) (W : World) (tag : Nat → Nat) (t d r : Int) (x : NV) (s : St) (k a b : Int) (gw gh gs : Nat) (W1 : World) (tag1 : Nat → Nat) : Prop where
  nw : Nw w0 B W tag W1 tag1 x s
  bw : W1.heap[gw]? = some (nblk t d r x s.top true)
  bh : W1.heap[gh]? = some (.cells #[.int .u8 k, .int .u8 a, .int .u8 b] 84 (0, 0))
  bs : W1.heap[gs]? = some zblk
  w : W.heap.size ≤ gw
  s_ : W.heap.size ≤ gs
  ne : gw ≠ gs
  nh : gw ≠ gh
  tw : tag1 gw = 0
  th : tag1 gh = 0
  ts : tag1 gs = 0
  b0 : B ≤ W.heap.size
theorem Eh.start {w0 : World} {B : Nat} {W : World} {tag : Nat → Nat} {x : NV} {s : St} (h : Nw w0 B W tag W tag x s) (t d r : Int) (k a b : Int) : Eh w0 B W tag t d r x s k a b W.heap.size (W.heap.size + 1) (W.heap.size + 2) (((W.alloc (nblk t d r x s.top true)).alloc (.cells #[.int .u8 k, .int .u8 a, .int .u8 b] 84)).alloc zblk) tag := by
  have hb : ∀ (w : World) (o : Obj), Below w.heap.size w (w.alloc o) := fun w o => below_alloc (Below.refl _ _) o
  refine ⟨((h.alloc _).alloc _).alloc _, blk_below (blk_below (blk_new W _) (hb _ _)) (hb _ _), ?_, ?_, Nat.le_refl _, by omega, by omega, by omega, h.fresh _ (Nat.le_refl _), h.fresh _ (by omega), h.fresh _ (by omega), h.base⟩
  · have := blk_below (blk_new (W.alloc (nblk t d r x s.top true)) (.cells #[.int .u8 k, .int .u8 a, .int .u8 b] 84)) (hb _ zblk)
    simpa using this
  · have := blk_new ((W.alloc (nblk t d r x s.top true)).alloc (.cells #[.int .u8 k, .int .u8 a, .int .u8 b] 84)) zblk
    simpa using this
theorem Eh.set1 {w0 : World} {B : Nat} {W W1 : World} {tag tag1 : Nat → Nat} {t d r : Int} {x : NV} {s s2 : St} {k a b : Int} {gw gh gs : Nat} (h : Eh w0 B W tag t d r x s k a b gw gh gs W1 tag1) {g j : Nat} {v : Value} (hN : Nw w0 B W tag (W1.setCell ⟨g, j, none⟩ v) tag1 x s2) (hg : tag1 g ≠ 0) (htop : s2.top = s.top) : Eh w0 B W tag t d r x s2 k a b gw gh gs (W1.setCell ⟨g, j, none⟩ v) tag1 := by
  have ne : ∀ q, tag1 q = 0 → q ≠ g := fun q hq e => hg (by rw [← e]; exact hq)
  exact { h with nw := hN, bw := by rw [htop]; exact blk_far h.bw (ne _ h.tw) _, bh := blk_far h.bh (ne _ h.th) _, bs := blk_far h.bs (ne _ h.ts) _ }
/-- A beat more. -/
theorem Eh.beat {w0 : World} {B : Nat} {W W1 : World} {tag tag1 : Nat → Nat} {t d r : Int} {x : NV} {s : St} {k a b : Int} {gw gh gs : Nat} (h : Eh w0 B W tag t d r x s k a b gw gh gs W1 tag1) {wn : World} {vn : Value} {l : List S106} (hR : k106.R 106 wn B (fun k => tag1 k = 8 ∨ W1.heap.size ≤ k) vn l) (hB : Below B w0 wn) (hG : W1.grownBy wn x.b.ownBlock) :
    (wn.cell? ⟨gw, 10, none⟩ = some x.b ∧ wn.frozen? ⟨gw, 10, none⟩ = false) ∧ Nw w0 B W tag (wn.setCell ⟨gw, 10, none⟩ vn) (ri tag1 W1.heap.size wn.heap.size 8) { x with b := vn } { s with beats := l } ∧ (wn.setCell ⟨gw, 10, none⟩ vn).heap[gw]? = some (nblk t d r { x with b := vn } s.top true) ∧ (wn.setCell ⟨gw, 10, none⟩ vn).heap[gs]? = some zblk ∧ ri tag1 W1.heap.size wn.heap.size 8 gs = 0 := by
  obtain ⟨b1, b2⟩ := Nw.stay (by decide) h.nw.b.1 hG h.bw h.tw
  obtain ⟨b3, b4⟩ := Nw.stay (by decide) h.nw.b.1 hG h.bs h.ts
  refine ⟨⟨(blk_cell b1 10).trans rfl, blk_frozen b1 10⟩, (h.nw.app_b hR hB hG).set0 b2 h.w (Nat.le_trans h.b0 h.w) 10 _, ?_, blk_far b3 (fun e => h.ne e.symm) _, b4⟩
  have := blk_set b1 10 vn
  exact this
theorem Nw.back {w0 W0 W W' : World} {B : Nat} {t0 tag tag' : Nat → Nat} {x x' : NV} {s s' : St} (h : Nw w0 B W0 t0 W tag x s) (h2 : Nw w0 B W tag W' tag' x' s') : Nw w0 B W0 t0 W' tag' x' s' :=
  { h2 with
    size := Nat.le_trans h.size h2.size
    tg := fun k hk => (h2.tg k (Nat.lt_of_lt_of_le hk h.size)).trans (h.tg k hk)
    kp := fun k hk ht => (h2.kp k (Nat.lt_of_lt_of_le hk h.size) (by rw [h.tg k hk]; exact ht)).trans (h.kp k hk ht) }
/-- It asks, whatever it asked before. -/
theorem asks_any (w0 : World) (B : Nat) (W : World) (tag : Nat → Nat) (x : NV) (s : St) (t d r : Int) (n i : Nat) (h : Nw w0 B W tag W tag x s) (hd : Bd t n i s) (hi : i < 90) (hn : 2 ≤ n ∧ n ≤ 5) (q0 : Nat) (ha : q0 < n) (hu : s.isup (q0 : Int) = true) (b : Bool) : Calls Try.prog 60 #[.agg #[.int .i64 t, .int .i64 d, .int .i64 r, x.c, x.l, x.u, x.v, x.d, x.r, x.g, x.b, .int .u64 s.top, .bool true], .int .i64 (q0 : Int), .bool b] W (Pst w0 B W tag t d r n s) := by
  have hq : isn n (q0 : Int) := ⟨by omega, by omega⟩
  have fresh : ∀ (e : Ending) (w' : World), Ps2 w0 B W tag t d r ((s.start n (q0 : Int)).ask n (q0 : Int)) e w' → Pst w0 B W tag t d r n s e w' := by
    rintro e w' ⟨x', tag', rfl, hN⟩
    exact ⟨x', tag', _, .fresh _ hq hu, rfl, hN⟩
  cases b with
  | true => exact (asks_fresh w0 B W tag x s t d r n i h hd hi hn q0 ha).mono fresh
  | false =>
    by_cases he : (s.ld (q0 : Int)).f0 = 0
    · exact (asks_first w0 B W tag x s t d r n i h hd hi hn q0 ha he).mono fresh
    · refine (asks_again w0 B W tag x s t d r n i h hd hi hn q0 ha he).mono ?_
      rintro e w' ⟨x', tag', rfl, hN⟩
      exact ⟨x', tag', _, .again _ hq hu, rfl, hN⟩
theorem exi {k : Int} {l : Nat} (hk : 0 ≤ k) (hl : l ≠ 0) : ∃ j : Nat, j < l ∧ k % (l : Int) = (j : Int) := by
  have h1 := Int.emod_lt_of_pos k (show (0 : Int) < (l : Int) by omega)
  have h2 := Int.emod_nonneg k (show (l : Int) ≠ 0 by omega)
  exact ⟨(k % (l : Int)).toNat, by omega, by omega⟩
theorem comes_any (w0 : World) (B : Nat) (W : World) (tag : Nat → Nat) (x : NV) (s : St) (t d r : Int) (n i : Nat) (h : Nw w0 B W tag W tag x s) (hd : Bd t n i s) (hi : i < 90) (hn : 2 ≤ n ∧ n ≤ 5) (hm : mayt t d r) (k : Int) (hk : 0 ≤ k ∧ k ≤ 70000) (b : Bool) : Calls Try.prog 61 #[.agg #[.int .i64 t, .int .i64 d, .int .i64 r, x.c, x.l, x.u, x.v, x.d, x.r, x.g, x.b, .int .u64 s.top, .bool true], .int .i64 k, .bool b] W (Pst w0 B W tag t d r n s) := by
  by_cases he : (if b then s.reqs.length else s.grs.length) = 0
  · exact comes_none w0 B W tag x s t d r n h k b he
  cases b with
  | true =>
    obtain ⟨j, hj, hjj⟩ := exi hk.1 (show s.reqs.length ≠ 0 by simpa using he)
    cases hu : s.isup (s.reqs.getD j z116).f1 with
    | false => exact comes_down w0 B W tag x s t d r n i h hd hi hn k hk _ j hj hjj rfl hu
    | true =>
      cases hb : bars (s.vo (s.reqs.getD j z116).f1).f0 (s.vo (s.reqs.getD j z116).f1).f1 (s.vo (s.reqs.getD j z116).f1).f2 (s.vo (s.reqs.getD j z116).f1).f3 (s.reqs.getD j z116).f0 (s.reqs.getD j z116).f2 (s.clk (s.reqs.getD j z116).f1) with
      | true => exact comes_bar w0 B W tag x s t d r n i h hd hi hn hm k hk _ j hj hjj rfl hu hb
      | false => exact comes_yes w0 B W tag x s t d r n i h hd hi hn hm k hk _ j hj hjj rfl hu hb
  | false =>
    obtain ⟨j, hj, hjj⟩ := exi hk.1 (show s.grs.length ≠ 0 by simpa using he)
    cases hu : s.isup (s.grs.getD j z116).f0 with
    | false => exact come_down w0 B W tag x s t d r n i h hd hi hn k hk _ j hj hjj rfl hu
    | true =>
      by_cases hl : s.lf (s.grs.getD j z116).f0 = (s.grs.getD j z116).f4
      · by_cases hep : (s.grs.getD j z116).f2 = (s.ld (s.grs.getD j z116).f0).f0
        · exact come_got w0 B W tag x s t d r n i h hd hi hn k hk _ j hj hjj rfl hu hl hep
        · exact come_stale w0 B W tag x s t d r n i h hd hi hn k hk _ j hj hjj rfl hu hl hep
      · exact come_life w0 B W tag x s t d r n i h hd hi hn k hk _ j hj hjj rfl hu hl
section
variable {w0 : World} {B : Nat} {W W1 w1 : World} {tag tag1 : Nat → Nat} {t d r : Int} {x : NV} {s : St} {k a b : Int} {gw gh gs : Nat}
theorem Eh.below (h : Eh w0 B W tag t d r x s k a b gw gh gs W1 tag1) (hb : Below W1.heap.size W1 w1) : Eh w0 B W tag t d r x s k a b gw gh gs w1 tag1 :=
  { h with nw := h.nw.below hb, bw := blk_below h.bw hb, bh := blk_below h.bh hb, bs := blk_below h.bs hb }
theorem Eh.called (h : Eh w0 B W tag t d r x s k a b gw gh gs W1 tag1) (hb : Below W1.heap.size W1 w1) : Eh w0 B W tag t d r x s k a b gw gh gs w1 (ri tag1 W1.heap.size w1.heap.size 9) := by
  have h1 := h.below hb
  have old : ∀ {k : Nat} {o : Obj}, W1.heap[k]? = some o → tag1 k = 0 → ri tag1 W1.heap.size w1.heap.size 9 k = 0 := fun hk ht => by
    unfold ri
    rw [if_neg (fun q => by have := blk_lt hk; omega)]
    exact ht
  exact { h1 with nw := h.nw.retag h1.nw hb.size 9, ts := old h.bs h.ts, tw := old h.bw h.tw, th := old h.bh h.th }
theorem Eh.ok12 (h : Eh w0 B W tag t d r x s k a b gw gh gs W1 tag1) : Eh w0 B W tag t d r x s k a b gw gh gs (W1.setCell ⟨gw, 12, none⟩ (.bool true)) tag1 := by
  have hb : (W1.setCell ⟨gw, 12, none⟩ (.bool true)).heap[gw]? = some (nblk t d r x s.top true) := by
    have := blk_set h.bw 12 (.bool true)
    exact this
  exact { h with nw := h.nw.set0 h.tw h.w (Nat.le_trans h.b0 h.w) 12 _, bw := hb, bs := blk_far h.bs (fun e => h.ne e.symm) _, bh := blk_far h.bh (fun e => h.nh e.symm) _ }
theorem Eh.put4 (h : Eh w0 B W tag t d r x s k a b gw gh gs W1 tag1) {gu nu cu gc nc cc gv nv cv gd nd cd : Nat} (hu : x.u = .slice (some ⟨gu, 0, none⟩) nu cu) (hc : x.c = .slice (some ⟨gc, 0, none⟩) nc cc) (hv : x.v = .slice (some ⟨gv, 0, none⟩) nv cv) (hd : x.d = .slice (some ⟨gd, 0, none⟩) nd cd) (j : Nat) (hjv : j < nv) (hjd : j < nd) (y : S38) (e : Int) {A1 : Option Addr} {n1 c1 : Nat} {l : List Int} (hV : Kd.V (Kd.int .i64) 2 W1 B (fun k => tag1 k = 9) (.slice A1 n1 c1) l) :
    Eh w0 B W tag t d r { x with raw := x.raw.set j (e, A1, n1, c1) } { s with up := s.up.set j true, clock := s.clock.set j 0, votes := s.votes.set j y, leads := s.leads.set j ⟨e, l⟩ } k a b gw gh gs (st2 (st4 ((W1.setCell ⟨gu, j, none⟩ (.bool true)).setCell ⟨gc, j, none⟩ (.int .i64 0)) gv j y) gd j e (.slice A1 n1 c1)) tag1 := by
  have tu : tag1 gu = 3 := h.nw.u.1 gu (by rw [hu]; simp [Value.ownBlock])
  have tc : tag1 gc = 1 := h.nw.c.1 gc (by rw [hc]; simp [Value.ownBlock])
  have tv : tag1 gv = 4 := h.nw.v.1 gv (by rw [hv]; simp [Value.ownBlock])
  have td : tag1 gd = 5 := h.nw.d.1 gd (by rw [hd]; simp [Value.ownBlock])
  have ne : ∀ (i m : Nat) {q g : Nat}, tag1 q = i → tag1 g = m → i ≠ m → q ≠ g := fun i m q g hq hg hn e => hn (by rw [← hq, ← hg, e])
  have far : ∀ {q : Nat} {cs : Array Value} {e' : Nat}, tag1 q = 0 → W1.heap[q]? = some (.cells cs e' (0, 0)) → (st2 (st4 ((W1.setCell ⟨gu, j, none⟩ (.bool true)).setCell ⟨gc, j, none⟩ (.int .i64 0)) gv j y) gd j e (.slice A1 n1 c1)).heap[q]? = some (.cells cs e' (0, 0)) := fun hq hb =>
    blk_far (blk_far (blk_far (blk_far (blk_far (blk_far (blk_far (blk_far hb (ne 0 3 hq tu (by decide)) _) (ne 0 1 hq tc (by decide)) _) (ne 0 4 hq tv (by decide)) _) (ne 0 4 hq tv (by decide)) _) (ne 0 4 hq tv (by decide)) _) (ne 0 4 hq tv (by decide)) _) (ne 0 5 hq td (by decide)) _) (ne 0 5 hq td (by decide)) _
  have hV2 : Kd.V (Kd.int .i64) 2 (st4 ((W1.setCell ⟨gu, j, none⟩ (.bool true)).setCell ⟨gc, j, none⟩ (.int .i64 0)) gv j y) B (fun k => tag1 k = 9) (.slice A1 n1 c1) l :=
    Kd.V_far (p := ⟨gv, j * 4 + 3, none⟩) (Kd.V_far (p := ⟨gv, j * 4 + 2, none⟩) (Kd.V_far (p := ⟨gv, j * 4 + 1, none⟩) (Kd.V_far (p := ⟨gv, j * 4, none⟩) (Kd.V_far (p := ⟨gc, j, none⟩) (Kd.V_far (p := ⟨gu, j, none⟩) hV (fun k hk => ne 9 3 hk tu (by decide)) _) (fun k hk => ne 9 1 hk tc (by decide)) _) (fun k hk => ne 9 4 hk tv (by decide)) _) (fun k hk => ne 9 4 hk tv (by decide)) _) (fun k hk => ne 9 4 hk tv (by decide)) _) (fun k hk => ne 9 4 hk tv (by decide)) _
  exact { h with nw := (((h.nw.set_u hu j true).set_c hc j 0).set_v hv j hjv y).set_d hd j hjd e hV2, bw := far h.tw h.bw, bh := far h.th h.bh, bs := far h.ts h.bs }
end
theorem restart_eq {t d r E0 To : Int} (hm : mayt t d r) (hw : To = -1 ∨ (0 ≤ To ∧ To < 64)) : vote_Restart.f t d r E0 To 0 = some (E0, To, 0, t, 0) := by
  unfold vote_Restart.f
  have h1 := hm.1
  have h2 := hm.2.1
  have e0 : wrap64 (0 + t) = t := by rw [Int.zero_add]; exact w64_id _ (by omega) (by omega)
  rw [may_eq, if_pos hm, Option.bind_some, if_pos rfl, e0]
  rcases hw with w | w
  · rw [if_pos w, moment_eq, Option.bind_some, if_pos (by simp)]
  · rw [if_neg ((show ¬To = -1 by omega)), node_eq, Option.bind_some, if_pos (by simpa using w), moment_eq, Option.bind_some, if_pos (by simp)]
theorem early38 {Wa w1 : World} {E0 To t : Int} {gb : Nat} {z : Array Value} (hz : z.size = 4) (hWa : Wa.heap.size = gb) (hb : Below ((Wa.alloc (.cells z 38)).drew).heap.size ((Wa.alloc (.cells z 38)).drew) w1) : Wa.heap.size ≤ gb ∧ Below Wa.heap.size Wa ((((w1.setCell ⟨gb, 0, none⟩ (.int .u64 E0)).setCell ⟨gb, 1, none⟩ (.int .i64 To)).setCell ⟨gb, 2, none⟩ (.int .i64 0)).setCell ⟨gb, 3, none⟩ (.int .i64 t)) ∧ ((((w1.setCell ⟨gb, 0, none⟩ (.int .u64 E0)).setCell ⟨gb, 1, none⟩ (.int .i64 To)).setCell ⟨gb, 2, none⟩ (.int .i64 0)).setCell ⟨gb, 3, none⟩ (.int .i64 t)).heap[gb]? = some (.cells #[.int .u64 E0, .int .i64 To, .int .i64 0, .int .i64 t] 38 (0, 0)) := by
  have h1 : w1.heap[gb]? = some (.cells z 38 (0, 0)) := by
    have := blk_below (blk_drew (blk_new Wa (.cells z 38))) hb
    rw [hWa] at this
    exact this
  have hbl : Below Wa.heap.size Wa w1 := (below_drew (below_alloc (Below.refl _ _) _)).trans (hb.mono (by simp))
  refine ⟨by omega, (((hbl.setCell (show Wa.heap.size ≤ gb by omega) _).setCell (show Wa.heap.size ≤ gb by omega) _).setCell (show Wa.heap.size ≤ gb by omega) _).setCell (show Wa.heap.size ≤ gb by omega) _, ?_⟩
  have := blk_set (blk_set (blk_set (blk_set h1 0 (.int .u64 E0)) 1 (.int .i64 To)) 2 (.int .i64 0)) 3 (.int .i64 t)
  rw [this]
  match z, hz with
  | ⟨[z0, z1, z2, z3]⟩, _ => rfl
set_option maxHeartbeats 2000000 in
theorem hap_rise (w0 : World) (B : Nat) (W : World) (tag : Nat → Nat) (x : NV) (s : St) (t d r : Int) (n i : Nat) (h : Nw w0 B W tag W tag x s) (hd : Bd t n i s) (hi : i < 90) (hn : 2 ≤ n ∧ n ≤ 5) (k a b : Int) (hk : 0 ≤ k ∧ k ≤ 255) (ha : 0 ≤ a ∧ a ≤ 255) (hb : 0 ≤ b ∧ b ≤ 255) (q0 : Nat) (hq : a % (n : Int) = (q0 : Int)) (hkk : k % 6 = 2) (hm : mayt t d r) (hu : s.isup (q0 : Int) = false) : Calls Try.prog 35 #[.agg #[.int .i64 t, .int .i64 d, .int .i64 r, x.c, x.l, x.u, x.v, x.d, x.r, x.g, x.b, .int .u64 s.top, .bool true], .agg #[.int .u8 k, .int .u8 a, .int .u8 b]] W (Pst w0 B W tag t d r n s) := by
  obtain ⟨A1, A2, A3, A4, A5, A6, A7, A8, c1, c2, c3, c4, c5, c6, c7, c8, hx⟩ := h.open
  obtain ⟨raw, vc, vl, vu, vv, vd, vr, vg, vb⟩ := x
  injection hx with hx0 hx1 hx2 hx3 hx4 hx5 hx6 hx7 hx8
  subst hx1 hx2 hx3 hx4 hx5 hx6 hx7 hx8
  clear hx0
  have hu80 := Try.underlying80
  have hu84 := Try.underlying84
  have hu106 := Try.underlying106
  have hu78 := Try.underlying78
  have hlc : n ≤ s.clock.length := Nat.le_of_eq hd.lc.symm
  have hlu : n ≤ s.up.length := Nat.le_of_eq hd.lu.symm
  have hq0n : q0 < n := by have := Int.emod_lt_of_pos a (show (0 : Int) < (n : Int) by omega); omega
  have hqc : a % (s.clock.length : Int) = (q0 : Int) := by rw [hd.lc]; exact hq
  have hcl : (0 : Int) < (s.clock.length : Int) := by omega
  have hcl2 : (s.clock.length : Int) ≤ 5 := by have := hd.lc; omega
  have hck := hd.ck (q0 : Int) ⟨by omega, by omega⟩
  have hbl := hd.bl
  have HH := Lib.hid h
  have HD := Lib.hid hd
  have HQ := Lib.hid hqc
  have HK := Lib.hid hkk
  have HU := Lib.hid hu
  have HM := Lib.hid hm
  clear h hd hq hqc hkk hu hm
  go_enter Try.func35, Try.ntmps35
  go_upto_region 1 with (fail)
  refine wp_gen (fun W1 => Eh w0 B W tag t d r _ s k a b W.heap.size (W.heap.size + 1) (W.heap.size + 2) W1 tag) (Eh.start HH.out t d r k a b) ?_
  intro W1 hE
  generalize W.heap.size + 2 = gs at hE ⊢
  generalize W.heap.size + 1 = gh at hE ⊢
  generalize W.heap.size = gw at hE ⊢
  obtain ⟨gu, cu, eu, _, lu, tu, hu2⟩ := hE.nw.row_u (by omega)
  obtain ⟨y0, y1⟩ := hu2 q0 (by omega)
  injection eu with eu eu2 eu3
  clear eu2
  subst eu eu3
  obtain ⟨z0, z1, z2, z3, z4, z5, z6, z7, z8, z9, z10, z11, z12⟩ := nblk_cells hE.bw
  have h0 : W1.cell? ⟨gh, 0, none⟩ = some (.int .u8 k) := (blk_cell hE.bh 0).trans rfl
  have h1 : W1.cell? ⟨gh, 1, none⟩ = some (.int .u8 a) := (blk_cell hE.bh 1).trans rfl
  have h2 : W1.cell? ⟨gh, 2, none⟩ = some (.int .u8 b) := (blk_cell hE.bh 2).trans rfl
  have HE := Lib.hid hE
  have hq2 : (q0 : Int) < (s.up.length : Int) := by omega
  have hq3 : (q0 : Int) < (s.clock.length : Int) := by omega
  have hq0 : (0 : Int) ≤ (q0 : Int) := by omega
  have hu := HU.out
  unfold St.isup at hu
  simp only [Int.toNat_natCast] at hu
  rw [hu] at y0
  clear hu
  clear hE hu2 z0 z1 z2 z4 z6 z7 z8 z9 z10 z11 z12
  have hkk := HK.out
  have hqc := HQ.out
  have hu38 := Try.underlying38
  have hu52 := Try.underlying52
  have hu23 := Try.underlying23
  go_upto_region 13 with (fail)
  clear y0 y1 hkk z3 z5 h0 h1 h2
  generalize a % (s.clock.length : Int) = q9 at hqc ⊢
  subst hqc
  obtain ⟨gv, cv, ev, _, lv, tv, hv⟩ := HE.out.nw.row_v (show 0 < s.votes.length by rw [HD.out.lv]; omega)
  obtain ⟨gc, cc, ec, _, lc, tc, hc⟩ := HE.out.nw.row_c (show 0 < s.clock.length by omega)
  obtain ⟨gd, cd, ed, _, ld, td, hd9⟩ := HE.out.nw.row_d (show 0 < s.leads.length by rw [HD.out.lld]; omega)
  obtain ⟨⟨v0, v1, v2, v3⟩, vf⟩ := hv q0 (by rw [HD.out.lv]; omega)
  injection ev with ev ev2 ev3
  injection ec with ec ec2 ec3
  injection ed with ed ed2 ed3
  clear ev2 ec2 ed2
  subst ev ev3 ec ec3 ed ed3
  have evo : s.votes.getD q0 z38 = s.vo (q0 : Int) := by unfold St.vo; rw [Int.toNat_natCast]
  rw [evo] at v0 v1
  obtain ⟨hvo1, _⟩ := HD.out.vo (q0 : Int) ⟨by omega, by omega⟩
  obtain ⟨V, hV⟩ : ∃ V, V = s.vo (q0 : Int) := ⟨_, rfl⟩
  rw [← hV] at v0 v1 hvo1
  have HVV := Lib.hid hV
  clear hV evo
  obtain ⟨E0, To, V2, V3⟩ := V
  simp only at v0 v1 hvo1
  have HR := Lib.hid (restart_eq (E0 := E0) HM.out (show To = -1 ∨ (0 ≤ To ∧ To < 64) by unfold isn at hvo1; omega))
  obtain ⟨z0, z1, z2, z3, z4, z5, z6, z7, z8, z9, z10, z11, z12⟩ := nblk_cells HE.out.bw
  have lw := blk_lt HE.out.bw
  have gwn0 : W1.heap.size ≠ gw := by omega
  have gwn1 : gw ≠ W1.heap.size := by omega
  have gvn0 : W1.heap.size ≠ gv := by omega
  have gvn1 : gv ≠ W1.heap.size := by omega
  have gs1 : W1.heap.size < W1.heap.size + 1 := by omega
  have gw1 : gw < W1.heap.size + 1 := by omega
  have gv1 : gv < W1.heap.size + 1 := by omega
  have hq5 : (q0 : Int) < (s.votes.length : Int) := by rw [HD.out.lv]; omega
  have hq6 : (q0 : Int) < (s.leads.length : Int) := by rw [HD.out.lld]; omega
  clear v2 v3 vf hv hc hd9 hvo1 z3 z4 z5 z7 z8 z9 z10 z11 z12 hbl hck
  go_cut [6, 7] (fun s6 s7 wx => s7 = .int .i64 0 ∧ ∃ gb : Nat, s6 = .pointer (some ⟨gb, 0, none⟩) ∧ W1.heap.size ≤ gb ∧ Below W1.heap.size W1 wx ∧ wx.heap[gb]? = some (.cells #[.int .u64 E0, .int .i64 To, .int .i64 0, .int .i64 t] 38 (0, 0)))
  case first =>
    go_region_held3 (fun w' => w'.cell? ⟨gw, 0, none⟩ = some (.int .i64 t) ∧ w'.cell? ⟨gw, 1, none⟩ = some (.int .i64 d) ∧ w'.cell? ⟨gw, 2, none⟩ = some (.int .i64 r) ∧ w'.cell? ⟨gw, 6, none⟩ = some (.slice (some ⟨gv, 0, none⟩) s.votes.length c4) ∧ w'.cell? ⟨gv, q0 * 4, none⟩ = some (.int .u64 E0) ∧ w'.cell? ⟨gv, q0 * 4 + 1, none⟩ = some (.int .i64 To)) (go_keep)
      (first | (go_at_call 41
                refine (vote_Restart.calls t d r E0 To 0 E0 To 0 t 0 _ HR.out).mono ?_
                rintro e w1 ⟨rfl, hb⟩
                have hbT : Below W1.heap.size W1 w1 := by first | exact (below_drew (Below.refl _ _)).trans (hb.mono (by simp)) | exact (below_drew (below_alloc (Below.refl _ _) _)).trans (hb.mono (by simp)) | exact (below_alloc (below_drew (Below.refl _ _)) _).trans (hb.mono (by simp))
                have k0 := ((bcell hbT).1 gw 0 lw).trans z0
                have k1 := ((bcell hbT).1 gw 1 lw).trans z1
                have k2 := ((bcell hbT).1 gw 2 lw).trans z2
                have k3 := ((bcell hbT).1 gw 6 lw).trans z6
                have k4 := ((bcell hbT).1 gv (q0 * 4) lv).trans v0
                have k5 := ((bcell hbT).1 gv (q0 * 4 + 1) lv).trans v1
                obtain ⟨hcc, hff⟩ := bcell hb
                have HB2 := Lib.hid hb
                have HBT := Lib.hid hbT
                have hbz := hbT.size
                clear hbT hb))
    all_goals (go_wp2; go_meet; case rel => first | exact ⟨rfl, _, rfl, HBT.out.size, below_alloc HBT.out _, blk_new _ _⟩ | exact ⟨rfl, _, rfl, early38 (Wa := W1) rfl rfl HB2.out⟩)
  case rest =>
    obtain ⟨rfl, gb, rfl, hgb, hbx, hblk⟩ := hcut
    clear v0 v1 z0 z1 z2 z6 gwn0 gwn1 gvn0 gvn1 gs1 gw1 gv1
    have HX := Lib.hid (HE.out.below hbx)
    have HTB := Lib.hid (HE.out.nw.fresh gb hgb)
    have HSB := Lib.hid (Nat.le_trans HE.out.nw.size hgb)
    have HBK := Lib.hid hblk
    clear hbx hblk
    obtain ⟨z0, z1, z2, z3, z4, z5, z6, z7, z8, z9, z10, z11, z12⟩ := nblk_cells HX.out.bw
    have hnew : lead_New.f (s.clock.length : Int) = some (0, none_ n, 0) := (by rw [HD.out.lc]; exact lnew_eq n (by omega) (by omega))
    have HNW := Lib.hid hnew
    clear hnew z0 z1 z2 z4 z5 z6 z7 z8 z9 z10 z11 z12
    go_upto_region 15 with (first | (go_at_call 25; refine (lead_New.calls _ _ _ _ _ HNW.out).mono ?_; rintro e w1 ⟨vr, rfl, hr, hb⟩; obtain ⟨Ar, cr, hvr⟩ := Kd.R_slice hr; rw [none_length] at hvr; subst hvr; have HB3 := Lib.hid hb; have HR3 := Lib.hid hr; clear hb hr))
    have tb : ri tag wc.heap.size w1.heap.size 9 gb = 0 := by
      unfold ri
      rw [if_neg (fun q => by have := blk_lt HBK.out; omega)]
      exact HTB.out
    have tl : ri tag wc.heap.size w1.heap.size 9 w1.heap.size = 0 := by
      unfold ri
      rw [if_neg (by omega)]
      exact HX.out.nw.fresh _ HB3.out.size
    have hlb : gb ≠ w1.heap.size := by have := blk_lt HBK.out; have := HB3.out.size; omega
    have hwl : W.heap.size ≤ w1.heap.size := Nat.le_trans HX.out.nw.size HB3.out.size
    have hwlt : gw < w1.heap.size := Nat.lt_of_lt_of_le (blk_lt HX.out.bw) HB3.out.size
    have hwb : gw ≠ gb := fun e => by have := HSB.out; omega
    refine wp_gen (fun W4 => Eh w0 B W tag t d r ⟨raw, .slice (some ⟨gc, 0, none⟩) s.clock.length c1, .slice A2 s.life.length c2, .slice (some ⟨gu, 0, none⟩) s.up.length c3, .slice (some ⟨gv, 0, none⟩) s.votes.length c4, .slice (some ⟨gd, 0, none⟩) s.leads.length c5, .slice A6 s.reqs.length c6, .slice A7 s.grs.length c7, .slice A8 s.beats.length c8⟩ s k a b gw gh gs W4 (ri tag wc.heap.size w1.heap.size 9) ∧ W4.heap[gb]? = some (.cells #[.int .u64 E0, .int .i64 To, .int .i64 0, .int .i64 t] 38 (0, 0)) ∧ W4.heap[w1.heap.size]? = some (.cells #[.int .u64 0, .slice Ar n cr] 52 (0, 0)) ∧ Kd.V (Kd.int .i64) 2 W4 B (fun k => ri tag wc.heap.size w1.heap.size 9 k = 9) (.slice Ar n cr) (none_ n)) ⟨(HX.out.called HB3.out).below (below_alloc (Below.refl _ _) _), blk_below (blk_below HBK.out HB3.out) (below_alloc (Below.refl _ _) _), blk_new w1 _, Kd.V_alloc (called_V (Kd.R_V (Kd.R_reok rfl HR3.out (fun k hk => .inr (Kd.R_base HR3.out k hk))))) _⟩ ?_
    rintro W4 ⟨hx, hbk, hlk, hv⟩
    generalize ri tag wc.heap.size w1.heap.size 9 = tg at tb tl hx hv
    generalize w1.heap.size = gl at tl hlb hwl hwlt hlk ⊢
    clear z3
    obtain ⟨z0, z1, z2, z3, z4, z5, z6, z7, z8, z9, z10, z11, z12⟩ := nblk_cells hx.bw
    have zf := blk_frozen hx.bw 12
    have HX4 := Lib.hid hx
    have HBK4 := Lib.hid hbk
    have HLK4 := Lib.hid hlk
    have HV4 := Lib.hid hv
    have HTS := Lib.hid (And.intro tb tl)
    clear hx hbk hlk hv tb tl z0 z1 z2 z3 z4 z5 z6 z7 z8 z9 z10 z11
    go_upto_region 16 with (fail)
    refine wp_gen (fun W5 => Eh w0 B W tag t d r ⟨raw, .slice (some ⟨gc, 0, none⟩) s.clock.length c1, .slice A2 s.life.length c2, .slice (some ⟨gu, 0, none⟩) s.up.length c3, .slice (some ⟨gv, 0, none⟩) s.votes.length c4, .slice (some ⟨gd, 0, none⟩) s.leads.length c5, .slice A6 s.reqs.length c6, .slice A7 s.grs.length c7, .slice A8 s.beats.length c8⟩ s k a b gw gh gs W5 tg ∧ W5.heap[gb]? = some (.cells #[.int .u64 E0, .int .i64 To, .int .i64 0, .int .i64 t] 38 (0, 0)) ∧ W5.heap[gl]? = some (.cells #[.int .u64 0, .slice Ar n cr] 52 (0, 0)) ∧ Kd.V (Kd.int .i64) 2 W5 B (fun k => tg k = 9) (.slice Ar n cr) (none_ n)) ⟨HX4.out.ok12, blk_far HBK4.out (fun e => hwb e.symm) _, blk_far HLK4.out (fun e => absurd (show gl = gw from e) (by omega)) _, Kd.V_far (p := ⟨gw, 12, none⟩) HV4.out (fun k hk e => by rw [show k = gw from e, HX4.out.tw] at hk; cases hk) _⟩ ?_
    rintro W5 ⟨hx, hbk, hlk, hv⟩
    clear z12 zf
    obtain ⟨z0, z1, z2, z3, z4, z5, z6, z7, z8, z9, z10, z11, z12⟩ := nblk_cells hx.bw
    have b0 : W5.cell? ⟨gb, 0, none⟩ = some (.int .u64 E0) := (blk_cell hbk 0).trans rfl
    have b1 : W5.cell? ⟨gb, 1, none⟩ = some (.int .i64 To) := (blk_cell hbk 1).trans rfl
    have b2 : W5.cell? ⟨gb, 2, none⟩ = some (.int .i64 0) := (blk_cell hbk 2).trans rfl
    have b3 : W5.cell? ⟨gb, 3, none⟩ = some (.int .i64 t) := (blk_cell hbk 3).trans rfl
    have l0 : W5.cell? ⟨gl, 0, none⟩ = some (.int .u64 0) := (blk_cell hlk 0).trans rfl
    have l1 : W5.cell? ⟨gl, 1, none⟩ = some (.slice Ar n cr) := (blk_cell hlk 1).trans rfl
    obtain ⟨_, _, eu, _, _, tu, hu5⟩ := hx.nw.row_u (show 0 < s.up.length by omega)
    obtain ⟨_, _, ec, _, _, tc, hc5⟩ := hx.nw.row_c (show 0 < s.clock.length by omega)
    obtain ⟨_, _, ev, _, _, tv, hv5⟩ := hx.nw.row_v (show 0 < s.votes.length by omega)
    obtain ⟨_, _, ed, _, _, td, hd5⟩ := hx.nw.row_d (show 0 < s.leads.length by omega)
    injection eu with eu eu2 eu3
    injection ec with ec ec2 ec3
    injection ev with ev ev2 ev3
    injection ed with ed ed2 ed3
    injection eu with eu
    injection ec with ec
    injection ev with ev
    injection ed with ed
    injection eu with eu
    injection ec with ec
    injection ev with ev
    injection ed with ed
    clear eu2 ec2 ev2 ed2
    subst eu ec ev ed eu3 ec3 ev3 ed3
    obtain ⟨p0, p1⟩ := hu5 q0 (by omega)
    obtain ⟨p2, p3⟩ := hc5 q0 (by omega)
    obtain ⟨⟨p4, p5, p6, p7⟩, p8⟩ := hv5 q0 (by omega)
    obtain ⟨_, _, ⟨p9, p10⟩, _, p11⟩ := hd5 q0 (by omega)
    have f0 := p8 0
    have f1 := p8 1
    have f2 := p8 2
    have f3 := p8 3
    have f4 := p11 0
    have f5 := p11 1
    rw [Nat.add_zero] at f0 f4
    obtain ⟨tb, tl⟩ := HTS.out
    have ne : ∀ (i m : Nat) {q g : Nat}, tg q = i → tg g = m → i ≠ m → q ≠ g := fun i m q g hq hg hn e => hn (by rw [← hq, ← hg, e])
    have n1 := ne 3 0 tu hx.tw (by decide)
    have n2 := ne 1 0 tc hx.tw (by decide)
    have n3 := ne 4 0 tv hx.tw (by decide)
    have n4 := ne 5 0 td hx.tw (by decide)
    have n5 := ne 3 0 tu tb (by decide)
    have n6 := ne 1 0 tc tb (by decide)
    have n7 := ne 4 0 tv tb (by decide)
    have n8 := ne 5 0 td tb (by decide)
    have n9 := ne 3 0 tu tl (by decide)
    have n10 := ne 1 0 tc tl (by decide)
    have n11 := ne 4 0 tv tl (by decide)
    have n12 := ne 5 0 td tl (by decide)
    have m1 := ne 3 1 tu tc (by decide)
    have m2 := ne 3 4 tu tv (by decide)
    have m3 := ne 3 5 tu td (by decide)
    have m4 := ne 1 4 tc tv (by decide)
    have m5 := ne 1 5 tc td (by decide)
    have m6 := ne 4 5 tv td (by decide)
    have HX5 := Lib.hid hx
    have HV5 := Lib.hid hv
    clear hx hv hbk hlk hu5 hc5 hv5 hd5 p8 p11 tu tc tv td tb tl ne z0 z1 z2 z4 z8 z9 z10 z11 z12
    go_region_held3 (fun w' => w'.cell? ⟨gw, 3, none⟩ = some (.slice (some ⟨gc, 0, none⟩) s.clock.length c1) ∧ w'.cell? ⟨gw, 5, none⟩ = some (.slice (some ⟨gu, 0, none⟩) s.up.length c3) ∧ w'.cell? ⟨gw, 6, none⟩ = some (.slice (some ⟨gv, 0, none⟩) s.votes.length c4) ∧ w'.cell? ⟨gw, 7, none⟩ = some (.slice (some ⟨gd, 0, none⟩) s.leads.length c5) ∧ w'.cell? ⟨gb, 0, none⟩ = some (.int .u64 E0) ∧ w'.cell? ⟨gb, 1, none⟩ = some (.int .i64 To) ∧ w'.cell? ⟨gb, 2, none⟩ = some (.int .i64 0) ∧ w'.cell? ⟨gb, 3, none⟩ = some (.int .i64 t) ∧ w'.cell? ⟨gl, 0, none⟩ = some (.int .u64 0) ∧ w'.cell? ⟨gl, 1, none⟩ = some (.slice Ar n cr)) (go_keep) (fail)
    go_upto_region 17 with (fail)
    refine wp_gen (fun W6 => Eh w0 B W tag t d r ⟨raw.set q0 (0, Ar, n, cr), .slice (some ⟨gc, 0, none⟩) s.clock.length c1, .slice A2 s.life.length c2, .slice (some ⟨gu, 0, none⟩) s.up.length c3, .slice (some ⟨gv, 0, none⟩) s.votes.length c4, .slice (some ⟨gd, 0, none⟩) s.leads.length c5, .slice A6 s.reqs.length c6, .slice A7 s.grs.length c7, .slice A8 s.beats.length c8⟩ { s with up := s.up.set q0 true, clock := s.clock.set q0 0, votes := s.votes.set q0 ⟨E0, To, 0, t⟩, leads := s.leads.set q0 ⟨0, none_ n⟩ } k a b gw gh gs W6 tg) ((HX5.out.put4 rfl rfl rfl rfl q0 (by omega) (by omega) ⟨E0, To, 0, t⟩ 0 HV5.out).below (below_drew (Below.refl _ _))) ?_
    intro W6 hx
    clear b0 b1 b2 b3 l0 l1 p0 p1 p2 p3 p4 p5 p6 p7 p9 p10 f0 f1 f2 f3 f4 f5 n1 n2 n3 n4 n5 n6 n7 n8 n9 n10 n11 n12 m1 m2 m3 m4 m5 m6 z3 z5 z6 z7
    obtain ⟨gf, cf, el, _, lf, tf, hl6⟩ := hx.nw.row_l (show 0 < s.life.length by rw [HD.out.ll]; omega)
    injection el with el el2 el3
    clear el2
    subst el el3
    obtain ⟨c0_, c1_⟩ := hl6 q0 (show q0 < s.life.length by rw [HD.out.ll]; omega)
    have elf : s.life.getD q0 0 = s.lf (q0 : Int) := by unfold St.lf; rw [Int.toNat_natCast]
    dsimp only at c0_
    rw [elf] at c0_
    have hlf := HD.out.lf (q0 : Int) ⟨by omega, by omega⟩
    have hq7 : (q0 : Int) < (s.life.length : Int) := by rw [HD.out.ll]; omega
    obtain ⟨vL, hvL⟩ : ∃ y, y = s.lf (q0 : Int) := ⟨_, rfl⟩
    rw [← hvL] at c0_ hlf
    have HVL := Lib.hid hvL
    obtain ⟨z0, z1, z2, z3, z4, z5, z6, z7, z8, z9, z10, z11, z12⟩ := nblk_cells hx.bw
    have HN6 := Lib.hid (hx.set1 (hx.nw.set_l rfl q0 (vL + 1)) (by rw [tf]; decide) rfl)
    clear hx hl6 elf hvL tf z0 z1 z2 z3 z5 z6 z7 z8 z9 z10 z11 z12
    go_upto_region 18 with (fail)
    refine wp_gen (fun W7 => Eh w0 B W tag t d r ⟨raw.set q0 (0, Ar, n, cr), .slice (some ⟨gc, 0, none⟩) s.clock.length c1, .slice (some ⟨gf, 0, none⟩) s.life.length c2, .slice (some ⟨gu, 0, none⟩) s.up.length c3, .slice (some ⟨gv, 0, none⟩) s.votes.length c4, .slice (some ⟨gd, 0, none⟩) s.leads.length c5, .slice A6 s.reqs.length c6, .slice A7 s.grs.length c7, .slice A8 s.beats.length c8⟩ { s with up := s.up.set q0 true, clock := s.clock.set q0 0, votes := s.votes.set q0 ⟨E0, To, 0, t⟩, leads := s.leads.set q0 ⟨0, none_ n⟩, life := s.life.set q0 (vL + 1) } k a b gw gh gs W7 tg) HN6.out ?_
    intro W2 hM
    clear c0_ c1_ z4
    obtain ⟨z0, z1, z2, z3, z4, z5, z6, z7, z8, z9, z10, z11, z12⟩ := nblk_cells hM.bw
    have hbl := HD.out.bl
    have HM2 := Lib.hid hM
    clear hM z0 z1 z2 z3 z4 z5 z6 z7 z8 z9 z11 z12
    go_upto_region 26 with (first | ((with_reducible refine gate_builtin (b := .append) (xs := #[.tmp 129, .tmp 132]) rfl ?_); at_builtin; refine Kd.R_append k106 (w0 := w0) (W := W2) B rfl (.tmp 129) (.tmp 132) 78 106 (.agg #[.int .i64 0, .int .i64 0]) 16 rfl Try.underlying78 info106 rfl (by decide) (by omega) (.slice A8 s.beats.length c8) s.beats ⟨(q0 : Int), 2⟩ [.int .i64 (q0 : Int), .int .i64 2] (fun k => tg k = 8 ∨ W2.heap.size ≤ k) (fun _ => False) rfl rfl (k106_mkM _ _ _ ⟨(q0 : Int), 2⟩) (fun _ hk => hk.elim) (fun k hk => .inr hk) (Kd.R_mono HM2.out.nw.b (fun k hk => .inl hk)) HM2.out.nw.bel HM2.out.nw.base (by omega) ?_; intro vn wn hR hBn hG hat; obtain ⟨An, cn, hvn⟩ := Kd.R_slice hR; rw [List.length_append, List.length_singleton] at hvn; subst hvn; obtain ⟨⟨hc9, hf9⟩, hF⟩ := HM2.out.beat hR hBn hG; have HF := Lib.hid hF; clear hF hR hBn hG hat))
    all_goals
      obtain ⟨h6, hbw, hbs, ht6⟩ := HF.out
      have e6 : { s with up := s.up.set q0 true, clock := s.clock.set q0 0, votes := s.votes.set q0 ⟨E0, To, 0, t⟩, leads := s.leads.set q0 ⟨0, none_ n⟩, life := s.life.set q0 (vL + 1), beats := s.beats ++ [⟨(q0 : Int), 2⟩] } = s.rise t n (q0 : Int) := by
        unfold St.rise
        rw [Int.toNat_natCast, ← HVV.out, HVL.out]
      rw [e6] at h6
      have H6 := Lib.hid h6
      have HBW := Lib.hid hbw
      have HBS := Lib.hid hbs
      have HT6 := Lib.hid ht6
      clear h6 hbw hbs ht6 e6
      refine reg_ret4 173 (gw := gw) (gs := gs) (by rfl) (by rfl) (by rfl) (by rfl) (by rfl) (by rfl) (by rfl) (by rfl) (by rfl) HBW.out HBS.out (by rfl) (by rfl) (by simp [Value.oneCell']) ?_
      go_wp2
      exact fin_ret4 (by rfl) (by rfl) (by rfl) HBS.out (.rise _ ⟨by omega, by omega⟩ HU.out) H6.out HT6.out HE.out.s_ (Nat.le_trans HE.out.b0 HE.out.s_)
set_option maxHeartbeats 2000000 in
theorem hap_ask (w0 : World) (B : Nat) (W : World) (tag : Nat → Nat) (x : NV) (s : St) (t d r : Int) (n i : Nat) (h : Nw w0 B W tag W tag x s) (hd : Bd t n i s) (hi : i < 90) (hn : 2 ≤ n ∧ n ≤ 5) (k a b : Int) (hk : 0 ≤ k ∧ k ≤ 255) (ha : 0 ≤ a ∧ a ≤ 255) (hb : 0 ≤ b ∧ b ≤ 255) (q0 : Nat) (hq : a % (n : Int) = (q0 : Int)) (hkk : k % 6 = 3) (hu : s.isup (q0 : Int) = true) : Calls Try.prog 35 #[.agg #[.int .i64 t, .int .i64 d, .int .i64 r, x.c, x.l, x.u, x.v, x.d, x.r, x.g, x.b, .int .u64 s.top, .bool true], .agg #[.int .u8 k, .int .u8 a, .int .u8 b]] W (Pst w0 B W tag t d r n s) := by
  obtain ⟨A1, A2, A3, A4, A5, A6, A7, A8, c1, c2, c3, c4, c5, c6, c7, c8, hx⟩ := h.open
  obtain ⟨raw, vc, vl, vu, vv, vd, vr, vg, vb⟩ := x
  injection hx with hx0 hx1 hx2 hx3 hx4 hx5 hx6 hx7 hx8
  subst hx1 hx2 hx3 hx4 hx5 hx6 hx7 hx8
  clear hx0
  have hu80 := Try.underlying80
  have hu84 := Try.underlying84
  have hu106 := Try.underlying106
  have hu78 := Try.underlying78
  have hlc : n ≤ s.clock.length := Nat.le_of_eq hd.lc.symm
  have hlu : n ≤ s.up.length := Nat.le_of_eq hd.lu.symm
  have hq0n : q0 < n := by have := Int.emod_lt_of_pos a (show (0 : Int) < (n : Int) by omega); omega
  have hqc : a % (s.clock.length : Int) = (q0 : Int) := by rw [hd.lc]; exact hq
  have hcl : (0 : Int) < (s.clock.length : Int) := by omega
  have hcl2 : (s.clock.length : Int) ≤ 5 := by have := hd.lc; omega
  have hck := hd.ck (q0 : Int) ⟨by omega, by omega⟩
  have hbl := hd.bl
  have HH := Lib.hid h
  have HD := Lib.hid hd
  have HQ := Lib.hid hqc
  have HK := Lib.hid hkk
  have HU := Lib.hid hu
  clear h hd hq hqc hkk hu
  go_enter Try.func35, Try.ntmps35
  go_upto_region 1 with (fail)
  refine wp_gen (fun W1 => Eh w0 B W tag t d r _ s k a b W.heap.size (W.heap.size + 1) (W.heap.size + 2) W1 tag) (Eh.start HH.out t d r k a b) ?_
  intro W1 hE
  generalize W.heap.size + 2 = gs at hE ⊢
  generalize W.heap.size + 1 = gh at hE ⊢
  generalize W.heap.size = gw at hE ⊢
  obtain ⟨gu, cu, eu, _, lu, tu, hu2⟩ := hE.nw.row_u (by omega)
  obtain ⟨y0, y1⟩ := hu2 q0 (by omega)
  injection eu with eu eu2 eu3
  clear eu2
  subst eu eu3
  obtain ⟨z0, z1, z2, z3, z4, z5, z6, z7, z8, z9, z10, z11, z12⟩ := nblk_cells hE.bw
  have h0 : W1.cell? ⟨gh, 0, none⟩ = some (.int .u8 k) := (blk_cell hE.bh 0).trans rfl
  have h1 : W1.cell? ⟨gh, 1, none⟩ = some (.int .u8 a) := (blk_cell hE.bh 1).trans rfl
  have h2 : W1.cell? ⟨gh, 2, none⟩ = some (.int .u8 b) := (blk_cell hE.bh 2).trans rfl
  have HE := Lib.hid hE
  have hq2 : (q0 : Int) < (s.up.length : Int) := by omega
  have hq3 : (q0 : Int) < (s.clock.length : Int) := by omega
  have hq0 : (0 : Int) ≤ (q0 : Int) := by omega
  have hu := HU.out
  unfold St.isup at hu
  simp only [Int.toNat_natCast] at hu
  rw [hu] at y0
  clear hu
  clear hE hu2 z0 z1 z2 z4 z6 z7 z8 z9 z10 z11 z12
  have hkk := HK.out
  have hqc := HQ.out
  go_upto_region 21 with (fail)
  apply wp_region_lit
  refine wpList_load_row (by rfl) 80 (.tmp 2) (by rfl) gw (by rfl) 80 _ (0, 0) _ HE.out.bw Try.underlying80 rfl info80s ?_
  clear y0 y1 z3 z5
  go_upto_region 26 with (first | (go_at_call 60; refine (asks_any w0 B W1 tag _ s t d r n i HE.out.nw.anew HD.out hi hn q0 (by omega) HU.out _).mono ?_; rintro e w' ⟨x', tag', s', hst, rfl, hN⟩; obtain ⟨B1, B2, B3, B4, B5, B6, B7, B8, d1, d2, d3, d4, d5, d6, d7, d8, hx'⟩ := hN.open; obtain ⟨raw', vc', vl', vu', vv', vd', vr', vg', vb'⟩ := x'; injection hx' with k0 k1 k2 k3 k4 k5 k6 k7 k8; subst k1 k2 k3 k4 k5 k6 k7 k8; clear k0; have HGW := Lib.hid ((hN.kp gw (blk_lt HE.out.bw) HE.out.tw).trans HE.out.bw); have HGS := Lib.hid ((hN.kp gs (blk_lt HE.out.bs) HE.out.ts).trans HE.out.bs); have HN := Lib.hid hN; have HST := Lib.hid hst; clear hN hst) | (refine wpList_store_row (by rfl) 80 (.tmp 2) (.tmp 148) (by rfl) gw #[.int .i64 t, .int .i64 d, .int .i64 r, .slice B1 s'.clock.length d1, .slice B2 s'.life.length d2, .slice B3 s'.up.length d3, .slice B4 s'.votes.length d4, .slice B5 s'.leads.length d5, .slice B6 s'.reqs.length d6, .slice B7 s'.grs.length d7, .slice B8 s'.beats.length d8, .int .u64 s'.top, .bool true] (by rfl) (by rfl) 80 _ HGW.out info80s (by rfl) (by simp [Value.oneCell']) ?_))
  have HL := Lib.hid ((HN.out.tg gw (blk_lt HE.out.bw)).trans HE.out.tw)
  have HLS := Lib.hid ((HN.out.tg gs (blk_lt HE.out.bs)).trans HE.out.ts)
  refine reg_ret4 173 (gw := gw) (gs := gs) (by rfl) (by rfl) (by rfl) (by rfl) (by rfl) (by rfl) (by rfl) (by rfl) (by rfl) (setRow_heap _ gw _ _ 80 (0, 0) HGW.out) ((setRow_other _ gw gs _ (fun e => HE.out.ne e.symm)).trans HGS.out) (by rfl) (by rfl) (by simp [Value.oneCell']) ?_
  go_wp2
  exact fin_ret4 (by rfl) (by rfl) (by rfl) ((setRow_other _ gw gs _ (fun e => HE.out.ne e.symm)).trans HGS.out) HST.out ((HE.out.nw.back HN.out).setRow HL.out HE.out.w (Nat.le_trans HE.out.b0 HE.out.w) _) HLS.out HE.out.s_ (Nat.le_trans HE.out.b0 HE.out.s_)
set_option maxHeartbeats 2000000 in
theorem hap_come4 (w0 : World) (B : Nat) (W : World) (tag : Nat → Nat) (x : NV) (s : St) (t d r : Int) (n i : Nat) (h : Nw w0 B W tag W tag x s) (hd : Bd t n i s) (hi : i < 90) (hn : 2 ≤ n ∧ n ≤ 5) (k a b : Int) (hk : 0 ≤ k ∧ k ≤ 255) (ha : 0 ≤ a ∧ a ≤ 255) (hb : 0 ≤ b ∧ b ≤ 255) (q0 : Nat) (hq : a % (n : Int) = (q0 : Int)) (hkk : k % 6 = 4) (hm : mayt t d r) : Calls Try.prog 35 #[.agg #[.int .i64 t, .int .i64 d, .int .i64 r, x.c, x.l, x.u, x.v, x.d, x.r, x.g, x.b, .int .u64 s.top, .bool true], .agg #[.int .u8 k, .int .u8 a, .int .u8 b]] W (Pst w0 B W tag t d r n s) := by
  obtain ⟨A1, A2, A3, A4, A5, A6, A7, A8, c1, c2, c3, c4, c5, c6, c7, c8, hx⟩ := h.open
  obtain ⟨raw, vc, vl, vu, vv, vd, vr, vg, vb⟩ := x
  injection hx with hx0 hx1 hx2 hx3 hx4 hx5 hx6 hx7 hx8
  subst hx1 hx2 hx3 hx4 hx5 hx6 hx7 hx8
  clear hx0
  have hu80 := Try.underlying80
  have hu84 := Try.underlying84
  have hu106 := Try.underlying106
  have hu78 := Try.underlying78
  have hlc : n ≤ s.clock.length := Nat.le_of_eq hd.lc.symm
  have hlu : n ≤ s.up.length := Nat.le_of_eq hd.lu.symm
  have hq0n : q0 < n := by have := Int.emod_lt_of_pos a (show (0 : Int) < (n : Int) by omega); omega
  have hqc : a % (s.clock.length : Int) = (q0 : Int) := by rw [hd.lc]; exact hq
  have hcl : (0 : Int) < (s.clock.length : Int) := by omega
  have hcl2 : (s.clock.length : Int) ≤ 5 := by have := hd.lc; omega
  have hck := hd.ck (q0 : Int) ⟨by omega, by omega⟩
  have hbl := hd.bl
  have HH := Lib.hid h
  have HD := Lib.hid hd
  have HQ := Lib.hid hqc
  have HK := Lib.hid hkk
  have HM := Lib.hid hm
  clear h hd hq hqc hkk hm
  go_enter Try.func35, Try.ntmps35
  go_upto_region 1 with (fail)
  refine wp_gen (fun W1 => Eh w0 B W tag t d r _ s k a b W.heap.size (W.heap.size + 1) (W.heap.size + 2) W1 tag) (Eh.start HH.out t d r k a b) ?_
  intro W1 hE
  generalize W.heap.size + 2 = gs at hE ⊢
  generalize W.heap.size + 1 = gh at hE ⊢
  generalize W.heap.size = gw at hE ⊢
  obtain ⟨gu, cu, eu, _, lu, tu, hu2⟩ := hE.nw.row_u (by omega)
  obtain ⟨y0, y1⟩ := hu2 q0 (by omega)
  injection eu with eu eu2 eu3
  clear eu2
  subst eu eu3
  obtain ⟨z0, z1, z2, z3, z4, z5, z6, z7, z8, z9, z10, z11, z12⟩ := nblk_cells hE.bw
  have h0 : W1.cell? ⟨gh, 0, none⟩ = some (.int .u8 k) := (blk_cell hE.bh 0).trans rfl
  have h1 : W1.cell? ⟨gh, 1, none⟩ = some (.int .u8 a) := (blk_cell hE.bh 1).trans rfl
  have h2 : W1.cell? ⟨gh, 2, none⟩ = some (.int .u8 b) := (blk_cell hE.bh 2).trans rfl
  have HE := Lib.hid hE
  have hq2 : (q0 : Int) < (s.up.length : Int) := by omega
  have hq3 : (q0 : Int) < (s.clock.length : Int) := by omega
  have hq0 : (0 : Int) ≤ (q0 : Int) := by omega
  clear hE hu2 z0 z1 z2 z4 z6 z7 z8 z9 z10 z11 z12
  have hkk := HK.out
  have hqc := HQ.out
  go_upto_region 23 with (fail)
  apply wp_region_lit
  refine wpList_load_row (by rfl) 80 (.tmp 2) (by rfl) gw (by rfl) 80 _ (0, 0) _ HE.out.bw Try.underlying80 rfl info80s ?_
  clear y0 y1 z3 z5
  go_upto_region 26 with (first | (go_at_call 61; refine (comes_any w0 B W1 tag _ s t d r n i HE.out.nw.anew HD.out hi hn HM.out (a * 256 + b) (by omega) true).mono ?_; rintro e w' ⟨x', tag', s', hst, rfl, hN⟩; obtain ⟨B1, B2, B3, B4, B5, B6, B7, B8, d1, d2, d3, d4, d5, d6, d7, d8, hx'⟩ := hN.open; obtain ⟨raw', vc', vl', vu', vv', vd', vr', vg', vb'⟩ := x'; injection hx' with k0 k1 k2 k3 k4 k5 k6 k7 k8; subst k1 k2 k3 k4 k5 k6 k7 k8; clear k0; have HGW := Lib.hid ((hN.kp gw (blk_lt HE.out.bw) HE.out.tw).trans HE.out.bw); have HGS := Lib.hid ((hN.kp gs (blk_lt HE.out.bs) HE.out.ts).trans HE.out.bs); have HN := Lib.hid hN; have HST := Lib.hid hst; clear hN hst) | (refine wpList_store_row (by rfl) 80 (.tmp 2) (.tmp 160) (by rfl) gw #[.int .i64 t, .int .i64 d, .int .i64 r, .slice B1 s'.clock.length d1, .slice B2 s'.life.length d2, .slice B3 s'.up.length d3, .slice B4 s'.votes.length d4, .slice B5 s'.leads.length d5, .slice B6 s'.reqs.length d6, .slice B7 s'.grs.length d7, .slice B8 s'.beats.length d8, .int .u64 s'.top, .bool true] (by rfl) (by rfl) 80 _ HGW.out info80s (by rfl) (by simp [Value.oneCell']) ?_))
  have HL := Lib.hid ((HN.out.tg gw (blk_lt HE.out.bw)).trans HE.out.tw)
  have HLS := Lib.hid ((HN.out.tg gs (blk_lt HE.out.bs)).trans HE.out.ts)
  refine reg_ret4 173 (gw := gw) (gs := gs) (by rfl) (by rfl) (by rfl) (by rfl) (by rfl) (by rfl) (by rfl) (by rfl) (by rfl) (setRow_heap _ gw _ _ 80 (0, 0) HGW.out) ((setRow_other _ gw gs _ (fun e => HE.out.ne e.symm)).trans HGS.out) (by rfl) (by rfl) (by simp [Value.oneCell']) ?_
  go_wp2
  exact fin_ret4 (by rfl) (by rfl) (by rfl) ((setRow_other _ gw gs _ (fun e => HE.out.ne e.symm)).trans HGS.out) HST.out ((HE.out.nw.back HN.out).setRow HL.out HE.out.w (Nat.le_trans HE.out.b0 HE.out.w) _) HLS.out HE.out.s_ (Nat.le_trans HE.out.b0 HE.out.s_)
set_option maxHeartbeats 2000000 in
theorem hap_come5 (w0 : World) (B : Nat) (W : World) (tag : Nat → Nat) (x : NV) (s : St) (t d r : Int) (n i : Nat) (h : Nw w0 B W tag W tag x s) (hd : Bd t n i s) (hi : i < 90) (hn : 2 ≤ n ∧ n ≤ 5) (k a b : Int) (hk : 0 ≤ k ∧ k ≤ 255) (ha : 0 ≤ a ∧ a ≤ 255) (hb : 0 ≤ b ∧ b ≤ 255) (q0 : Nat) (hq : a % (n : Int) = (q0 : Int)) (hkk : k % 6 = 5) (hm : mayt t d r) : Calls Try.prog 35 #[.agg #[.int .i64 t, .int .i64 d, .int .i64 r, x.c, x.l, x.u, x.v, x.d, x.r, x.g, x.b, .int .u64 s.top, .bool true], .agg #[.int .u8 k, .int .u8 a, .int .u8 b]] W (Pst w0 B W tag t d r n s) := by
  obtain ⟨A1, A2, A3, A4, A5, A6, A7, A8, c1, c2, c3, c4, c5, c6, c7, c8, hx⟩ := h.open
  obtain ⟨raw, vc, vl, vu, vv, vd, vr, vg, vb⟩ := x
  injection hx with hx0 hx1 hx2 hx3 hx4 hx5 hx6 hx7 hx8
  subst hx1 hx2 hx3 hx4 hx5 hx6 hx7 hx8
  clear hx0
  have hu80 := Try.underlying80
  have hu84 := Try.underlying84
  have hu106 := Try.underlying106
  have hu78 := Try.underlying78
  have hlc : n ≤ s.clock.length := Nat.le_of_eq hd.lc.symm
  have hlu : n ≤ s.up.length := Nat.le_of_eq hd.lu.symm
  have hq0n : q0 < n := by have := Int.emod_lt_of_pos a (show (0 : Int) < (n : Int) by omega); omega
  have hqc : a % (s.clock.length : Int) = (q0 : Int) := by rw [hd.lc]; exact hq
  have hcl : (0 : Int) < (s.clock.length : Int) := by omega
  have hcl2 : (s.clock.length : Int) ≤ 5 := by have := hd.lc; omega
  have hck := hd.ck (q0 : Int) ⟨by omega, by omega⟩
  have hbl := hd.bl
  have HH := Lib.hid h
  have HD := Lib.hid hd
  have HQ := Lib.hid hqc
  have HK := Lib.hid hkk
  have HM := Lib.hid hm
  clear h hd hq hqc hkk hm
  go_enter Try.func35, Try.ntmps35
  go_upto_region 1 with (fail)
  refine wp_gen (fun W1 => Eh w0 B W tag t d r _ s k a b W.heap.size (W.heap.size + 1) (W.heap.size + 2) W1 tag) (Eh.start HH.out t d r k a b) ?_
  intro W1 hE
  generalize W.heap.size + 2 = gs at hE ⊢
  generalize W.heap.size + 1 = gh at hE ⊢
  generalize W.heap.size = gw at hE ⊢
  obtain ⟨gu, cu, eu, _, lu, tu, hu2⟩ := hE.nw.row_u (by omega)
  obtain ⟨y0, y1⟩ := hu2 q0 (by omega)
  injection eu with eu eu2 eu3
  clear eu2
  subst eu eu3
  obtain ⟨z0, z1, z2, z3, z4, z5, z6, z7, z8, z9, z10, z11, z12⟩ := nblk_cells hE.bw
  have h0 : W1.cell? ⟨gh, 0, none⟩ = some (.int .u8 k) := (blk_cell hE.bh 0).trans rfl
  have h1 : W1.cell? ⟨gh, 1, none⟩ = some (.int .u8 a) := (blk_cell hE.bh 1).trans rfl
  have h2 : W1.cell? ⟨gh, 2, none⟩ = some (.int .u8 b) := (blk_cell hE.bh 2).trans rfl
  have HE := Lib.hid hE
  have hq2 : (q0 : Int) < (s.up.length : Int) := by omega
  have hq3 : (q0 : Int) < (s.clock.length : Int) := by omega
  have hq0 : (0 : Int) ≤ (q0 : Int) := by omega
  clear hE hu2 z0 z1 z2 z4 z6 z7 z8 z9 z10 z11 z12
  have hkk := HK.out
  have hqc := HQ.out
  go_upto_region 25 with (fail)
  apply wp_region_lit
  refine wpList_load_row (by rfl) 80 (.tmp 2) (by rfl) gw (by rfl) 80 _ (0, 0) _ HE.out.bw Try.underlying80 rfl info80s ?_
  clear y0 y1 z3 z5
  go_upto_region 26 with (first | (go_at_call 61; refine (comes_any w0 B W1 tag _ s t d r n i HE.out.nw.anew HD.out hi hn HM.out (a * 256 + b) (by omega) false).mono ?_; rintro e w' ⟨x', tag', s', hst, rfl, hN⟩; obtain ⟨B1, B2, B3, B4, B5, B6, B7, B8, d1, d2, d3, d4, d5, d6, d7, d8, hx'⟩ := hN.open; obtain ⟨raw', vc', vl', vu', vv', vd', vr', vg', vb'⟩ := x'; injection hx' with k0 k1 k2 k3 k4 k5 k6 k7 k8; subst k1 k2 k3 k4 k5 k6 k7 k8; clear k0; have HGW := Lib.hid ((hN.kp gw (blk_lt HE.out.bw) HE.out.tw).trans HE.out.bw); have HGS := Lib.hid ((hN.kp gs (blk_lt HE.out.bs) HE.out.ts).trans HE.out.bs); have HN := Lib.hid hN; have HST := Lib.hid hst; clear hN hst) | (refine wpList_store_row (by rfl) 80 (.tmp 2) (.tmp 172) (by rfl) gw #[.int .i64 t, .int .i64 d, .int .i64 r, .slice B1 s'.clock.length d1, .slice B2 s'.life.length d2, .slice B3 s'.up.length d3, .slice B4 s'.votes.length d4, .slice B5 s'.leads.length d5, .slice B6 s'.reqs.length d6, .slice B7 s'.grs.length d7, .slice B8 s'.beats.length d8, .int .u64 s'.top, .bool true] (by rfl) (by rfl) 80 _ HGW.out info80s (by rfl) (by simp [Value.oneCell']) ?_))
  have HL := Lib.hid ((HN.out.tg gw (blk_lt HE.out.bw)).trans HE.out.tw)
  have HLS := Lib.hid ((HN.out.tg gs (blk_lt HE.out.bs)).trans HE.out.ts)
  refine reg_ret4 173 (gw := gw) (gs := gs) (by rfl) (by rfl) (by rfl) (by rfl) (by rfl) (by rfl) (by rfl) (by rfl) (by rfl) (setRow_heap _ gw _ _ 80 (0, 0) HGW.out) ((setRow_other _ gw gs _ (fun e => HE.out.ne e.symm)).trans HGS.out) (by rfl) (by rfl) (by simp [Value.oneCell']) ?_
  go_wp2
  exact fin_ret4 (by rfl) (by rfl) (by rfl) ((setRow_other _ gw gs _ (fun e => HE.out.ne e.symm)).trans HGS.out) HST.out ((HE.out.nw.back HN.out).setRow HL.out HE.out.w (Nat.le_trans HE.out.b0 HE.out.w) _) HLS.out HE.out.s_ (Nat.le_trans HE.out.b0 HE.out.s_)
set_option maxHeartbeats 2000000 in
theorem hap_tick (w0 : World) (B : Nat) (W : World) (tag : Nat → Nat) (x : NV) (s : St) (t d r : Int) (n i : Nat) (h : Nw w0 B W tag W tag x s) (hd : Bd t n i s) (hi : i < 90) (hn : 2 ≤ n ∧ n ≤ 5) (k a b : Int) (hk : 0 ≤ k ∧ k ≤ 255) (ha : 0 ≤ a ∧ a ≤ 255) (hb : 0 ≤ b ∧ b ≤ 255) (q0 : Nat) (hq : a % (n : Int) = (q0 : Int)) (hkk : k % 6 = 0) (hu : s.isup (q0 : Int) = true) : Calls Try.prog 35 #[.agg #[.int .i64 t, .int .i64 d, .int .i64 r, x.c, x.l, x.u, x.v, x.d, x.r, x.g, x.b, .int .u64 s.top, .bool true], .agg #[.int .u8 k, .int .u8 a, .int .u8 b]] W (Pst w0 B W tag t d r n s) := by
  obtain ⟨A1, A2, A3, A4, A5, A6, A7, A8, c1, c2, c3, c4, c5, c6, c7, c8, hx⟩ := h.open
  obtain ⟨raw, vc, vl, vu, vv, vd, vr, vg, vb⟩ := x
  injection hx with hx0 hx1 hx2 hx3 hx4 hx5 hx6 hx7 hx8
  subst hx1 hx2 hx3 hx4 hx5 hx6 hx7 hx8
  clear hx0
  have hu80 := Try.underlying80
  have hu84 := Try.underlying84
  have hu106 := Try.underlying106
  have hu78 := Try.underlying78
  have hlc : n ≤ s.clock.length := Nat.le_of_eq hd.lc.symm
  have hlu : n ≤ s.up.length := Nat.le_of_eq hd.lu.symm
  have hq0n : q0 < n := by have := Int.emod_lt_of_pos a (show (0 : Int) < (n : Int) by omega); omega
  have hqc : a % (s.clock.length : Int) = (q0 : Int) := by rw [hd.lc]; exact hq
  have hcl : (0 : Int) < (s.clock.length : Int) := by omega
  have hcl2 : (s.clock.length : Int) ≤ 5 := by have := hd.lc; omega
  have hck := hd.ck (q0 : Int) ⟨by omega, by omega⟩
  have hbl := hd.bl
  have HH := Lib.hid h
  have HD := Lib.hid hd
  have HQ := Lib.hid hqc
  have HK := Lib.hid hkk
  have HU := Lib.hid hu
  clear h hd hq hqc hkk hu
  go_enter Try.func35, Try.ntmps35
  go_upto_region 1 with (fail)
  refine wp_gen (fun W1 => Eh w0 B W tag t d r _ s k a b W.heap.size (W.heap.size + 1) (W.heap.size + 2) W1 tag) (Eh.start HH.out t d r k a b) ?_
  intro W1 hE
  generalize W.heap.size + 2 = gs at hE ⊢
  generalize W.heap.size + 1 = gh at hE ⊢
  generalize W.heap.size = gw at hE ⊢
  obtain ⟨gu, cu, eu, _, lu, tu, hu2⟩ := hE.nw.row_u (by omega)
  obtain ⟨y0, y1⟩ := hu2 q0 (by omega)
  injection eu with eu eu2 eu3
  clear eu2
  subst eu eu3
  obtain ⟨z0, z1, z2, z3, z4, z5, z6, z7, z8, z9, z10, z11, z12⟩ := nblk_cells hE.bw
  have h0 : W1.cell? ⟨gh, 0, none⟩ = some (.int .u8 k) := (blk_cell hE.bh 0).trans rfl
  have h1 : W1.cell? ⟨gh, 1, none⟩ = some (.int .u8 a) := (blk_cell hE.bh 1).trans rfl
  have h2 : W1.cell? ⟨gh, 2, none⟩ = some (.int .u8 b) := (blk_cell hE.bh 2).trans rfl
  have HE := Lib.hid hE
  have hq2 : (q0 : Int) < (s.up.length : Int) := by omega
  have hq3 : (q0 : Int) < (s.clock.length : Int) := by omega
  have hq0 : (0 : Int) ≤ (q0 : Int) := by omega
  have hu := HU.out
  unfold St.isup at hu
  simp only [Int.toNat_natCast] at hu
  rw [hu] at y0
  clear hu
  clear hE hu2 z0 z1 z2 z4 z6 z7 z8 z9 z10 z11 z12
  have hkk := HK.out
  have hqc := HQ.out
  go_upto_region 5 with (fail)
  clear y0 hkk z3 z5 h0 h1 h2
  generalize a % (s.clock.length : Int) = q9 at hqc ⊢
  subst hqc
  have hE := HE.out
  obtain ⟨gc, cc, ec, _, lc, tc, hc⟩ := hE.nw.row_c (by omega)
  injection ec with ec ec2 ec3
  clear ec2
  subst ec ec3
  obtain ⟨c0_, c1_⟩ := hc q0 (by omega)
  have eck : s.clock.getD q0 0 = s.clk (q0 : Int) := by unfold St.clk; rw [Int.toNat_natCast]
  rw [eck] at c0_
  obtain ⟨vC, hvC⟩ : ∃ y, y = s.clk (q0 : Int) := ⟨_, rfl⟩
  rw [← hvC] at c0_ hck
  have HVC := Lib.hid hvC
  obtain ⟨z0, z1, z2, z3, z4, z5, z6, z7, z8, z9, z10, z11, z12⟩ := nblk_cells hE.bw
  have HN := Lib.hid (hE.nw.set_c rfl q0 (vC + 1))
  have HT := Lib.hid tc
  clear hE hc eck hvC tc z0 z1 z2 z4 z5 z6 z7 z8 z9 z10 z11 z12 y1
  go_upto_region 6 with (fail)
  refine wp_gen (fun W2 => Eh w0 B W tag t d r _ { s with clock := s.clock.set q0 (vC + 1) } k a b gw gh gs W2 tag) (HE.out.set1 HN.out (by rw [HT.out]; decide) rfl) ?_
  intro W2 hM
  clear c0_ c1_ z3
  obtain ⟨z0, z1, z2, z3, z4, z5, z6, z7, z8, z9, z10, z11, z12⟩ := nblk_cells hM.bw
  have HM := Lib.hid hM
  clear hM z0 z1 z2 z3 z4 z5 z6 z7 z8 z9 z11 z12
  go_upto_region 26 with (first | ((with_reducible refine gate_builtin (b := .append) (xs := #[.tmp 35, .tmp 38]) rfl ?_); at_builtin; refine Kd.R_append k106 (w0 := w0) (W := W2) B rfl (.tmp 35) (.tmp 38) 78 106 (.agg #[.int .i64 0, .int .i64 0]) 16 rfl Try.underlying78 info106 rfl (by decide) (by omega) (.slice A8 s.beats.length c8) s.beats ⟨(q0 : Int), 0⟩ [.int .i64 (q0 : Int), .int .i64 0] (fun k => tag k = 8 ∨ W2.heap.size ≤ k) (fun _ => False) rfl rfl (k106_mkM _ _ _ ⟨(q0 : Int), 0⟩) (fun _ hk => hk.elim) (fun k hk => .inr hk) (Kd.R_mono HM.out.nw.b (fun k hk => .inl hk)) HM.out.nw.bel HM.out.nw.base (by omega) ?_; intro vn wn hR hBn hG hat; obtain ⟨An, cn, hvn⟩ := Kd.R_slice hR; rw [List.length_append, List.length_singleton] at hvn; subst hvn; obtain ⟨⟨hc9, hf9⟩, hF⟩ := HM.out.beat hR hBn hG; have HF := Lib.hid hF; clear hF hR hBn hG hat))
  all_goals
    obtain ⟨h6, hbw, hbs, ht6⟩ := HF.out
    have e6 : { s with clock := s.clock.set q0 (vC + 1), beats := s.beats ++ [⟨(q0 : Int), 0⟩] } = s.tick (q0 : Int) := by
      unfold St.tick
      rw [Int.toNat_natCast, HVC.out]
    rw [e6] at h6
    have H6 := Lib.hid h6
    have HBW := Lib.hid hbw
    have HBS := Lib.hid hbs
    have HT6 := Lib.hid ht6
    clear h6 hbw hbs ht6 e6
    refine reg_ret4 173 (gw := gw) (gs := gs) (by rfl) (by rfl) (by rfl) (by rfl) (by rfl) (by rfl) (by rfl) (by rfl) (by rfl) HBW.out HBS.out (by rfl) (by rfl) (by simp [Value.oneCell']) ?_
    go_wp2
    exact fin_ret4 (by rfl) (by rfl) (by rfl) HBS.out (.tick _ ⟨by omega, by omega⟩ HU.out) H6.out HT6.out HE.out.s_ (Nat.le_trans HE.out.b0 HE.out.s_)
set_option maxHeartbeats 2000000 in
theorem hap_fall (w0 : World) (B : Nat) (W : World) (tag : Nat → Nat) (x : NV) (s : St) (t d r : Int) (n i : Nat) (h : Nw w0 B W tag W tag x s) (hd : Bd t n i s) (hi : i < 90) (hn : 2 ≤ n ∧ n ≤ 5) (k a b : Int) (hk : 0 ≤ k ∧ k ≤ 255) (ha : 0 ≤ a ∧ a ≤ 255) (hb : 0 ≤ b ∧ b ≤ 255) (q0 : Nat) (hq : a % (n : Int) = (q0 : Int)) (hkk : k % 6 = 1) (hu : s.isup (q0 : Int) = true) : Calls Try.prog 35 #[.agg #[.int .i64 t, .int .i64 d, .int .i64 r, x.c, x.l, x.u, x.v, x.d, x.r, x.g, x.b, .int .u64 s.top, .bool true], .agg #[.int .u8 k, .int .u8 a, .int .u8 b]] W (Pst w0 B W tag t d r n s) := by
  obtain ⟨A1, A2, A3, A4, A5, A6, A7, A8, c1, c2, c3, c4, c5, c6, c7, c8, hx⟩ := h.open
  obtain ⟨raw, vc, vl, vu, vv, vd, vr, vg, vb⟩ := x
  injection hx with hx0 hx1 hx2 hx3 hx4 hx5 hx6 hx7 hx8
  subst hx1 hx2 hx3 hx4 hx5 hx6 hx7 hx8
  clear hx0
  have hu80 := Try.underlying80
  have hu84 := Try.underlying84
  have hu106 := Try.underlying106
  have hu78 := Try.underlying78
  have hlc : n ≤ s.clock.length := Nat.le_of_eq hd.lc.symm
  have hlu : n ≤ s.up.length := Nat.le_of_eq hd.lu.symm
  have hq0n : q0 < n := by have := Int.emod_lt_of_pos a (show (0 : Int) < (n : Int) by omega); omega
  have hqc : a % (s.clock.length : Int) = (q0 : Int) := by rw [hd.lc]; exact hq
  have hcl : (0 : Int) < (s.clock.length : Int) := by omega
  have hcl2 : (s.clock.length : Int) ≤ 5 := by have := hd.lc; omega
  have hck := hd.ck (q0 : Int) ⟨by omega, by omega⟩
  have hbl := hd.bl
  have HH := Lib.hid h
  have HD := Lib.hid hd
  have HQ := Lib.hid hqc
  have HK := Lib.hid hkk
  have HU := Lib.hid hu
  clear h hd hq hqc hkk hu
  go_enter Try.func35, Try.ntmps35
  go_upto_region 1 with (fail)
  refine wp_gen (fun W1 => Eh w0 B W tag t d r _ s k a b W.heap.size (W.heap.size + 1) (W.heap.size + 2) W1 tag) (Eh.start HH.out t d r k a b) ?_
  intro W1 hE
  generalize W.heap.size + 2 = gs at hE ⊢
  generalize W.heap.size + 1 = gh at hE ⊢
  generalize W.heap.size = gw at hE ⊢
  obtain ⟨gu, cu, eu, _, lu, tu, hu2⟩ := hE.nw.row_u (by omega)
  obtain ⟨y0, y1⟩ := hu2 q0 (by omega)
  injection eu with eu eu2 eu3
  clear eu2
  subst eu eu3
  obtain ⟨z0, z1, z2, z3, z4, z5, z6, z7, z8, z9, z10, z11, z12⟩ := nblk_cells hE.bw
  have h0 : W1.cell? ⟨gh, 0, none⟩ = some (.int .u8 k) := (blk_cell hE.bh 0).trans rfl
  have h1 : W1.cell? ⟨gh, 1, none⟩ = some (.int .u8 a) := (blk_cell hE.bh 1).trans rfl
  have h2 : W1.cell? ⟨gh, 2, none⟩ = some (.int .u8 b) := (blk_cell hE.bh 2).trans rfl
  have HE := Lib.hid hE
  have hq2 : (q0 : Int) < (s.up.length : Int) := by omega
  have hq3 : (q0 : Int) < (s.clock.length : Int) := by omega
  have hq0 : (0 : Int) ≤ (q0 : Int) := by omega
  have hu := HU.out
  unfold St.isup at hu
  simp only [Int.toNat_natCast] at hu
  rw [hu] at y0
  clear hu
  clear hE hu2 z0 z1 z2 z4 z6 z7 z8 z9 z10 z11 z12
  have hkk := HK.out
  have hqc := HQ.out
  go_upto_region 9 with (fail)
  clear hkk z3 z5 h0 h1 h2
  generalize a % (s.clock.length : Int) = q9 at hqc ⊢
  subst hqc
  obtain ⟨z0, z1, z2, z3, z4, z5, z6, z7, z8, z9, z10, z11, z12⟩ := nblk_cells HE.out.bw
  have HN := Lib.hid (HE.out.nw.set_u rfl q0 false)
  have HT := Lib.hid tu
  clear tu z0 z1 z2 z3 z4 z6 z7 z8 z9 z10 z11 z12
  go_upto_region 10 with (fail)
  refine wp_gen (fun W2 => Eh w0 B W tag t d r _ { s with up := s.up.set q0 false } k a b gw gh gs W2 tag) (HE.out.set1 HN.out (by rw [HT.out]; decide) rfl) ?_
  intro W2 hM
  clear y0 y1 z5
  obtain ⟨z0, z1, z2, z3, z4, z5, z6, z7, z8, z9, z10, z11, z12⟩ := nblk_cells hM.bw
  have HM := Lib.hid hM
  clear hM z0 z1 z2 z3 z4 z5 z6 z7 z8 z9 z11 z12
  go_upto_region 26 with (first | ((with_reducible refine gate_builtin (b := .append) (xs := #[.tmp 53, .tmp 56]) rfl ?_); at_builtin; refine Kd.R_append k106 (w0 := w0) (W := W2) B rfl (.tmp 53) (.tmp 56) 78 106 (.agg #[.int .i64 0, .int .i64 0]) 16 rfl Try.underlying78 info106 rfl (by decide) (by omega) (.slice A8 s.beats.length c8) s.beats ⟨(q0 : Int), 1⟩ [.int .i64 (q0 : Int), .int .i64 1] (fun k => tag k = 8 ∨ W2.heap.size ≤ k) (fun _ => False) rfl rfl (k106_mkM _ _ _ ⟨(q0 : Int), 1⟩) (fun _ hk => hk.elim) (fun k hk => .inr hk) (Kd.R_mono HM.out.nw.b (fun k hk => .inl hk)) HM.out.nw.bel HM.out.nw.base (by omega) ?_; intro vn wn hR hBn hG hat; obtain ⟨An, cn, hvn⟩ := Kd.R_slice hR; rw [List.length_append, List.length_singleton] at hvn; subst hvn; obtain ⟨⟨hc9, hf9⟩, hF⟩ := HM.out.beat hR hBn hG; have HF := Lib.hid hF; clear hF hR hBn hG hat))
  all_goals
    obtain ⟨h6, hbw, hbs, ht6⟩ := HF.out
    have e6 : { s with up := s.up.set q0 false, beats := s.beats ++ [⟨(q0 : Int), 1⟩] } = s.fall (q0 : Int) := by
      unfold St.fall
      rw [Int.toNat_natCast]
    rw [e6] at h6
    have H6 := Lib.hid h6
    have HBW := Lib.hid hbw
    have HBS := Lib.hid hbs
    have HT6 := Lib.hid ht6
    clear h6 hbw hbs ht6 e6
    refine reg_ret4 173 (gw := gw) (gs := gs) (by rfl) (by rfl) (by rfl) (by rfl) (by rfl) (by rfl) (by rfl) (by rfl) (by rfl) HBW.out HBS.out (by rfl) (by rfl) (by simp [Value.oneCell']) ?_
    go_wp2
    exact fin_ret4 (by rfl) (by rfl) (by rfl) HBS.out (.fall _ ⟨by omega, by omega⟩ HU.out) H6.out HT6.out HE.out.s_ (Nat.le_trans HE.out.b0 HE.out.s_)
set_option maxHeartbeats 2000000 in
theorem hap_tick0 (w0 : World) (B : Nat) (W : World) (tag : Nat → Nat) (x : NV) (s : St) (t d r : Int) (n i : Nat) (h : Nw w0 B W tag W tag x s) (hd : Bd t n i s) (hi : i < 90) (hn : 2 ≤ n ∧ n ≤ 5) (k a b : Int) (hk : 0 ≤ k ∧ k ≤ 255) (ha : 0 ≤ a ∧ a ≤ 255) (hb : 0 ≤ b ∧ b ≤ 255) (q0 : Nat) (hq : a % (n : Int) = (q0 : Int)) (hkk : k % 6 = 0) (hu : s.isup (q0 : Int) = false) : Calls Try.prog 35 #[.agg #[.int .i64 t, .int .i64 d, .int .i64 r, x.c, x.l, x.u, x.v, x.d, x.r, x.g, x.b, .int .u64 s.top, .bool true], .agg #[.int .u8 k, .int .u8 a, .int .u8 b]] W (Pst w0 B W tag t d r n s) := by
  obtain ⟨A1, A2, A3, A4, A5, A6, A7, A8, c1, c2, c3, c4, c5, c6, c7, c8, hx⟩ := h.open
  obtain ⟨raw, vc, vl, vu, vv, vd, vr, vg, vb⟩ := x
  injection hx with hx0 hx1 hx2 hx3 hx4 hx5 hx6 hx7 hx8
  subst hx1 hx2 hx3 hx4 hx5 hx6 hx7 hx8
  clear hx0
  have hu80 := Try.underlying80
  have hu84 := Try.underlying84
  have hu106 := Try.underlying106
  have hu78 := Try.underlying78
  have hlc : n ≤ s.clock.length := Nat.le_of_eq hd.lc.symm
  have hlu : n ≤ s.up.length := Nat.le_of_eq hd.lu.symm
  have hq0n : q0 < n := by have := Int.emod_lt_of_pos a (show (0 : Int) < (n : Int) by omega); omega
  have hqc : a % (s.clock.length : Int) = (q0 : Int) := by rw [hd.lc]; exact hq
  have hcl : (0 : Int) < (s.clock.length : Int) := by omega
  have hcl2 : (s.clock.length : Int) ≤ 5 := by have := hd.lc; omega
  have hck := hd.ck (q0 : Int) ⟨by omega, by omega⟩
  have hbl := hd.bl
  have HH := Lib.hid h
  have HD := Lib.hid hd
  have HQ := Lib.hid hqc
  have HK := Lib.hid hkk
  have HU := Lib.hid hu
  clear h hd hq hqc hkk hu
  go_enter Try.func35, Try.ntmps35
  go_upto_region 1 with (fail)
  refine wp_gen (fun W1 => Eh w0 B W tag t d r _ s k a b W.heap.size (W.heap.size + 1) (W.heap.size + 2) W1 tag) (Eh.start HH.out t d r k a b) ?_
  intro W1 hE
  generalize W.heap.size + 2 = gs at hE ⊢
  generalize W.heap.size + 1 = gh at hE ⊢
  generalize W.heap.size = gw at hE ⊢
  obtain ⟨gu, cu, eu, _, lu, tu, hu2⟩ := hE.nw.row_u (by omega)
  obtain ⟨y0, y1⟩ := hu2 q0 (by omega)
  injection eu with eu eu2 eu3
  clear eu2
  subst eu eu3
  obtain ⟨z0, z1, z2, z3, z4, z5, z6, z7, z8, z9, z10, z11, z12⟩ := nblk_cells hE.bw
  have h0 : W1.cell? ⟨gh, 0, none⟩ = some (.int .u8 k) := (blk_cell hE.bh 0).trans rfl
  have h1 : W1.cell? ⟨gh, 1, none⟩ = some (.int .u8 a) := (blk_cell hE.bh 1).trans rfl
  have h2 : W1.cell? ⟨gh, 2, none⟩ = some (.int .u8 b) := (blk_cell hE.bh 2).trans rfl
  have HE := Lib.hid hE
  have hq2 : (q0 : Int) < (s.up.length : Int) := by omega
  have hq3 : (q0 : Int) < (s.clock.length : Int) := by omega
  have hq0 : (0 : Int) ≤ (q0 : Int) := by omega
  have hu := HU.out
  unfold St.isup at hu
  simp only [Int.toNat_natCast] at hu
  rw [hu] at y0
  clear hu
  clear hE hu2 z0 z1 z2 z4 z6 z7 z8 z9 z10 z11 z12
  have hkk := HK.out
  have hqc := HQ.out
  go_upto_region 26 with (fail)
  all_goals
    refine reg_ret4 173 (gw := gw) (gs := gs) (by rfl) (by rfl) (by rfl) (by rfl) (by rfl) (by rfl) (by rfl) (by rfl) (by rfl) HE.out.bw HE.out.bs (by rfl) (by rfl) (by simp [Value.oneCell']) ?_
    go_wp2
    exact fin_ret4 (by rfl) (by rfl) (by rfl) HE.out.bs .none_ HE.out.nw HE.out.ts HE.out.s_ (Nat.le_trans HE.out.b0 HE.out.s_)
set_option maxHeartbeats 2000000 in
theorem hap_fall0 (w0 : World) (B : Nat) (W : World) (tag : Nat → Nat) (x : NV) (s : St) (t d r : Int) (n i : Nat) (h : Nw w0 B W tag W tag x s) (hd : Bd t n i s) (hi : i < 90) (hn : 2 ≤ n ∧ n ≤ 5) (k a b : Int) (hk : 0 ≤ k ∧ k ≤ 255) (ha : 0 ≤ a ∧ a ≤ 255) (hb : 0 ≤ b ∧ b ≤ 255) (q0 : Nat) (hq : a % (n : Int) = (q0 : Int)) (hkk : k % 6 = 1) (hu : s.isup (q0 : Int) = false) : Calls Try.prog 35 #[.agg #[.int .i64 t, .int .i64 d, .int .i64 r, x.c, x.l, x.u, x.v, x.d, x.r, x.g, x.b, .int .u64 s.top, .bool true], .agg #[.int .u8 k, .int .u8 a, .int .u8 b]] W (Pst w0 B W tag t d r n s) := by
  obtain ⟨A1, A2, A3, A4, A5, A6, A7, A8, c1, c2, c3, c4, c5, c6, c7, c8, hx⟩ := h.open
  obtain ⟨raw, vc, vl, vu, vv, vd, vr, vg, vb⟩ := x
  injection hx with hx0 hx1 hx2 hx3 hx4 hx5 hx6 hx7 hx8
  subst hx1 hx2 hx3 hx4 hx5 hx6 hx7 hx8
  clear hx0
  have hu80 := Try.underlying80
  have hu84 := Try.underlying84
  have hu106 := Try.underlying106
  have hu78 := Try.underlying78
  have hlc : n ≤ s.clock.length := Nat.le_of_eq hd.lc.symm
  have hlu : n ≤ s.up.length := Nat.le_of_eq hd.lu.symm
  have hq0n : q0 < n := by have := Int.emod_lt_of_pos a (show (0 : Int) < (n : Int) by omega); omega
  have hqc : a % (s.clock.length : Int) = (q0 : Int) := by rw [hd.lc]; exact hq
  have hcl : (0 : Int) < (s.clock.length : Int) := by omega
  have hcl2 : (s.clock.length : Int) ≤ 5 := by have := hd.lc; omega
  have hck := hd.ck (q0 : Int) ⟨by omega, by omega⟩
  have hbl := hd.bl
  have HH := Lib.hid h
  have HD := Lib.hid hd
  have HQ := Lib.hid hqc
  have HK := Lib.hid hkk
  have HU := Lib.hid hu
  clear h hd hq hqc hkk hu
  go_enter Try.func35, Try.ntmps35
  go_upto_region 1 with (fail)
  refine wp_gen (fun W1 => Eh w0 B W tag t d r _ s k a b W.heap.size (W.heap.size + 1) (W.heap.size + 2) W1 tag) (Eh.start HH.out t d r k a b) ?_
  intro W1 hE
  generalize W.heap.size + 2 = gs at hE ⊢
  generalize W.heap.size + 1 = gh at hE ⊢
  generalize W.heap.size = gw at hE ⊢
  obtain ⟨gu, cu, eu, _, lu, tu, hu2⟩ := hE.nw.row_u (by omega)
  obtain ⟨y0, y1⟩ := hu2 q0 (by omega)
  injection eu with eu eu2 eu3
  clear eu2
  subst eu eu3
  obtain ⟨z0, z1, z2, z3, z4, z5, z6, z7, z8, z9, z10, z11, z12⟩ := nblk_cells hE.bw
  have h0 : W1.cell? ⟨gh, 0, none⟩ = some (.int .u8 k) := (blk_cell hE.bh 0).trans rfl
  have h1 : W1.cell? ⟨gh, 1, none⟩ = some (.int .u8 a) := (blk_cell hE.bh 1).trans rfl
  have h2 : W1.cell? ⟨gh, 2, none⟩ = some (.int .u8 b) := (blk_cell hE.bh 2).trans rfl
  have HE := Lib.hid hE
  have hq2 : (q0 : Int) < (s.up.length : Int) := by omega
  have hq3 : (q0 : Int) < (s.clock.length : Int) := by omega
  have hq0 : (0 : Int) ≤ (q0 : Int) := by omega
  have hu := HU.out
  unfold St.isup at hu
  simp only [Int.toNat_natCast] at hu
  rw [hu] at y0
  clear hu
  clear hE hu2 z0 z1 z2 z4 z6 z7 z8 z9 z10 z11 z12
  have hkk := HK.out
  have hqc := HQ.out
  go_upto_region 26 with (fail)
  all_goals
    refine reg_ret4 173 (gw := gw) (gs := gs) (by rfl) (by rfl) (by rfl) (by rfl) (by rfl) (by rfl) (by rfl) (by rfl) (by rfl) HE.out.bw HE.out.bs (by rfl) (by rfl) (by simp [Value.oneCell']) ?_
    go_wp2
    exact fin_ret4 (by rfl) (by rfl) (by rfl) HE.out.bs .none_ HE.out.nw HE.out.ts HE.out.s_ (Nat.le_trans HE.out.b0 HE.out.s_)
set_option maxHeartbeats 2000000 in
theorem hap_rise0 (w0 : World) (B : Nat) (W : World) (tag : Nat → Nat) (x : NV) (s : St) (t d r : Int) (n i : Nat) (h : Nw w0 B W tag W tag x s) (hd : Bd t n i s) (hi : i < 90) (hn : 2 ≤ n ∧ n ≤ 5) (k a b : Int) (hk : 0 ≤ k ∧ k ≤ 255) (ha : 0 ≤ a ∧ a ≤ 255) (hb : 0 ≤ b ∧ b ≤ 255) (q0 : Nat) (hq : a % (n : Int) = (q0 : Int)) (hkk : k % 6 = 2) (hu : s.isup (q0 : Int) = true) : Calls Try.prog 35 #[.agg #[.int .i64 t, .int .i64 d, .int .i64 r, x.c, x.l, x.u, x.v, x.d, x.r, x.g, x.b, .int .u64 s.top, .bool true], .agg #[.int .u8 k, .int .u8 a, .int .u8 b]] W (Pst w0 B W tag t d r n s) := by
  obtain ⟨A1, A2, A3, A4, A5, A6, A7, A8, c1, c2, c3, c4, c5, c6, c7, c8, hx⟩ := h.open
  obtain ⟨raw, vc, vl, vu, vv, vd, vr, vg, vb⟩ := x
  injection hx with hx0 hx1 hx2 hx3 hx4 hx5 hx6 hx7 hx8
  subst hx1 hx2 hx3 hx4 hx5 hx6 hx7 hx8
  clear hx0
  have hu80 := Try.underlying80
  have hu84 := Try.underlying84
  have hu106 := Try.underlying106
  have hu78 := Try.underlying78
  have hlc : n ≤ s.clock.length := Nat.le_of_eq hd.lc.symm
  have hlu : n ≤ s.up.length := Nat.le_of_eq hd.lu.symm
  have hq0n : q0 < n := by have := Int.emod_lt_of_pos a (show (0 : Int) < (n : Int) by omega); omega
  have hqc : a % (s.clock.length : Int) = (q0 : Int) := by rw [hd.lc]; exact hq
  have hcl : (0 : Int) < (s.clock.length : Int) := by omega
  have hcl2 : (s.clock.length : Int) ≤ 5 := by have := hd.lc; omega
  have hck := hd.ck (q0 : Int) ⟨by omega, by omega⟩
  have hbl := hd.bl
  have HH := Lib.hid h
  have HD := Lib.hid hd
  have HQ := Lib.hid hqc
  have HK := Lib.hid hkk
  have HU := Lib.hid hu
  clear h hd hq hqc hkk hu
  go_enter Try.func35, Try.ntmps35
  go_upto_region 1 with (fail)
  refine wp_gen (fun W1 => Eh w0 B W tag t d r _ s k a b W.heap.size (W.heap.size + 1) (W.heap.size + 2) W1 tag) (Eh.start HH.out t d r k a b) ?_
  intro W1 hE
  generalize W.heap.size + 2 = gs at hE ⊢
  generalize W.heap.size + 1 = gh at hE ⊢
  generalize W.heap.size = gw at hE ⊢
  obtain ⟨gu, cu, eu, _, lu, tu, hu2⟩ := hE.nw.row_u (by omega)
  obtain ⟨y0, y1⟩ := hu2 q0 (by omega)
  injection eu with eu eu2 eu3
  clear eu2
  subst eu eu3
  obtain ⟨z0, z1, z2, z3, z4, z5, z6, z7, z8, z9, z10, z11, z12⟩ := nblk_cells hE.bw
  have h0 : W1.cell? ⟨gh, 0, none⟩ = some (.int .u8 k) := (blk_cell hE.bh 0).trans rfl
  have h1 : W1.cell? ⟨gh, 1, none⟩ = some (.int .u8 a) := (blk_cell hE.bh 1).trans rfl
  have h2 : W1.cell? ⟨gh, 2, none⟩ = some (.int .u8 b) := (blk_cell hE.bh 2).trans rfl
  have HE := Lib.hid hE
  have hq2 : (q0 : Int) < (s.up.length : Int) := by omega
  have hq3 : (q0 : Int) < (s.clock.length : Int) := by omega
  have hq0 : (0 : Int) ≤ (q0 : Int) := by omega
  have hu := HU.out
  unfold St.isup at hu
  simp only [Int.toNat_natCast] at hu
  rw [hu] at y0
  clear hu
  clear hE hu2 z0 z1 z2 z4 z6 z7 z8 z9 z10 z11 z12
  have hkk := HK.out
  have hqc := HQ.out
  go_upto_region 26 with (fail)
  all_goals
    refine reg_ret4 173 (gw := gw) (gs := gs) (by rfl) (by rfl) (by rfl) (by rfl) (by rfl) (by rfl) (by rfl) (by rfl) (by rfl) HE.out.bw HE.out.bs (by rfl) (by rfl) (by simp [Value.oneCell']) ?_
    go_wp2
    exact fin_ret4 (by rfl) (by rfl) (by rfl) HE.out.bs .none_ HE.out.nw HE.out.ts HE.out.s_ (Nat.le_trans HE.out.b0 HE.out.s_)
set_option maxHeartbeats 2000000 in
theorem hap_ask0 (w0 : World) (B : Nat) (W : World) (tag : Nat → Nat) (x : NV) (s : St) (t d r : Int) (n i : Nat) (h : Nw w0 B W tag W tag x s) (hd : Bd t n i s) (hi : i < 90) (hn : 2 ≤ n ∧ n ≤ 5) (k a b : Int) (hk : 0 ≤ k ∧ k ≤ 255) (ha : 0 ≤ a ∧ a ≤ 255) (hb : 0 ≤ b ∧ b ≤ 255) (q0 : Nat) (hq : a % (n : Int) = (q0 : Int)) (hkk : k % 6 = 3) (hu : s.isup (q0 : Int) = false) : Calls Try.prog 35 #[.agg #[.int .i64 t, .int .i64 d, .int .i64 r, x.c, x.l, x.u, x.v, x.d, x.r, x.g, x.b, .int .u64 s.top, .bool true], .agg #[.int .u8 k, .int .u8 a, .int .u8 b]] W (Pst w0 B W tag t d r n s) := by
  obtain ⟨A1, A2, A3, A4, A5, A6, A7, A8, c1, c2, c3, c4, c5, c6, c7, c8, hx⟩ := h.open
  obtain ⟨raw, vc, vl, vu, vv, vd, vr, vg, vb⟩ := x
  injection hx with hx0 hx1 hx2 hx3 hx4 hx5 hx6 hx7 hx8
  subst hx1 hx2 hx3 hx4 hx5 hx6 hx7 hx8
  clear hx0
  have hu80 := Try.underlying80
  have hu84 := Try.underlying84
  have hu106 := Try.underlying106
  have hu78 := Try.underlying78
  have hlc : n ≤ s.clock.length := Nat.le_of_eq hd.lc.symm
  have hlu : n ≤ s.up.length := Nat.le_of_eq hd.lu.symm
  have hq0n : q0 < n := by have := Int.emod_lt_of_pos a (show (0 : Int) < (n : Int) by omega); omega
  have hqc : a % (s.clock.length : Int) = (q0 : Int) := by rw [hd.lc]; exact hq
  have hcl : (0 : Int) < (s.clock.length : Int) := by omega
  have hcl2 : (s.clock.length : Int) ≤ 5 := by have := hd.lc; omega
  have hck := hd.ck (q0 : Int) ⟨by omega, by omega⟩
  have hbl := hd.bl
  have HH := Lib.hid h
  have HD := Lib.hid hd
  have HQ := Lib.hid hqc
  have HK := Lib.hid hkk
  have HU := Lib.hid hu
  clear h hd hq hqc hkk hu
  go_enter Try.func35, Try.ntmps35
  go_upto_region 1 with (fail)
  refine wp_gen (fun W1 => Eh w0 B W tag t d r _ s k a b W.heap.size (W.heap.size + 1) (W.heap.size + 2) W1 tag) (Eh.start HH.out t d r k a b) ?_
  intro W1 hE
  generalize W.heap.size + 2 = gs at hE ⊢
  generalize W.heap.size + 1 = gh at hE ⊢
  generalize W.heap.size = gw at hE ⊢
  obtain ⟨gu, cu, eu, _, lu, tu, hu2⟩ := hE.nw.row_u (by omega)
  obtain ⟨y0, y1⟩ := hu2 q0 (by omega)
  injection eu with eu eu2 eu3
  clear eu2
  subst eu eu3
  obtain ⟨z0, z1, z2, z3, z4, z5, z6, z7, z8, z9, z10, z11, z12⟩ := nblk_cells hE.bw
  have h0 : W1.cell? ⟨gh, 0, none⟩ = some (.int .u8 k) := (blk_cell hE.bh 0).trans rfl
  have h1 : W1.cell? ⟨gh, 1, none⟩ = some (.int .u8 a) := (blk_cell hE.bh 1).trans rfl
  have h2 : W1.cell? ⟨gh, 2, none⟩ = some (.int .u8 b) := (blk_cell hE.bh 2).trans rfl
  have HE := Lib.hid hE
  have hq2 : (q0 : Int) < (s.up.length : Int) := by omega
  have hq3 : (q0 : Int) < (s.clock.length : Int) := by omega
  have hq0 : (0 : Int) ≤ (q0 : Int) := by omega
  have hu := HU.out
  unfold St.isup at hu
  simp only [Int.toNat_natCast] at hu
  rw [hu] at y0
  clear hu
  clear hE hu2 z0 z1 z2 z4 z6 z7 z8 z9 z10 z11 z12
  have hkk := HK.out
  have hqc := HQ.out
  go_upto_region 26 with (fail)
  all_goals
    refine reg_ret4 173 (gw := gw) (gs := gs) (by rfl) (by rfl) (by rfl) (by rfl) (by rfl) (by rfl) (by rfl) (by rfl) (by rfl) HE.out.bw HE.out.bs (by rfl) (by rfl) (by simp [Value.oneCell']) ?_
    go_wp2
    exact fin_ret4 (by rfl) (by rfl) (by rfl) HE.out.bs .none_ HE.out.nw HE.out.ts HE.out.s_ (Nat.le_trans HE.out.b0 HE.out.s_)
theorem happens_any (w0 : World) (B : Nat) (W : World) (tag : Nat → Nat) (x : NV) (s : St) (t d r : Int) (n i : Nat) (h : Nw w0 B W tag W tag x s) (hd : Bd t n i s) (hi : i < 90) (hn : 2 ≤ n ∧ n ≤ 5) (hm : mayt t d r) (k a b : Int) (hk : 0 ≤ k ∧ k ≤ 255) (ha : 0 ≤ a ∧ a ≤ 255) (hb : 0 ≤ b ∧ b ≤ 255) : Calls Try.prog 35 #[.agg #[.int .i64 t, .int .i64 d, .int .i64 r, x.c, x.l, x.u, x.v, x.d, x.r, x.g, x.b, .int .u64 s.top, .bool true], .agg #[.int .u8 k, .int .u8 a, .int .u8 b]] W (Pst w0 B W tag t d r n s) := by
  obtain ⟨q0, hq0, hq⟩ := exi ha.1 (show n ≠ 0 by omega)
  have hc : k % 6 = 0 ∨ k % 6 = 1 ∨ k % 6 = 2 ∨ k % 6 = 3 ∨ k % 6 = 4 ∨ k % 6 = 5 := by omega
  rcases hc with c | c | c | c | c | c
  · cases hu : s.isup (q0 : Int) with
    | true => exact hap_tick w0 B W tag x s t d r n i h hd hi hn k a b hk ha hb q0 hq c hu
    | false => exact hap_tick0 w0 B W tag x s t d r n i h hd hi hn k a b hk ha hb q0 hq c hu
  · cases hu : s.isup (q0 : Int) with
    | true => exact hap_fall w0 B W tag x s t d r n i h hd hi hn k a b hk ha hb q0 hq c hu
    | false => exact hap_fall0 w0 B W tag x s t d r n i h hd hi hn k a b hk ha hb q0 hq c hu
  · cases hu : s.isup (q0 : Int) with
    | true => exact hap_rise0 w0 B W tag x s t d r n i h hd hi hn k a b hk ha hb q0 hq c hu
    | false => exact hap_rise w0 B W tag x s t d r n i h hd hi hn k a b hk ha hb q0 hq c hm hu
  · cases hu : s.isup (q0 : Int) with
    | true => exact hap_ask w0 B W tag x s t d r n i h hd hi hn k a b hk ha hb q0 hq c hu
    | false => exact hap_ask0 w0 B W tag x s t d r n i h hd hi hn k a b hk ha hb q0 hq c hu
  · exact hap_come4 w0 B W tag x s t d r n i h hd hi hn k a b hk ha hb q0 hq c hm
  · exact hap_come5 w0 B W tag x s t d r n i h hd hi hn k a b hk ha hb q0 hq c hm
end Go.Proofs.Ytgfblogneggpmaa.One
