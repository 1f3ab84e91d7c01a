/- chapter 18's law: a node asks all others, and itself; by hand. -/
import Derived.Test.YtgfblogneggpmaaFnx0
import Derived.Test.YtgfblogneggpmaaFnx27
import Derived.Test.YtgfblogneggpmaaOneB
namespace Go.Proofs.Ytgfblogneggpmaa.One
open Go.RowKit Go.Proofs.Ytgfblogneggpmaa.Fn Go.Proofs.YtgfblogneggpmaaW.PrintWords Go.Proofs.YtgfblogneggpmaaW.PrintLast Go.Proofs.YtgfblogneggpmaaW.PrintMore Go.Proofs.Ytgfblogneggpmaa.Vote Go.Proofs.Ytgfblogneggpmaa.Clk Go.Proofs.Ytgfblogneggpmaa.Thr
set_option linter.unusedVariables false
set_option linter.unusedSimpArgs false
set_option maxRecDepth 100000
theorem info116b : (Try.prog.info? 116).map (fun i => (i.zero, i.size, i.bytes)) = some (some (.agg #[.int .i64 0, .int .i64 0, .int .u64 0, .int .i64 0, .int .i64 0]), 5, 40) := by kernel_rfl
/-- What a function leaves that makes the nodes s'. -/
def Ps2 (w0 : World) (B : Nat) (W : World) (tag : Nat → Nat) (t d r : Int) (s' : St) (e : Ending) (w' : World) : Prop :=
  ∃ x' tag', e = .returned (.agg #[.int .i64 t, .int .i64 d, .int .i64 r, x'.c, x'.l, x'.u, x'.v, x'.d, x'.r, x'.g, x'.b, .int .u64 s'.top, .bool true]) ∧ Nw w0 B W tag w' tag' x' s'
theorem fin_ret2 {fn : Func} {a : Act} {w0 : World} {B : Nat} {W W2 : World} {tag tag' : Nat → Nat} {t d r : Int} {x : NV} {s' : St} {gs : Nat} (hf : fn.results = #[.cell 6 80]) (hd : a.defers = []) (hp : a.tmps.getD 6 undef = .pointer (some ⟨gs, 0, none⟩)) (hz : W2.heap[gs]? = some zblk) (h : Nw w0 B W tag W2 tag' x s') (ht : tag' gs = 0) (h0 : W.heap.size ≤ gs) (hB : B ≤ gs) :
    bodyPost Try.prog fn (Ps2 w0 B W tag t d r s') .ret a (W2.setRow gs #[.int .i64 t, .int .i64 d, .int .i64 r, x.c, x.l, x.u, x.v, x.d, x.r, x.g, x.b, .int .u64 s'.top, .bool true]) :=
  bodyPost_ret (results_cell_row hf _ _ gs 80 _ (0, 0) _ hp (setRow_heap W2 gs _ _ 80 (0, 0) hz) Try.underlying80 rfl info80s) hd ⟨x, tag', rfl, h.setRow ht h0 hB _⟩
/-- The nodes' block, and the result's. -/
structure Lq (w0 : World) (B : Nat) (W : World) (tag : Nat → Nat) (t d r : Int) (x : NV) (s : St) (gw gs : Nat) (W3 : World) (tag3 : Nat → Nat) : Prop where
  nw : Nw w0 B W tag W3 tag3 x s
  bw : W3.heap[gw]? = some (nblk t d r x s.top true)
  bs : W3.heap[gs]? = some zblk
  ws : gw ≠ gs
  ts : tag3 gs = 0
  tw : tag3 gw = 0
  hw : W.heap.size ≤ gw
  hs : W.heap.size ≤ gs
  b0 : B ≤ W.heap.size
section
variable {w0 : World} {B : Nat} {W : World} {tag tag3 : Nat → Nat} {t d r : Int} {x : NV} {s : St} {gw gs gp : Nat} {W1 W3 w1 : World}
theorem Lq.below (h : Lq w0 B W tag t d r x s gw gs W3 tag3) (hb : Below W3.heap.size W3 w1) : Lq w0 B W tag t d r x s gw gs w1 tag3 :=
  { h with nw := h.nw.below hb, bw := blk_below h.bw hb, bs := blk_below h.bs hb }
theorem Lq.drew (h : Lq w0 B W tag t d r x s gw gs W3 tag3) : Lq w0 B W tag t d r x s gw gs W3.drew tag3 := h.below (below_drew (Below.refl _ _))
theorem Lq.alloc (h : Lq w0 B W tag t d r x s gw gs W3 tag3) (o : Obj) : Lq w0 B W tag t d r x s gw gs (W3.alloc o) tag3 := h.below (below_alloc (Below.refl _ _) o)
theorem Lq.start (hE : Ent w0 B W tag t d r x s true gw gs W1) : Lq w0 B W tag t d r x s gw gs W1 tag := ⟨hE.nw, hE.bw, hE.bs, hE.ne, hE.ts, hE.tw, hE.w, hE.s_, hE.b0⟩
/-- A request more. -/
theorem Lq.app (h : Lq w0 B W tag t d r x s gw gs W3 tag3) {wn : World} {vn : Value} {l : List S116} (hR : k116.R 116 wn B (fun k => tag3 k = 6 ∨ W3.heap.size ≤ k) vn l) (hB : Below B w0 wn) (hG : W3.grownBy wn x.r.ownBlock) :
    Lq w0 B W tag t d r { x with r := vn } { s with reqs := l } gw gs (wn.setCell ⟨gw, 8, none⟩ vn) (ri tag3 W3.heap.size wn.heap.size 6) ∧ wn.heap[gw]? = some (nblk t d r x s.top true) ∧ Nw w0 B W tag wn (ri tag3 W3.heap.size wn.heap.size 6) { x with r := vn } { s with reqs := l } := by
  obtain ⟨b1, b2⟩ := Nw.stay (by decide) h.nw.r.1 hG h.bw h.tw
  obtain ⟨b3, b4⟩ := Nw.stay (by decide) h.nw.r.1 hG h.bs h.ts
  have hN := h.nw.app_r hR hB hG
  refine ⟨⟨hN.set0 b2 h.hw (Nat.le_trans h.b0 h.hw) 8 _, ?_, blk_far b3 (fun e => h.ws e.symm) _, h.ws, b4, b2, h.hw, h.hs, h.b0⟩, b1, hN⟩
  have := blk_set b1 8 vn
  exact this
/-- Behind the call: what it made is of kind 9. -/
theorem Lq.called (h : Lq w0 B W tag t d r x s gw gs W3 tag3) (hb : Below W3.heap.size W3 w1) : Lq w0 B W tag t d r x s gw gs w1 (ri tag3 W3.heap.size w1.heap.size 9) := by
  have h1 := h.below hb
  have old : ∀ {k : Nat} {o : Obj}, W3.heap[k]? = some o → tag3 k = 0 → ri tag3 W3.heap.size w1.heap.size 9 k = 0 := fun hk ht => by
    unfold ri
    rw [if_neg (fun q => by have := blk_lt hk; omega)]
    exact ht
  exact { h1 with nw := h.nw.retag h1.nw hb.size 9, ts := old h.bs h.ts, tw := old h.bw h.tw }
/-- .. and with the block of a lead. -/
structure Lg (w0 : World) (B : Nat) (W : World) (tag : Nat → Nat) (t d r : Int) (x : NV) (s : St) (gw gs : Nat) (e : Int) (A : Option Addr) (n c : Nat) (l : List Int) (gb : Nat) (W3 : World) (tag3 : Nat → Nat) : Prop where
  md : Lq w0 B W tag t d r x s gw gs W3 tag3
  bb : W3.heap[gb]? = some (.cells #[.int .u64 e, .slice A n c] 52 (0, 0))
  tb : tag3 gb = 0
  v : Kd.V (Kd.int .i64) 2 W3 B (fun k => tag3 k = 9) (.slice A n c) l
variable {e : Int} {A : Option Addr} {n c : Nat} {l : List Int} {gb : Nat}
theorem Lg.late (h : Lq w0 B W tag t d r x s gw gs W3 tag3) (hb : Below W3.heap.size W3 w1) (hv : Kd.V (Kd.int .i64) 2 w1 W3.heap.size (fun k => tag3 k = 9 ∨ W3.heap.size ≤ k) (.slice A n c) l) :
    Lg w0 B W tag t d r x s gw gs e A n c l w1.heap.size (w1.alloc (.cells #[.int .u64 e, .slice A n c] 52)) (ri tag3 W3.heap.size w1.heap.size 9) :=
  have h1 := h.called hb
  ⟨h1.alloc _, blk_new w1 _, h1.nw.fresh _ (Nat.le_refl _), Kd.V_alloc (called_V hv) _⟩
theorem Lg.early {Wa : World} (hWa : Wa.heap.size = gb) (h : Lq w0 B W tag t d r x s gw gs Wa tag3) (hb : Below ((Wa.alloc (.cells #[.int .u64 0, .slice none 0 0] 52)).drew).heap.size ((Wa.alloc (.cells #[.int .u64 0, .slice none 0 0] 52)).drew) w1) (hv : Kd.V (Kd.int .i64) 2 w1 ((Wa.alloc (.cells #[.int .u64 0, .slice none 0 0] 52)).drew).heap.size (fun k => tag3 k = 9 ∨ ((Wa.alloc (.cells #[.int .u64 0, .slice none 0 0] 52)).drew).heap.size ≤ k) (.slice A n c) l) :
    Lg w0 B W tag t d r x s gw gs e A n c l gb ((w1.setCell ⟨gb, 0, none⟩ (.int .u64 e)).setCell ⟨gb, 1, none⟩ (.slice A n c)) (ri tag3 ((Wa.alloc (.cells #[.int .u64 0, .slice none 0 0] 52)).drew).heap.size w1.heap.size 9) := by
  have h1 := ((h.alloc (.cells #[.int .u64 0, .slice none 0 0] 52)).drew).called hb
  have hz : ((Wa.alloc (.cells #[.int .u64 0, .slice none 0 0] 52)).drew).heap.size = gb + 1 := by simp [hWa]
  have tb : tag3 gb = 0 := h.nw.fresh _ (by omega)
  have tb2 : ri tag3 ((Wa.alloc (.cells #[.int .u64 0, .slice none 0 0] 52)).drew).heap.size w1.heap.size 9 gb = 0 := by
    unfold ri
    rw [if_neg (by omega)]
    exact tb
  have hbb : w1.heap[gb]? = some (.cells #[.int .u64 0, .slice none 0 0] 52 (0, 0)) := by
    have h2 := blk_below (blk_drew (blk_new Wa (.cells #[.int .u64 0, .slice none 0 0] 52))) hb
    rw [hWa] at h2
    exact h2
  have hv2 := called_V (B := B) hv
  have lw := blk_lt h.bw
  have ls := blk_lt h.bs
  have hB : B ≤ gb := by rw [← hWa]; exact h.nw.base
  have h0 : W.heap.size ≤ gb := by rw [← hWa]; exact h.nw.size
  generalize hT : ri tag3 ((Wa.alloc (.cells #[.int .u64 0, .slice none 0 0] 52)).drew).heap.size w1.heap.size 9 = T at *
  have hne : ∀ k, T k = 9 → k ≠ gb := fun k hk q => by rw [q, tb2] at hk; cases hk
  have far : ∀ {g : Nat} {c' : Array Value} {e' : Nat}, g < gb → w1.heap[g]? = some (.cells c' e' (0, 0)) → ((w1.setCell ⟨gb, 0, none⟩ (.int .u64 e)).setCell ⟨gb, 1, none⟩ (.slice A n c)).heap[g]? = some (.cells c' e' (0, 0)) := fun hl hg => blk_far (blk_far hg (fun q => by simp only at q; omega) _) (fun q => by simp only at q; omega) _
  refine ⟨{ h1 with nw := (h1.nw.set0 tb2 h0 hB 0 _).set0 tb2 h0 hB 1 _, bw := far (by omega) h1.bw, bs := far (by omega) h1.bs }, blk_set (blk_set hbb 0 _) 1 _, tb2, ?_⟩
  exact Kd.V_far (p := ⟨gb, 1, none⟩) (Kd.V_far (p := ⟨gb, 0, none⟩) hv2 hne _) hne _
theorem Lg.note (h : Lg w0 B W tag t d r x s gw gs e A n c l gb W3 tag3) {g m c' : Nat} (hx : x.d = .slice (some ⟨g, 0, none⟩) m c') (j : Nat) (hj : j < m) : Lq w0 B W tag t d r { x with raw := x.raw.set j (e, A, n, c) } { s with leads := s.leads.set j ⟨e, l⟩ } gw gs (st2 W3 g j e (.slice A n c)) tag3 := by
  have hg : tag3 g = 5 := h.md.nw.d.1 g (by rw [hx]; simp [Value.ownBlock])
  have far : ∀ {k : Nat} {c : Array Value} {e' : Nat} (y : Value), tag3 k = 0 → W3.heap[k]? = some (.cells c e' (0, 0)) → (st2 W3 g j e y).heap[k]? = some (.cells c e' (0, 0)) := fun y ht hb => by
    rename_i k _ _
    have hne : k ≠ g := fun q => by rw [q, hg] at ht; cases ht
    exact blk_far (blk_far hb hne _) hne _
  exact { h.md with nw := h.md.nw.set_d hx j hj e h.v, bw := far _ h.md.tw h.md.bw, bs := far _ h.md.ts h.md.bs }
theorem Lq.top (h : Lq w0 B W tag t d r x s gw gs W3 tag3) (y : Int) : Lq w0 B W tag t d r x { s with top := y } gw gs (W3.setCell ⟨gw, 11, none⟩ (.int .u64 y)) tag3 := by
  have h1 := h.nw.set0 h.tw h.hw (Nat.le_trans h.b0 h.hw) 11 (.int .u64 y)
  refine ⟨⟨h1.c, h1.l, h1.u, h1.v, h1.d, h1.r, h1.g, h1.b, h1.dl, h1.dv, h1.bel, h1.base, h1.fresh, h1.size, h1.tg, h1.kp⟩, ?_, blk_far h.bs (fun e => h.ws e.symm) _, h.ws, h.ts, h.tw, h.hw, h.hs, h.b0⟩
  have := blk_set h.bw 11 (.int .u64 y)
  exact this
theorem Lg.ok12 (h : Lg w0 B W tag t d r x s gw gs e A n c l gb W3 tag3) (hne : gw ≠ gb) : Lg w0 B W tag t d r x s gw gs e A n c l gb (W3.setCell ⟨gw, 12, none⟩ (.bool true)) tag3 := by
  have hb : (W3.setCell ⟨gw, 12, none⟩ (.bool true)).heap[gw]? = some (nblk t d r x s.top true) := by
    have := blk_set h.md.bw 12 (.bool true)
    exact this
  exact ⟨{ h.md with nw := h.md.nw.set0 h.md.tw h.md.hw (Nat.le_trans h.md.b0 h.md.hw) 12 _, bw := hb, bs := blk_far h.md.bs (fun e => h.md.ws e.symm) _ }, blk_far h.bb (fun q => hne q.symm) _, h.tb, Kd.V_far (p := ⟨gw, 12, none⟩) h.v (fun k hk q => by simp only at q; rw [q, h.md.tw] at hk; cases hk) _⟩
end
/-- The first m requests. -/
def papm (s : St) (a : Int) (m : Nat) : List S116 := (List.range m).map fun (k : Nat) => ⟨a, (k : Int), (s.ld a).f0, s.clk a, s.lf a⟩
theorem papm_succ (s : St) (a : Int) (m : Nat) : papm s a (m + 1) = papm s a m ++ [⟨a, (m : Int), (s.ld a).f0, s.clk a, s.lf a⟩] := by simp [papm, List.range_succ]
theorem papm_len (s : St) (a : Int) (m : Nat) : (papm s a m).length = m := by simp [papm]
theorem none_length (n : Nat) : (none_ n).length = n := by simp [none_]
set_option maxHeartbeats 2000000 in
theorem asks_again (w0 : World) (B : Nat) (W : World) (tag : Nat → Nat) (x : NV) (s : St) (t d r : Int) (n i : Nat) (h : Nw w0 B W tag W tag x s) (hd : Bd t n i s) (hi : i < 90) (hn : 2 ≤ n ∧ n ≤ 5) (q0 : Nat) (ha : q0 < n) (he : (s.ld (q0 : Int)).f0 ≠ 0) : Calls Try.prog 60 #[.agg #[.int .i64 t, .int .i64 d, .int .i64 r, x.c, x.l, x.u, x.v, x.d, x.r, x.g, x.b, .int .u64 s.top, .bool true], .int .i64 (q0 : Int), .bool false] W (Ps2 w0 B W tag t d r (s.ask n (q0 : Int))) := by
  obtain ⟨A1, A2, A3, A4, A5, A6, A7, A8, c1, c2, c3, c4, c5, c6, c7, c8, hx⟩ := h.open
  obtain ⟨raw, vc, vl, vu, vv, vd, vr, vg, vb⟩ := x
  injection hx with hx0 hx1 hx2 hx3 hx4 hx5 hx6 hx7 hx8
  subst hx1 hx2 hx3 hx4 hx5 hx6 hx7 hx8
  clear hx0
  have hu80 := Try.underlying80
  have hu116 := Try.underlying116
  have hu52 := Try.underlying52
  have hlc : n ≤ s.clock.length := Nat.le_of_eq hd.lc.symm
  have hlc2 : s.clock.length ≤ n := Nat.le_of_eq hd.lc
  have hll : n ≤ s.life.length := Nat.le_of_eq hd.ll.symm
  have hlld : n ≤ s.leads.length := Nat.le_of_eq hd.lld.symm
  have hrl := hd.rl
  have HH := Lib.hid h
  have HLC := Lib.hid hd.lc
  have HEP := Lib.hid he
  clear h hd he
  go_enter Try.func60, Try.ntmps60
  go_upto_region 1 with (fail)
  refine wp_gen (fun W1 => Ent w0 B W tag t d r _ s true W.heap.size (W.heap.size + 1) W1) (Ent.start HH.out t d r true) ?_
  intro W1 hE
  generalize W.heap.size + 1 = gs at hE ⊢
  generalize W.heap.size = gw at hE ⊢
  obtain ⟨gd, cd, ed, _, ld, td, hd2⟩ := hE.nw.row_d (by omega)
  obtain ⟨Ad, nd, ⟨d0, d1⟩, dv, df⟩ := hd2 q0 (by omega)
  injection ed with ed ed2 ed3
  clear ed2
  subst ed ed3
  have eld : s.leads.getD q0 z52 = s.ld (q0 : Int) := by unfold St.ld; rw [Int.toNat_natCast]
  rw [eld] at d0 d1
  have hep0 : ((s.ld (q0 : Int)).f0 == 0) = false := beq_eq_false_iff_ne.2 HEP.out
  obtain ⟨z0, z1, z2, z3, z4, z5, z6, z7, z8, z9, z10, z11, z12⟩ := nblk_cells hE.bw
  have HE := Lib.hid hE
  have hq2 : (q0 : Int) < (s.leads.length : Int) := by omega
  have hq0 : (0 : Int) ≤ (q0 : Int) := by omega
  clear hE hd2 df dv eld z0 z1 z2 z3 z4 z5 z6 z8 z9 z10 z11 z12
  go_upto_region 6 with (fail)
  clear d0 d1 z7 hep0
  refine wp_gen (fun W2 => Lq w0 B W tag t d r ⟨raw, .slice A1 s.clock.length c1, .slice A2 s.life.length c2, .slice A3 s.up.length c3, .slice A4 s.votes.length c4, .slice (some ⟨gd, 0, none⟩) s.leads.length c5, .slice A6 s.reqs.length c6, .slice A7 s.grs.length c7, .slice A8 s.beats.length c8⟩ s gw gs W2 tag) (Lq.start HE.out) ?_
  intro W2 hL
  have HL := Lib.hid hL
  clear hL
  go_wp2_with fail
  go_loopg [9] (s.clock.length) (fun gg v9 wr => ∃ m : Nat, v9 = .int .i64 (m : Int) ∧ Aside0 (m ≤ s.clock.length) ∧ Aside0 (s.clock.length ≤ gg + m) ∧ ∃ (RL : List S116) (Ar : Option Addr) (cr : Nat) (tg : Nat → Nat), Aside0 (RL = s.reqs ++ papm s (q0 : Int) m) ∧ Aside0 (Lq w0 B W tag t d r ⟨raw, .slice A1 s.clock.length c1, .slice A2 s.life.length c2, .slice A3 s.up.length c3, .slice A4 s.votes.length c4, .slice (some ⟨gd, 0, none⟩) s.leads.length c5, .slice Ar RL.length cr, .slice A7 s.grs.length c7, .slice A8 s.beats.length c8⟩ { s with reqs := RL } gw gs wr tg))
  case atStart => exact ⟨0, rfl, ⟨Nat.zero_le _⟩, ⟨by omega⟩, s.reqs, A6, c6, tag, ⟨by simp [papm]⟩, ⟨HL.out⟩⟩
  case round =>
    obtain ⟨m, rfl, a1, a2, RL, Ar, cr, tg, a4, a3⟩ := hrel
    obtain ⟨z0, z1, z2, z3, z4, z5, z6, z7, z8, z9, z10, z11, z12⟩ := nblk_cells a3.out.bw
    by_cases hm : m < s.clock.length
    · have hmi : (m : Int) < (s.clock.length : Int) := by omega
      have hm0 : (0 : Int) ≤ (m : Int) := by omega
      obtain ⟨gc, cc, ec, _, lc, tc, hc⟩ := a3.out.nw.row_c (show 0 < s.clock.length by omega)
      obtain ⟨gl, cl, el, _, ll, tl, hl2⟩ := a3.out.nw.row_l (show 0 < s.life.length by omega)
      obtain ⟨gd', cd', ed, _, ld', td', hd2⟩ := a3.out.nw.row_d (show 0 < s.leads.length by omega)
      obtain ⟨y0, y1⟩ := hc q0 (show q0 < s.clock.length by omega)
      obtain ⟨l0, l1⟩ := hl2 q0 (show q0 < s.life.length by omega)
      obtain ⟨Ad', nd', ⟨d0, d1⟩, dv, df⟩ := hd2 q0 (show q0 < s.leads.length by omega)
      injection ec with ec ec2 ec3
      clear ec2
      injection el with el el2 el3
      clear el2
      injection ed with ed ed2 ed3
      clear ed2
      injection ed with ed
      injection ed with ed
      subst ec ec3 el el3 ed ed3
      have eld : s.leads.getD q0 z52 = s.ld (q0 : Int) := by unfold St.ld; rw [Int.toNat_natCast]
      have elf : s.life.getD q0 0 = s.lf (q0 : Int) := by unfold St.lf; rw [Int.toNat_natCast]
      have eck : s.clock.getD q0 0 = s.clk (q0 : Int) := by unfold St.clk; rw [Int.toNat_natCast]
      dsimp only at y0 l0 d0
      rw [eck] at y0
      rw [elf] at l0
      rw [eld] at d0
      have hlen : RL.length ≤ 1000 := by rw [a4.out, List.length_append, papm_len]; omega
      have gcw : gc ≠ gw := fun e => by rw [e, a3.out.tw] at tc; cases tc
      have glw : gl ≠ gw := fun e => by rw [e, a3.out.tw] at tl; cases tl
      have gdw : gd ≠ gw := fun e => by rw [e, a3.out.tw] at td'; cases td'
      have gcw2 : gw ≠ gc := fun e => gcw e.symm
      have glw2 : gw ≠ gl := fun e => glw e.symm
      have gdw2 : gw ≠ gd := fun e => gdw e.symm
      have lw := blk_lt a3.out.bw
      have gwn0 : wr.heap.size ≠ gw := by omega
      have gwn1 : gw ≠ wr.heap.size := by omega
      have gdn0 : wr.heap.size ≠ gd := by omega
      have gdn1 : gd ≠ wr.heap.size := by omega
      have gcn0 : wr.heap.size ≠ gc := by omega
      have gcn1 : gc ≠ wr.heap.size := by omega
      have gln0 : wr.heap.size ≠ gl := by omega
      have gln1 : gl ≠ wr.heap.size := by omega
      have hq3 : (q0 : Int) < (s.clock.length : Int) := by omega
      have hq4 : (q0 : Int) < (s.life.length : Int) := by omega
      obtain ⟨E0, hE0⟩ : ∃ y, y = (s.ld (q0 : Int)).f0 := ⟨_, rfl⟩
      obtain ⟨E1, hE1⟩ : ∃ y, y = s.clk (q0 : Int) := ⟨_, rfl⟩
      obtain ⟨E2, hE2⟩ : ∃ y, y = s.lf (q0 : Int) := ⟨_, rfl⟩
      have HE0 := Lib.hid hE0
      have HE1 := Lib.hid hE1
      have HE2 := Lib.hid hE2
      rw [← hE0] at d0
      rw [← hE1] at y0
      rw [← hE2] at l0
      clear hc hl2 hd2 dv df d1 y1 l1 z0 z1 z2 z5 z6 z9 z10 z11 z12 eld elf eck hE0 hE1 hE2
      go_upto_region 9 with (fail)
      refine wp_region_held_drew (S := (fun w' => w'.cell? ⟨gw, 3, none⟩ = some (.slice (some ⟨gc, 0, none⟩) s.clock.length c1) ∧ w'.cell? ⟨gw, 4, none⟩ = some (.slice (some ⟨gl, 0, none⟩) s.life.length c2) ∧ w'.cell? ⟨gw, 7, none⟩ = some (.slice (some ⟨gd, 0, none⟩) s.leads.length c5) ∧ w'.cell? ⟨gc, q0, none⟩ = some (.int .i64 E1) ∧ w'.cell? ⟨gl, q0, none⟩ = some (.int .i64 E2) ∧ w'.cell? ⟨gd, q0 * 2, none⟩ = some (.int .u64 E0))) (by kernel_rfl) (by first | go_keep | (refine ⟨?_, ?_, ?_, ?_, ?_, ?_⟩ <;> first | assumption | go_keep) | assumption) (fun hHeld => ?_)
      refine wpAnyH_take (i := 0) (v := ?_) rfl (by kernel_rfl) (by kernel_rfl) (by kernel_rfl) (fun _ _ _ h => h) (Or.inl ⟨by rfl, ?_⟩) (by assumption) ?_
      rotate_left
      · intro w hSw; (try dsimp only at hSw); go_simp; (try with_reducible rfl)
      simp only [Act.put, List.setIfInBounds_toArray, List.set_cons_zero, List.set_cons_succ]
      refine wpAnyH_take (i := 2) (v := ?_) rfl (by kernel_rfl) (by kernel_rfl) (by kernel_rfl) (fun _ _ _ h => h) (Or.inl ⟨by rfl, ?_⟩) (by assumption) ?_
      rotate_left
      · intro w hSw; (try dsimp only at hSw); go_simp; (try with_reducible rfl)
      simp only [Act.put, List.setIfInBounds_toArray, List.set_cons_zero, List.set_cons_succ]
      refine wpAnyH_take (i := 3) (v := ?_) rfl (by kernel_rfl) (by kernel_rfl) (by kernel_rfl) (fun _ _ _ h => h) (Or.inl ⟨by rfl, ?_⟩) (by assumption) ?_
      rotate_left
      · intro w hSw; (try dsimp only at hSw); go_simp; (try with_reducible rfl)
      simp only [Act.put, List.setIfInBounds_toArray, List.set_cons_zero, List.set_cons_succ]
      refine wpAnyH_take (i := 4) (v := ?_) rfl (by kernel_rfl) (by kernel_rfl) (by kernel_rfl) (fun _ _ _ h => h) (Or.inl ⟨by rfl, ?_⟩) (by assumption) ?_
      rotate_left
      · intro w hSw; (try dsimp only at hSw); go_simp; (try with_reducible rfl)
      simp only [Act.put, List.setIfInBounds_toArray, List.set_cons_zero, List.set_cons_succ]
      refine wpAnyH_take (i := 5) (v := ?_) rfl (by kernel_rfl) (by kernel_rfl) (by kernel_rfl) (fun _ _ _ h => h) (Or.inl ⟨by rfl, ?_⟩) (by assumption) ?_
      rotate_left
      · intro w hSw; (try dsimp only at hSw); go_simp; (try with_reducible rfl)
      simp only [Act.put, List.setIfInBounds_toArray, List.set_cons_zero, List.set_cons_succ]
      refine wpAnyH_take (i := 6) (v := ?_) rfl (by kernel_rfl) (by kernel_rfl) (by kernel_rfl) (fun _ _ _ h => h) (Or.inl ⟨by rfl, ?_⟩) (by assumption) ?_
      rotate_left
      · intro w hSw; (try dsimp only at hSw); go_simp; (try with_reducible rfl)
      simp only [Act.put, List.setIfInBounds_toArray, List.set_cons_zero, List.set_cons_succ]
      refine wpAnyH_take (i := 7) (v := ?_) rfl (by kernel_rfl) (by kernel_rfl) (by kernel_rfl) (fun _ _ _ h => h) (Or.inl ⟨by rfl, ?_⟩) (by assumption) ?_
      rotate_left
      · intro w hSw; (try dsimp only at hSw); go_simp; (try with_reducible rfl)
      simp only [Act.put, List.setIfInBounds_toArray, List.set_cons_zero, List.set_cons_succ]
      refine wpAnyH_take (i := 8) (v := ?_) rfl (by kernel_rfl) (by kernel_rfl) (by kernel_rfl) (fun _ _ _ h => h) (Or.inl ⟨by rfl, ?_⟩) (by assumption) ?_
      rotate_left
      · intro w hSw; (try dsimp only at hSw); go_simp; (try with_reducible rfl)
      simp only [Act.put, List.setIfInBounds_toArray, List.set_cons_zero, List.set_cons_succ]
      refine wpAnyH_take (i := 9) (v := ?_) rfl (by kernel_rfl) (by kernel_rfl) (by kernel_rfl) (fun _ _ _ h => h) (Or.inl ⟨by rfl, ?_⟩) (by assumption) ?_
      rotate_left
      · intro w hSw; (try dsimp only at hSw); go_simp; (try with_reducible rfl)
      simp only [Act.put, List.setIfInBounds_toArray, List.set_cons_zero, List.set_cons_succ]
      refine wpAnyH_take (i := 10) (v := ?_) rfl (by kernel_rfl) (by kernel_rfl) (by kernel_rfl) (fun _ _ _ h => h) (Or.inl ⟨by rfl, ?_⟩) (by assumption) ?_
      rotate_left
      · intro w hSw; (try dsimp only at hSw); go_simp; (try with_reducible rfl)
      simp only [Act.put, List.setIfInBounds_toArray, List.set_cons_zero, List.set_cons_succ]
      refine wpAnyH_take (i := 11) (v := ?_) rfl (by kernel_rfl) (by kernel_rfl) (by kernel_rfl) (fun _ _ _ h => h) (Or.inl ⟨by rfl, ?_⟩) (by assumption) ?_
      rotate_left
      · intro w hSw; (try dsimp only at hSw); go_simp; (try with_reducible rfl)
      simp only [Act.put, List.setIfInBounds_toArray, List.set_cons_zero, List.set_cons_succ]
      refine wpAnyH_take (i := 12) (v := ?_) rfl (by kernel_rfl) (by kernel_rfl) (by kernel_rfl) (fun _ _ _ h => h) (Or.inl ⟨by rfl, ?_⟩) (by assumption) ?_
      rotate_left
      · intro w hSw; (try dsimp only at hSw); go_simp; (try with_reducible rfl)
      simp only [Act.put, List.setIfInBounds_toArray, List.set_cons_zero, List.set_cons_succ]
      refine wpAnyH_take (i := 13) (v := ?_) rfl (by kernel_rfl) (by kernel_rfl) (by kernel_rfl) (fun _ _ _ h => h) (Or.inl ⟨by rfl, ?_⟩) (by assumption) ?_
      rotate_left
      · intro w hSw; (try dsimp only at hSw); go_simp; (try with_reducible rfl)
      simp only [Act.put, List.setIfInBounds_toArray, List.set_cons_zero, List.set_cons_succ]
      refine wpAnyH_take (i := 14) (v := ?_) rfl (by kernel_rfl) (by kernel_rfl) (by kernel_rfl) (fun _ _ _ h => h) (Or.inl ⟨by rfl, ?_⟩) (by assumption) ?_
      rotate_left
      · intro w hSw; (try dsimp only at hSw); go_simp; (try with_reducible rfl)
      simp only [Act.put, List.setIfInBounds_toArray, List.set_cons_zero, List.set_cons_succ]
      refine wpAnyH_take (i := 15) (v := ?_) rfl (by kernel_rfl) (by kernel_rfl) (by kernel_rfl) (fun _ _ _ h => h) (Or.inl ⟨by rfl, ?_⟩) (by assumption) ?_
      rotate_left
      · intro w hSw; (try dsimp only at hSw); go_simp; (try with_reducible rfl)
      simp only [Act.put, List.setIfInBounds_toArray, List.set_cons_zero, List.set_cons_succ]
      refine wpAnyH_take (i := 16) (v := ?_) rfl (by kernel_rfl) (by kernel_rfl) (by kernel_rfl) (fun _ _ _ h => h) (Or.inl ⟨by rfl, ?_⟩) (by assumption) ?_
      rotate_left
      · intro w hSw; (try dsimp only at hSw); go_simp; (try with_reducible rfl)
      simp only [Act.put, List.setIfInBounds_toArray, List.set_cons_zero, List.set_cons_succ]
      refine wpAnyH_take (i := 17) (v := ?_) rfl (by kernel_rfl) (by kernel_rfl) (by kernel_rfl) (fun _ _ _ h => h) (Or.inl ⟨by rfl, ?_⟩) (by assumption) ?_
      rotate_left
      · intro w hSw; (try dsimp only at hSw); go_simp; (try with_reducible rfl)
      simp only [Act.put, List.setIfInBounds_toArray, List.set_cons_zero, List.set_cons_succ]
      refine wpAnyH_take (i := 18) (v := ?_) rfl (by kernel_rfl) (by kernel_rfl) (by kernel_rfl) (fun _ _ _ h => h) (Or.inl ⟨by rfl, ?_⟩) (by assumption) ?_
      rotate_left
      · intro w hSw; (try dsimp only at hSw); go_simp; (try with_reducible rfl)
      simp only [Act.put, List.setIfInBounds_toArray, List.set_cons_zero, List.set_cons_succ]
      refine wpAnyH_take (i := 19) (v := ?_) rfl (by kernel_rfl) (by kernel_rfl) (by kernel_rfl) (fun _ _ _ h => h) (Or.inl ⟨by rfl, ?_⟩) (by assumption) ?_
      rotate_left
      · intro w hSw; (try dsimp only at hSw); go_simp; (try with_reducible rfl)
      simp only [Act.put, List.setIfInBounds_toArray, List.set_cons_zero, List.set_cons_succ]
      refine wpAnyH_take (i := 20) (v := ?_) rfl (by kernel_rfl) (by kernel_rfl) (by kernel_rfl) (fun _ _ _ h => h) (Or.inl ⟨by rfl, ?_⟩) (by assumption) ?_
      rotate_left
      · intro w hSw; (try dsimp only at hSw); go_simp; (try with_reducible rfl)
      simp only [Act.put, List.setIfInBounds_toArray, List.set_cons_zero, List.set_cons_succ]
      refine wpAnyH_ready (rs := [1, 21]) (by kernel_rfl) (by simp) ?_
      refine AllReadyH.cons (by rfl) (fun K hK => ?_) (AllReadyH.cons (by rfl) (fun K hK => ?_) AllReadyH.nil)
      go_simp
      refine hK.out _ _ (by first | go_keep | (refine ⟨?_, ?_, ?_, ?_, ?_, ?_⟩ <;> first | assumption | go_keep) | assumption) (fun hHeld => ?_)
      clear hK K
      (try simp only [Act.put, List.setIfInBounds_toArray, List.set_cons_zero, List.set_cons_succ])
      refine wpAnyH_ready (rs := [21]) (by kernel_rfl) (by simp) ?_
      refine AllReadyH.cons (by rfl) (fun K hK => ?_) AllReadyH.nil
      go_simp
      refine hK.out _ _ (by first | go_keep | (refine ⟨?_, ?_, ?_, ?_, ?_, ?_⟩ <;> first | assumption | go_keep) | assumption) (fun hHeld => ?_)
      clear hK K
      (try simp only [Act.put, List.setIfInBounds_toArray, List.set_cons_zero, List.set_cons_succ])
      refine wpAnyH_ready (rs := [22]) (by kernel_rfl) (by simp) ?_
      refine AllReadyH.cons (by rfl) (fun K hK => ?_) AllReadyH.nil
      refine Kd.R_append_step k116 (w0 := w0) (W := wr.drew) B (by rfl) (.tmp 55) (.tmp 75) 77 116 (.agg #[.int .i64 0, .int .i64 0, .int .u64 0, .int .i64 0, .int .i64 0]) 40 (by rfl) Try.underlying77 info116b (by rfl) (by decide) (by omega) (.slice Ar RL.length cr) RL ⟨(q0 : Int), (m : Int), E0, E1, E2⟩ [.int .i64 (q0 : Int), .int .i64 (m : Int), .int .u64 E0, .int .i64 E1, .int .i64 E2] (fun k => tg k = 6 ∨ wr.drew.heap.size ≤ k) (fun _ => False) (by rfl) (by rfl) (k116_mkM _ _ _ ⟨(q0 : Int), (m : Int), E0, E1, E2⟩) (fun _ h => h.elim) (fun k hk => .inr hk) (Kd.R_mono a3.out.drew.nw.r (fun k hk => .inl hk)) a3.out.drew.nw.bel a3.out.drew.nw.base (by omega) ?_
      intro vn wn hR hBn hG hat
      obtain ⟨An, cn, hvn⟩ := Kd.R_slice hR
      rw [List.length_append, List.length_singleton] at hvn
      subst hvn
      obtain ⟨hF, hbw, hN⟩ := a3.out.drew.app hR hBn hG
      obtain ⟨k0, k1, k2, k3, k4, k5, k6, k7, k8, k9, k10, k11, k12⟩ := nblk_cells hbw
      have kf := blk_frozen hbw 8
      obtain ⟨gc', cc', ec, _, _, _, hc⟩ := hN.row_c (show 0 < s.clock.length by omega)
      obtain ⟨gl', cl', el, _, _, _, hl2⟩ := hN.row_l (show 0 < s.life.length by omega)
      obtain ⟨gd', cd', ed, _, _, _, hd2⟩ := hN.row_d (show 0 < s.leads.length by omega)
      injection ec with ec ec2 ec3
      clear ec2
      injection ec with ec
      injection ec with ec
      injection el with el el2 el3
      clear el2
      injection el with el
      injection el with el
      injection ed with ed ed2 ed3
      clear ed2
      injection ed with ed
      injection ed with ed
      subst ec el ed ec3 el3 ed3
      obtain ⟨_, _, ⟨kd0, _⟩, _, _⟩ := hd2 q0 (show q0 < s.leads.length by omega)
      have kc : wn.cell? ⟨gc, q0, none⟩ = some (.int .i64 E1) := by rw [HE1.out]; unfold St.clk; rw [Int.toNat_natCast]; exact (hc q0 (show q0 < s.clock.length by omega)).1
      have kl : wn.cell? ⟨gl, q0, none⟩ = some (.int .i64 E2) := by rw [HE2.out]; unfold St.lf; rw [Int.toNat_natCast]; exact (hl2 q0 (show q0 < s.life.length by omega)).1
      have kd : wn.cell? ⟨gd, q0 * 2, none⟩ = some (.int .u64 E0) := by rw [HE0.out]; unfold St.ld; rw [Int.toNat_natCast]; exact kd0
      have s3 : (wn.setCell ⟨gw, 8, none⟩ (.slice An (RL.length + 1) cn)).cell? ⟨gw, 3, none⟩ = some (.slice (some ⟨gc, 0, none⟩) s.clock.length c1) := (World.cell?_setCell_other _ _ _ _ (by simp)).trans k3
      have s4 : (wn.setCell ⟨gw, 8, none⟩ (.slice An (RL.length + 1) cn)).cell? ⟨gw, 4, none⟩ = some (.slice (some ⟨gl, 0, none⟩) s.life.length c2) := (World.cell?_setCell_other _ _ _ _ (by simp)).trans k4
      have s7 : (wn.setCell ⟨gw, 8, none⟩ (.slice An (RL.length + 1) cn)).cell? ⟨gw, 7, none⟩ = some (.slice (some ⟨gd, 0, none⟩) s.leads.length c5) := (World.cell?_setCell_other _ _ _ _ (by simp)).trans k7
      have HF := Lib.hid hF
      clear hR hBn hG hat hF hbw hN hc hl2 hd2 kd0 k0 k1 k2 k5 k6 k9 k10 k11 k12
      refine hK.out _ _ (by first | go_keep | (refine ⟨?_, ?_, ?_, ?_, ?_, ?_⟩ <;> first | assumption | go_keep) | assumption) (fun hHeld => ?_)
      clear hK K
      (try simp only [Act.put, List.setIfInBounds_toArray, List.set_cons_zero, List.set_cons_succ])
      refine wpAnyH_take (i := 23) (v := ?_) rfl (by kernel_rfl) (by kernel_rfl) (by kernel_rfl) (fun _ _ _ h => h) (Or.inl ⟨by rfl, ?_⟩) (by assumption) ?_
      rotate_left
      · intro w hSw; (try dsimp only at hSw); go_simp; (try with_reducible rfl)
      simp only [Act.put, List.setIfInBounds_toArray, List.set_cons_zero, List.set_cons_succ]
      refine wpAnyH_ready (rs := [24]) (by kernel_rfl) (by simp) ?_
      refine AllReadyH.cons (by rfl) (fun K hK => ?_) AllReadyH.nil
      go_simp
      refine hK.out _ _ (by first | go_keep | (refine ⟨?_, ?_, ?_, ?_, ?_, ?_⟩ <;> first | assumption | go_keep) | assumption) (fun hHeld => ?_)
      clear hK K
      (try simp only [Act.put, List.setIfInBounds_toArray, List.set_cons_zero, List.set_cons_succ])
      refine wpAnyH_done (by kernel_rfl) ?_ _
      rotate_left
      go_simp
      refine hK.out _ _ (by first | go_keep | (refine ⟨?_, ?_, ?_, ?_, ?_, ?_⟩ <;> first | assumption | go_keep) | assumption) (fun hHeld => ?_)
      clear hK K
      (try simp only [Act.put, List.setIfInBounds_toArray, List.set_cons_zero, List.set_cons_succ])
      refine wpAnyH_ready (rs := [1]) (by kernel_rfl) (by simp) ?_
      refine AllReadyH.cons (by rfl) (fun K hK => ?_) AllReadyH.nil
      go_simp
      refine hK.out _ _ (by first | go_keep | (refine ⟨?_, ?_, ?_, ?_, ?_, ?_⟩ <;> first | assumption | go_keep) | assumption) (fun hHeld => ?_)
      clear hK K
      (try simp only [Act.put, List.setIfInBounds_toArray, List.set_cons_zero, List.set_cons_succ])
      refine wpAnyH_ready (rs := [22]) (by kernel_rfl) (by simp) ?_
      refine AllReadyH.cons (by rfl) (fun K hK => ?_) AllReadyH.nil
      refine Kd.R_append_step k116 (w0 := w0) (W := wr.drew) B (by rfl) (.tmp 55) (.tmp 75) 77 116 (.agg #[.int .i64 0, .int .i64 0, .int .u64 0, .int .i64 0, .int .i64 0]) 40 (by rfl) Try.underlying77 info116b (by rfl) (by decide) (by omega) (.slice Ar RL.length cr) RL ⟨(q0 : Int), (m : Int), E0, E1, E2⟩ [.int .i64 (q0 : Int), .int .i64 (m : Int), .int .u64 E0, .int .i64 E1, .int .i64 E2] (fun k => tg k = 6 ∨ wr.drew.heap.size ≤ k) (fun _ => False) (by rfl) (by rfl) (k116_mkM _ _ _ ⟨(q0 : Int), (m : Int), E0, E1, E2⟩) (fun _ h => h.elim) (fun k hk => .inr hk) (Kd.R_mono a3.out.drew.nw.r (fun k hk => .inl hk)) a3.out.drew.nw.bel a3.out.drew.nw.base (by omega) ?_
      intro vn wn hR hBn hG hat
      obtain ⟨An, cn, hvn⟩ := Kd.R_slice hR
      rw [List.length_append, List.length_singleton] at hvn
      subst hvn
      obtain ⟨hF, hbw, hN⟩ := a3.out.drew.app hR hBn hG
      obtain ⟨k0, k1, k2, k3, k4, k5, k6, k7, k8, k9, k10, k11, k12⟩ := nblk_cells hbw
      have kf := blk_frozen hbw 8
      obtain ⟨gc', cc', ec, _, _, _, hc⟩ := hN.row_c (show 0 < s.clock.length by omega)
      obtain ⟨gl', cl', el, _, _, _, hl2⟩ := hN.row_l (show 0 < s.life.length by omega)
      obtain ⟨gd', cd', ed, _, _, _, hd2⟩ := hN.row_d (show 0 < s.leads.length by omega)
      injection ec with ec ec2 ec3
      clear ec2
      injection ec with ec
      injection ec with ec
      injection el with el el2 el3
      clear el2
      injection el with el
      injection el with el
      injection ed with ed ed2 ed3
      clear ed2
      injection ed with ed
      injection ed with ed
      subst ec el ed ec3 el3 ed3
      obtain ⟨_, _, ⟨kd0, _⟩, _, _⟩ := hd2 q0 (show q0 < s.leads.length by omega)
      have kc : wn.cell? ⟨gc, q0, none⟩ = some (.int .i64 E1) := by rw [HE1.out]; unfold St.clk; rw [Int.toNat_natCast]; exact (hc q0 (show q0 < s.clock.length by omega)).1
      have kl : wn.cell? ⟨gl, q0, none⟩ = some (.int .i64 E2) := by rw [HE2.out]; unfold St.lf; rw [Int.toNat_natCast]; exact (hl2 q0 (show q0 < s.life.length by omega)).1
      have kd : wn.cell? ⟨gd, q0 * 2, none⟩ = some (.int .u64 E0) := by rw [HE0.out]; unfold St.ld; rw [Int.toNat_natCast]; exact kd0
      have s3 : (wn.setCell ⟨gw, 8, none⟩ (.slice An (RL.length + 1) cn)).cell? ⟨gw, 3, none⟩ = some (.slice (some ⟨gc, 0, none⟩) s.clock.length c1) := (World.cell?_setCell_other _ _ _ _ (by simp)).trans k3
      have s4 : (wn.setCell ⟨gw, 8, none⟩ (.slice An (RL.length + 1) cn)).cell? ⟨gw, 4, none⟩ = some (.slice (some ⟨gl, 0, none⟩) s.life.length c2) := (World.cell?_setCell_other _ _ _ _ (by simp)).trans k4
      have s7 : (wn.setCell ⟨gw, 8, none⟩ (.slice An (RL.length + 1) cn)).cell? ⟨gw, 7, none⟩ = some (.slice (some ⟨gd, 0, none⟩) s.leads.length c5) := (World.cell?_setCell_other _ _ _ _ (by simp)).trans k7
      have HF := Lib.hid hF
      clear hR hBn hG hat hF hbw hN hc hl2 hd2 kd0 k0 k1 k2 k5 k6 k9 k10 k11 k12
      refine hK.out _ _ (by first | go_keep | (refine ⟨?_, ?_, ?_, ?_, ?_, ?_⟩ <;> first | assumption | go_keep) | assumption) (fun hHeld => ?_)
      clear hK K
      (try simp only [Act.put, List.setIfInBounds_toArray, List.set_cons_zero, List.set_cons_succ])
      refine wpAnyH_take (i := 23) (v := ?_) rfl (by kernel_rfl) (by kernel_rfl) (by kernel_rfl) (fun _ _ _ h => h) (Or.inl ⟨by rfl, ?_⟩) (by assumption) ?_
      rotate_left
      · intro w hSw; (try dsimp only at hSw); go_simp; (try with_reducible rfl)
      simp only [Act.put, List.setIfInBounds_toArray, List.set_cons_zero, List.set_cons_succ]
      refine wpAnyH_ready (rs := [24]) (by kernel_rfl) (by simp) ?_
      refine AllReadyH.cons (by rfl) (fun K hK => ?_) AllReadyH.nil
      go_simp
      refine hK.out _ _ (by first | go_keep | (refine ⟨?_, ?_, ?_, ?_, ?_, ?_⟩ <;> first | assumption | go_keep) | assumption) (fun hHeld => ?_)
      clear hK K
      (try simp only [Act.put, List.setIfInBounds_toArray, List.set_cons_zero, List.set_cons_succ])
      refine wpAnyH_done (by kernel_rfl) ?_ _
      all_goals go_wp2
      all_goals
        go_roundg (s.clock.length - (m + 1))
        case measure => have := a2.out; omega
        case rel => exact ⟨m + 1, by first | rfl | go_num | (simp; done), ⟨by omega⟩, ⟨by omega⟩, RL ++ [⟨(q0 : Int), (m : Int), E0, E1, E2⟩], An, cn, _, ⟨by rw [papm_succ, ← List.append_assoc, ← a4.out, HE0.out, HE1.out, HE2.out]⟩, ⟨by rw [List.length_append, List.length_singleton]; exact HF.out⟩⟩
    · have e : m = s.clock.length := by have := a1.out; omega
      subst e
      have hfin : { s with reqs := RL } = s.ask n (q0 : Int) := by
        rw [a4.out, HLC.out]
        rfl
      have h3 := a3.out
      rw [hfin] at h3
      have H3 := Lib.hid h3
      clear h3 hfin z0 z1 z2 z4 z5 z6 z7 z8 z9 z10 z11 z12
      go_upto_region 10 with (fail)
      refine reg_ret 78 (gw := gw) (gs := gs) (by rfl) (by rfl) (by rfl) (by rfl) (by rfl) (by rfl) (by rfl) (by rfl) (by rfl) H3.out.bw H3.out.bs (by rfl) (by rfl) (by simp [Value.oneCell']) ?_
      go_wp2
      exact fin_ret2 (by rfl) (by rfl) (by rfl) H3.out.bs H3.out.nw H3.out.ts H3.out.hs (Nat.le_trans H3.out.b0 H3.out.hs)
set_option maxHeartbeats 2000000 in
theorem asks_fresh (w0 : World) (B : Nat) (W : World) (tag : Nat → Nat) (x : NV) (s : St) (t d r : Int) (n i : Nat) (h : Nw w0 B W tag W tag x s) (hd : Bd t n i s) (hi : i < 90) (hn : 2 ≤ n ∧ n ≤ 5) (q0 : Nat) (ha : q0 < n)  : Calls Try.prog 60 #[.agg #[.int .i64 t, .int .i64 d, .int .i64 r, x.c, x.l, x.u, x.v, x.d, x.r, x.g, x.b, .int .u64 s.top, .bool true], .int .i64 (q0 : Int), .bool true] W (Ps2 w0 B W tag t d r ((s.start n (q0 : Int)).ask n (q0 : Int))) := by
  obtain ⟨A1, A2, A3, A4, A5, A6, A7, A8, c1, c2, c3, c4, c5, c6, c7, c8, hx⟩ := h.open
  obtain ⟨raw, vc, vl, vu, vv, vd, vr, vg, vb⟩ := x
  injection hx with hx0 hx1 hx2 hx3 hx4 hx5 hx6 hx7 hx8
  subst hx1 hx2 hx3 hx4 hx5 hx6 hx7 hx8
  clear hx0
  have hu80 := Try.underlying80
  have hu116 := Try.underlying116
  have hu52 := Try.underlying52
  have hlc : n ≤ s.clock.length := Nat.le_of_eq hd.lc.symm
  have hlc2 : s.clock.length ≤ n := Nat.le_of_eq hd.lc
  have hll : n ≤ s.life.length := Nat.le_of_eq hd.ll.symm
  have hlld : n ≤ s.leads.length := Nat.le_of_eq hd.lld.symm
  have hrl := hd.rl
  have HH := Lib.hid h
  have HLC := Lib.hid hd.lc
  have htp : 0 ≤ s.top ∧ s.top ≤ 90 := by have := hd.tp; omega
  have hld := hd.ld (q0 : Int) ⟨by omega, by omega⟩
  have hok : leadok (s.ld (q0 : Int)).f1 = true := leadok_of (by rw [hld.2.1]; omega) (by rw [hld.2.1]; omega) (fun y hy => by have := hld.2.2 y hy; omega)
  have hst : lead_Start.f (s.ld (q0 : Int)).f0 (s.ld (q0 : Int)).f1 (s.top + 1) = some (s.top + 1, none_ n, 0) := by
    unfold lead_Start.f lead_Check.f
    rw [hok, if_pos rfl, Option.bind_some, if_pos rfl, if_neg (by have := hld.1; omega), hld.2.1, lnew_eq _ (by omega) (by omega), Option.bind_some]
    rfl
  have HST := Lib.hid hst
  obtain ⟨ht0, ht1⟩ := htp
  clear h hd hld hok hst
  go_enter Try.func60, Try.ntmps60
  go_upto_region 1 with (fail)
  refine wp_gen (fun W1 => Ent w0 B W tag t d r _ s true W.heap.size (W.heap.size + 1) W1) (Ent.start HH.out t d r true) ?_
  intro W1 hE
  generalize W.heap.size + 1 = gs at hE ⊢
  generalize W.heap.size = gw at hE ⊢
  obtain ⟨gd, cd, ed, _, ld, td, hd2⟩ := hE.nw.row_d (by omega)
  obtain ⟨Ad, nd, ⟨d0, d1⟩, dv, df⟩ := hd2 q0 (by omega)
  injection ed with ed ed2 ed3
  clear ed2
  subst ed ed3
  have eld : s.leads.getD q0 z52 = s.ld (q0 : Int) := by unfold St.ld; rw [Int.toNat_natCast]
  rw [eld] at d0 d1
  obtain ⟨z0, z1, z2, z3, z4, z5, z6, z7, z8, z9, z10, z11, z12⟩ := nblk_cells hE.bw
  have HE := Lib.hid hE
  have hq2 : (q0 : Int) < (s.leads.length : Int) := by omega
  have hq0 : (0 : Int) ≤ (q0 : Int) := by omega
  have zf := blk_frozen hE.bw 11
  clear hE hd2 df dv eld z0 z1 z2 z3 z4 z5 z6 z8 z9 z10 z12 z7
  go_upto_region 3 with (fail)
  refine wp_gen (fun W2 => Lq w0 B W tag t d r ⟨raw, .slice A1 s.clock.length c1, .slice A2 s.life.length c2, .slice A3 s.up.length c3, .slice A4 s.votes.length c4, .slice (some ⟨gd, 0, none⟩) s.leads.length c5, .slice A6 s.reqs.length c6, .slice A7 s.grs.length c7, .slice A8 s.beats.length c8⟩ { s with top := s.top + 1 } gw gs W2 tag) ((Lq.start HE.out).top (s.top + 1)) ?_
  intro W2 hM
  clear zf z11 d0 d1 
  obtain ⟨gd', cd', ed, _, ld, td', hd2⟩ := hM.nw.row_d (show 0 < s.leads.length by omega)
  obtain ⟨Ad, nd, ⟨d0, d1⟩, dv, df⟩ := hd2 q0 (show q0 < s.leads.length by omega)
  injection ed with ed ed2 ed3
  injection ed with ed
  injection ed with ed
  clear ed2
  subst ed ed3
  have eld : s.leads.getD q0 z52 = s.ld (q0 : Int) := by unfold St.ld; rw [Int.toNat_natCast]
  dsimp only at d0 d1 dv
  rw [eld] at d0 d1 dv
  have hst := HST.out
  obtain ⟨L, hL⟩ : ∃ L, L = s.ld (q0 : Int) := ⟨_, rfl⟩
  rw [← hL] at d0 d1 dv hst
  clear eld hL
  obtain ⟨le, ll⟩ := L
  simp only at d0 d1 dv hst
  obtain ⟨z0, z1, z2, z3, z4, z5, z6, z7, z8, z9, z10, z11, z12⟩ := nblk_cells hM.bw
  have lw3 := blk_lt hM.bw
  have HM3 := Lib.hid hM
  have HV := Lib.hid dv
  have HST2 := Lib.hid hst
  have gw1 : gw < W2.heap.size + 1 := by omega
  have gd1 : gd < W2.heap.size + 1 := by omega
  have gwn0 : W2.heap.size ≠ gw := by omega
  have gwn1 : gw ≠ W2.heap.size := by omega
  have gdn0 : W2.heap.size ≠ gd := by omega
  have gdn1 : gd ≠ W2.heap.size := by omega
  have gs1 : W2.heap.size < W2.heap.size + 1 := by omega
  clear hM hd2 dv hst z0 z1 z2 z3 z4 z5 z6 z8 z9 z10 z12 df
  go_cut [7, 8] (fun s7 s8 wx => s8 = .int .i64 0 ∧ ∃ (gb : Nat) (tg : Nat → Nat) (Ar : Option Addr) (cr : Nat), s7 = .pointer (some ⟨gb, 0, none⟩) ∧ gw ≠ gb ∧ Lg w0 B W tag t d r ⟨raw, .slice A1 s.clock.length c1, .slice A2 s.life.length c2, .slice A3 s.up.length c3, .slice A4 s.votes.length c4, .slice (some ⟨gd, 0, none⟩) s.leads.length c5, .slice A6 s.reqs.length c6, .slice A7 s.grs.length c7, .slice A8 s.beats.length c8⟩ { s with top := s.top + 1 } gw gs (s.top + 1) Ar n cr (none_ n) gb wx tg)
  case first =>
    go_region_held3 (fun w' => w'.cell? ⟨gw, 7, none⟩ = some (.slice (some ⟨gd, 0, none⟩) s.leads.length c5) ∧ w'.cell? ⟨gw, 11, none⟩ = some (.int .u64 (s.top + 1)) ∧ w'.cell? ⟨gd, q0 * 2, none⟩ = some (.int .u64 le) ∧ w'.cell? ⟨gd, q0 * 2 + 1, none⟩ = some (.slice Ad ll.length nd)) (go_keep)
      (first | (go_at_call 29
                refine (lead_Start.calls le (fun k => tag k = 9) Ad nd ll _ _ _ _ _ (Kd.V_below HV.out (by first | exact below_drew (Below.refl _ _) | exact below_drew (below_alloc (Below.refl _ _) _) | exact below_alloc (below_drew (Below.refl _ _)) _)) HST2.out).mono ?_
                rintro e w1 ⟨vr, rfl, hv, hb⟩
                obtain ⟨hcc, hff⟩ := bcell hb
                have hbT : Below W2.heap.size W2 w1 := by first | exact (below_drew (Below.refl _ _)).trans (hb.mono (by simp)) | exact (below_drew (below_alloc (Below.refl _ _) _)).trans (hb.mono (by simp)) | exact (below_alloc (below_drew (Below.refl _ _)) _).trans (hb.mono (by simp))
                have k0 := ((bcell hbT).1 gw 7 lw3).trans z7
                have k1 := ((bcell hbT).1 gw 11 lw3).trans z11
                have k2 := ((bcell hbT).1 gd (q0 * 2) ld).trans d0
                have k3 := ((bcell hbT).1 gd (q0 * 2 + 1) ld).trans d1
                have hbz := hbT.size
                have HB2 := Lib.hid hb
                have HBZ := Lib.hid hbz
                clear hbT hbz
                obtain ⟨Ar, cr, hvr⟩ := Kd.V_slice hv
                rw [none_length] at hvr
                subst hvr
                have HV2 := Lib.hid hv
                clear hb hv))
    all_goals (go_wp2; go_meet; case rel => first | exact ⟨rfl, _, _, _, _, rfl, by have := HBZ.out; omega, Lg.late HM3.out.drew HB2.out HV2.out⟩ | exact ⟨rfl, _, _, _, _, rfl, by omega, Lg.early (Wa := W2) rfl HM3.out HB2.out HV2.out⟩)
  case rest =>
    obtain ⟨rfl, gb, tg, Ar, cr, rfl, hgb, hM⟩ := hcut
    clear d0 d1 z7 z11 gw1 gd1 gwn0 gwn1 gdn0 gdn1 gs1 lw3 ld
    obtain ⟨z0, z1, z2, z3, z4, z5, z6, z7, z8, z9, z10, z11, z12⟩ := nblk_cells hM.md.bw
    have zf := blk_frozen hM.md.bw 12
    have HM4 := Lib.hid hM
    clear hM z0 z1 z2 z3 z4 z5 z6 z7 z8 z9 z10 z11
    go_upto_region 5 with (fail)
    refine wp_gen (fun W4 => Lg w0 B W tag t d r ⟨raw, .slice A1 s.clock.length c1, .slice A2 s.life.length c2, .slice A3 s.up.length c3, .slice A4 s.votes.length c4, .slice (some ⟨gd, 0, none⟩) s.leads.length c5, .slice A6 s.reqs.length c6, .slice A7 s.grs.length c7, .slice A8 s.beats.length c8⟩ { s with top := s.top + 1 } gw gs (s.top + 1) Ar n cr (none_ n) gb W4 tg) (HM4.out.ok12 hgb) ?_
    intro W4 hM
    clear z12 zf
    obtain ⟨z0, z1, z2, z3, z4, z5, z6, z7, z8, z9, z10, z11, z12⟩ := nblk_cells hM.md.bw
    have hb0 : W4.cell? ⟨gb, 0, none⟩ = some (.int .u64 (s.top + 1)) := (blk_cell hM.bb 0).trans rfl
    have hb1 : W4.cell? ⟨gb, 1, none⟩ = some (.slice Ar n cr) := (blk_cell hM.bb 1).trans rfl
    obtain ⟨gd', cd', ed, _, _, td', hd2⟩ := hM.md.nw.row_d (show 0 < s.leads.length by omega)
    injection ed with ed ed2 ed3
    injection ed with ed
    injection ed with ed
    clear ed2
    subst ed ed3
    obtain ⟨Ad', nd', ⟨d0, d1⟩, _, df⟩ := hd2 q0 (show q0 < s.leads.length by omega)
    have df0 := df 0
    have df1 := df 1
    rw [Nat.add_zero] at df0
    have HM5 := Lib.hid hM
    clear hM hd2 df z0 z1 z2 z3 z4 z5 z6 z8 z9 z10 z11 z12
    go_upto_region 6 with (fail)
    refine wp_gen (fun W5 => Lq w0 B W tag t d r ⟨(raw.set q0 (s.top + 1, Ar, n, cr)), .slice A1 s.clock.length c1, .slice A2 s.life.length c2, .slice A3 s.up.length c3, .slice A4 s.votes.length c4, .slice (some ⟨gd, 0, none⟩) s.leads.length c5, .slice A6 s.reqs.length c6, .slice A7 s.grs.length c7, .slice A8 s.beats.length c8⟩ (s.start n (q0 : Int)) gw gs W5 tg) (HM5.out.note rfl q0 (by omega)) ?_
    intro W5 hL
    clear d0 d1 df0 df1 z7 hb0 hb1 td'
    have HL := Lib.hid hL
    clear hL
    go_wp2_with fail
    go_loopg [9] (s.clock.length) (fun gg v9 wr => ∃ m : Nat, v9 = .int .i64 (m : Int) ∧ Aside0 (m ≤ s.clock.length) ∧ Aside0 (s.clock.length ≤ gg + m) ∧ ∃ (RL : List S116) (Aq : Option Addr) (cq : Nat) (tq : Nat → Nat), Aside0 (RL = s.reqs ++ papm (s.start n (q0 : Int)) (q0 : Int) m) ∧ Aside0 (Lq w0 B W tag t d r ⟨raw.set q0 (s.top + 1, Ar, n, cr), .slice A1 s.clock.length c1, .slice A2 s.life.length c2, .slice A3 s.up.length c3, .slice A4 s.votes.length c4, .slice (some ⟨gd, 0, none⟩) s.leads.length c5, .slice Aq RL.length cq, .slice A7 s.grs.length c7, .slice A8 s.beats.length c8⟩ { s.start n (q0 : Int) with reqs := RL } gw gs wr tq))
    case atStart => exact ⟨0, rfl, ⟨Nat.zero_le _⟩, ⟨by omega⟩, s.reqs, A6, c6, tg, ⟨by simp [papm]⟩, ⟨HL.out⟩⟩
    case round =>
      obtain ⟨m, rfl, a1, a2, RL, Aq, cq, tq, a4, a3⟩ := hrel
      obtain ⟨z0, z1, z2, z3, z4, z5, z6, z7, z8, z9, z10, z11, z12⟩ := nblk_cells a3.out.bw
      by_cases hm : m < s.clock.length
      · have hmi : (m : Int) < (s.clock.length : Int) := by omega
        have hm0 : (0 : Int) ≤ (m : Int) := by omega
        obtain ⟨gc, cc, ec, _, lc, tc, hc⟩ := a3.out.nw.row_c (show 0 < s.clock.length by omega)
        obtain ⟨gl, cl, el, _, ll, tl, hl2⟩ := a3.out.nw.row_l (show 0 < s.life.length by omega)
        obtain ⟨gd', cd', ed, _, ld', td', hd2⟩ := a3.out.nw.row_d (show 0 < (s.leads.set q0 _).length by rw [List.length_set]; omega)
        obtain ⟨y0, y1⟩ := hc q0 (show q0 < s.clock.length by omega)
        obtain ⟨l0, l1⟩ := hl2 q0 (show q0 < s.life.length by omega)
        obtain ⟨Ad', nd', ⟨d0, d1⟩, dv, df⟩ := hd2 q0 (show q0 < (s.leads.set q0 _).length by rw [List.length_set]; omega)
        injection ec with ec ec2 ec3
        clear ec2
        injection el with el el2 el3
        clear el2
        injection ed with ed ed2 ed3
        clear ed2
        injection ed with ed
        injection ed with ed
        subst ec ec3 el el3 ed ed3
        have eld : (s.start n (q0 : Int)).leads.getD q0 z52 = (s.start n (q0 : Int)).ld (q0 : Int) := by unfold St.ld; rw [Int.toNat_natCast]
        have elf : (s.start n (q0 : Int)).life.getD q0 0 = (s.start n (q0 : Int)).lf (q0 : Int) := by unfold St.lf; rw [Int.toNat_natCast]
        have eck : (s.start n (q0 : Int)).clock.getD q0 0 = (s.start n (q0 : Int)).clk (q0 : Int) := by unfold St.clk; rw [Int.toNat_natCast]
        dsimp only at y0 l0 d0
        rw [eck] at y0
        rw [elf] at l0
        rw [eld] at d0
        have hlen : RL.length ≤ 1000 := by rw [a4.out, List.length_append, papm_len]; omega
        have gcw : gc ≠ gw := fun e => by rw [e, a3.out.tw] at tc; cases tc
        have glw : gl ≠ gw := fun e => by rw [e, a3.out.tw] at tl; cases tl
        have gdw : gd ≠ gw := fun e => by rw [e, a3.out.tw] at td'; cases td'
        have gcw2 : gw ≠ gc := fun e => gcw e.symm
        have glw2 : gw ≠ gl := fun e => glw e.symm
        have gdw2 : gw ≠ gd := fun e => gdw e.symm
        have lw := blk_lt a3.out.bw
        have gwn0 : wr.heap.size ≠ gw := by omega
        have gwn1 : gw ≠ wr.heap.size := by omega
        have gdn0 : wr.heap.size ≠ gd := by omega
        have gdn1 : gd ≠ wr.heap.size := by omega
        have gcn0 : wr.heap.size ≠ gc := by omega
        have gcn1 : gc ≠ wr.heap.size := by omega
        have gln0 : wr.heap.size ≠ gl := by omega
        have gln1 : gl ≠ wr.heap.size := by omega
        have hq3 : (q0 : Int) < (s.clock.length : Int) := by omega
        have hq4 : (q0 : Int) < (s.life.length : Int) := by omega
        obtain ⟨E0, hE0⟩ : ∃ y, y = ((s.start n (q0 : Int)).ld (q0 : Int)).f0 := ⟨_, rfl⟩
        obtain ⟨E1, hE1⟩ : ∃ y, y = (s.start n (q0 : Int)).clk (q0 : Int) := ⟨_, rfl⟩
        obtain ⟨E2, hE2⟩ : ∃ y, y = (s.start n (q0 : Int)).lf (q0 : Int) := ⟨_, rfl⟩
        have HE0 := Lib.hid hE0
        have HE1 := Lib.hid hE1
        have HE2 := Lib.hid hE2
        rw [← hE0] at d0
        rw [← hE1] at y0
        rw [← hE2] at l0
        clear hc hl2 hd2 dv df d1 y1 l1 z0 z1 z2 z5 z6 z9 z10 z11 z12 eld elf eck hE0 hE1 hE2
        go_upto_region 9 with (fail)
        refine wp_region_held_drew (S := (fun w' => w'.cell? ⟨gw, 3, none⟩ = some (.slice (some ⟨gc, 0, none⟩) s.clock.length c1) ∧ w'.cell? ⟨gw, 4, none⟩ = some (.slice (some ⟨gl, 0, none⟩) s.life.length c2) ∧ w'.cell? ⟨gw, 7, none⟩ = some (.slice (some ⟨gd, 0, none⟩) s.leads.length c5) ∧ w'.cell? ⟨gc, q0, none⟩ = some (.int .i64 E1) ∧ w'.cell? ⟨gl, q0, none⟩ = some (.int .i64 E2) ∧ w'.cell? ⟨gd, q0 * 2, none⟩ = some (.int .u64 E0))) (by kernel_rfl) (by first | go_keep | (refine ⟨?_, ?_, ?_, ?_, ?_, ?_⟩ <;> first | assumption | go_keep) | assumption) (fun hHeld => ?_)
        refine wpAnyH_take (i := 0) (v := ?_) rfl (by kernel_rfl) (by kernel_rfl) (by kernel_rfl) (fun _ _ _ h => h) (Or.inl ⟨by rfl, ?_⟩) (by assumption) ?_
        rotate_left
        · intro w hSw; (try dsimp only at hSw); go_simp; (try with_reducible rfl)
        simp only [Act.put, List.setIfInBounds_toArray, List.set_cons_zero, List.set_cons_succ]
        refine wpAnyH_take (i := 2) (v := ?_) rfl (by kernel_rfl) (by kernel_rfl) (by kernel_rfl) (fun _ _ _ h => h) (Or.inl ⟨by rfl, ?_⟩) (by assumption) ?_
        rotate_left
        · intro w hSw; (try dsimp only at hSw); go_simp; (try with_reducible rfl)
        simp only [Act.put, List.setIfInBounds_toArray, List.set_cons_zero, List.set_cons_succ]
        refine wpAnyH_take (i := 3) (v := ?_) rfl (by kernel_rfl) (by kernel_rfl) (by kernel_rfl) (fun _ _ _ h => h) (Or.inl ⟨by rfl, ?_⟩) (by assumption) ?_
        rotate_left
        · intro w hSw; (try dsimp only at hSw); go_simp; (try with_reducible rfl)
        simp only [Act.put, List.setIfInBounds_toArray, List.set_cons_zero, List.set_cons_succ]
        refine wpAnyH_take (i := 4) (v := ?_) rfl (by kernel_rfl) (by kernel_rfl) (by kernel_rfl) (fun _ _ _ h => h) (Or.inl ⟨by rfl, ?_⟩) (by assumption) ?_
        rotate_left
        · intro w hSw; (try dsimp only at hSw); go_simp; (try with_reducible rfl)
        simp only [Act.put, List.setIfInBounds_toArray, List.set_cons_zero, List.set_cons_succ]
        refine wpAnyH_take (i := 5) (v := ?_) rfl (by kernel_rfl) (by kernel_rfl) (by kernel_rfl) (fun _ _ _ h => h) (Or.inl ⟨by rfl, ?_⟩) (by assumption) ?_
        rotate_left
        · intro w hSw; (try dsimp only at hSw); go_simp; (try with_reducible rfl)
        simp only [Act.put, List.setIfInBounds_toArray, List.set_cons_zero, List.set_cons_succ]
        refine wpAnyH_take (i := 6) (v := ?_) rfl (by kernel_rfl) (by kernel_rfl) (by kernel_rfl) (fun _ _ _ h => h) (Or.inl ⟨by rfl, ?_⟩) (by assumption) ?_
        rotate_left
        · intro w hSw; (try dsimp only at hSw); go_simp; (try with_reducible rfl)
        simp only [Act.put, List.setIfInBounds_toArray, List.set_cons_zero, List.set_cons_succ]
        refine wpAnyH_take (i := 7) (v := ?_) rfl (by kernel_rfl) (by kernel_rfl) (by kernel_rfl) (fun _ _ _ h => h) (Or.inl ⟨by rfl, ?_⟩) (by assumption) ?_
        rotate_left
        · intro w hSw; (try dsimp only at hSw); go_simp; (try with_reducible rfl)
        simp only [Act.put, List.setIfInBounds_toArray, List.set_cons_zero, List.set_cons_succ]
        refine wpAnyH_take (i := 8) (v := ?_) rfl (by kernel_rfl) (by kernel_rfl) (by kernel_rfl) (fun _ _ _ h => h) (Or.inl ⟨by rfl, ?_⟩) (by assumption) ?_
        rotate_left
        · intro w hSw; (try dsimp only at hSw); go_simp; (try with_reducible rfl)
        simp only [Act.put, List.setIfInBounds_toArray, List.set_cons_zero, List.set_cons_succ]
        refine wpAnyH_take (i := 9) (v := ?_) rfl (by kernel_rfl) (by kernel_rfl) (by kernel_rfl) (fun _ _ _ h => h) (Or.inl ⟨by rfl, ?_⟩) (by assumption) ?_
        rotate_left
        · intro w hSw; (try dsimp only at hSw); go_simp; (try with_reducible rfl)
        simp only [Act.put, List.setIfInBounds_toArray, List.set_cons_zero, List.set_cons_succ]
        refine wpAnyH_take (i := 10) (v := ?_) rfl (by kernel_rfl) (by kernel_rfl) (by kernel_rfl) (fun _ _ _ h => h) (Or.inl ⟨by rfl, ?_⟩) (by assumption) ?_
        rotate_left
        · intro w hSw; (try dsimp only at hSw); go_simp; (try with_reducible rfl)
        simp only [Act.put, List.setIfInBounds_toArray, List.set_cons_zero, List.set_cons_succ]
        refine wpAnyH_take (i := 11) (v := ?_) rfl (by kernel_rfl) (by kernel_rfl) (by kernel_rfl) (fun _ _ _ h => h) (Or.inl ⟨by rfl, ?_⟩) (by assumption) ?_
        rotate_left
        · intro w hSw; (try dsimp only at hSw); go_simp; (try with_reducible rfl)
        simp only [Act.put, List.setIfInBounds_toArray, List.set_cons_zero, List.set_cons_succ]
        refine wpAnyH_take (i := 12) (v := ?_) rfl (by kernel_rfl) (by kernel_rfl) (by kernel_rfl) (fun _ _ _ h => h) (Or.inl ⟨by rfl, ?_⟩) (by assumption) ?_
        rotate_left
        · intro w hSw; (try dsimp only at hSw); go_simp; (try with_reducible rfl)
        simp only [Act.put, List.setIfInBounds_toArray, List.set_cons_zero, List.set_cons_succ]
        refine wpAnyH_take (i := 13) (v := ?_) rfl (by kernel_rfl) (by kernel_rfl) (by kernel_rfl) (fun _ _ _ h => h) (Or.inl ⟨by rfl, ?_⟩) (by assumption) ?_
        rotate_left
        · intro w hSw; (try dsimp only at hSw); go_simp; (try with_reducible rfl)
        simp only [Act.put, List.setIfInBounds_toArray, List.set_cons_zero, List.set_cons_succ]
        refine wpAnyH_take (i := 14) (v := ?_) rfl (by kernel_rfl) (by kernel_rfl) (by kernel_rfl) (fun _ _ _ h => h) (Or.inl ⟨by rfl, ?_⟩) (by assumption) ?_
        rotate_left
        · intro w hSw; (try dsimp only at hSw); go_simp; (try with_reducible rfl)
        simp only [Act.put, List.setIfInBounds_toArray, List.set_cons_zero, List.set_cons_succ]
        refine wpAnyH_take (i := 15) (v := ?_) rfl (by kernel_rfl) (by kernel_rfl) (by kernel_rfl) (fun _ _ _ h => h) (Or.inl ⟨by rfl, ?_⟩) (by assumption) ?_
        rotate_left
        · intro w hSw; (try dsimp only at hSw); go_simp; (try with_reducible rfl)
        simp only [Act.put, List.setIfInBounds_toArray, List.set_cons_zero, List.set_cons_succ]
        refine wpAnyH_take (i := 16) (v := ?_) rfl (by kernel_rfl) (by kernel_rfl) (by kernel_rfl) (fun _ _ _ h => h) (Or.inl ⟨by rfl, ?_⟩) (by assumption) ?_
        rotate_left
        · intro w hSw; (try dsimp only at hSw); go_simp; (try with_reducible rfl)
        simp only [Act.put, List.setIfInBounds_toArray, List.set_cons_zero, List.set_cons_succ]
        refine wpAnyH_take (i := 17) (v := ?_) rfl (by kernel_rfl) (by kernel_rfl) (by kernel_rfl) (fun _ _ _ h => h) (Or.inl ⟨by rfl, ?_⟩) (by assumption) ?_
        rotate_left
        · intro w hSw; (try dsimp only at hSw); go_simp; (try with_reducible rfl)
        simp only [Act.put, List.setIfInBounds_toArray, List.set_cons_zero, List.set_cons_succ]
        refine wpAnyH_take (i := 18) (v := ?_) rfl (by kernel_rfl) (by kernel_rfl) (by kernel_rfl) (fun _ _ _ h => h) (Or.inl ⟨by rfl, ?_⟩) (by assumption) ?_
        rotate_left
        · intro w hSw; (try dsimp only at hSw); go_simp; (try with_reducible rfl)
        simp only [Act.put, List.setIfInBounds_toArray, List.set_cons_zero, List.set_cons_succ]
        refine wpAnyH_take (i := 19) (v := ?_) rfl (by kernel_rfl) (by kernel_rfl) (by kernel_rfl) (fun _ _ _ h => h) (Or.inl ⟨by rfl, ?_⟩) (by assumption) ?_
        rotate_left
        · intro w hSw; (try dsimp only at hSw); go_simp; (try with_reducible rfl)
        simp only [Act.put, List.setIfInBounds_toArray, List.set_cons_zero, List.set_cons_succ]
        refine wpAnyH_take (i := 20) (v := ?_) rfl (by kernel_rfl) (by kernel_rfl) (by kernel_rfl) (fun _ _ _ h => h) (Or.inl ⟨by rfl, ?_⟩) (by assumption) ?_
        rotate_left
        · intro w hSw; (try dsimp only at hSw); go_simp; (try with_reducible rfl)
        simp only [Act.put, List.setIfInBounds_toArray, List.set_cons_zero, List.set_cons_succ]
        refine wpAnyH_ready (rs := [1, 21]) (by kernel_rfl) (by simp) ?_
        refine AllReadyH.cons (by rfl) (fun K hK => ?_) (AllReadyH.cons (by rfl) (fun K hK => ?_) AllReadyH.nil)
        go_simp
        refine hK.out _ _ (by first | go_keep | (refine ⟨?_, ?_, ?_, ?_, ?_, ?_⟩ <;> first | assumption | go_keep) | assumption) (fun hHeld => ?_)
        clear hK K
        (try simp only [Act.put, List.setIfInBounds_toArray, List.set_cons_zero, List.set_cons_succ])
        refine wpAnyH_ready (rs := [21]) (by kernel_rfl) (by simp) ?_
        refine AllReadyH.cons (by rfl) (fun K hK => ?_) AllReadyH.nil
        go_simp
        refine hK.out _ _ (by first | go_keep | (refine ⟨?_, ?_, ?_, ?_, ?_, ?_⟩ <;> first | assumption | go_keep) | assumption) (fun hHeld => ?_)
        clear hK K
        (try simp only [Act.put, List.setIfInBounds_toArray, List.set_cons_zero, List.set_cons_succ])
        refine wpAnyH_ready (rs := [22]) (by kernel_rfl) (by simp) ?_
        refine AllReadyH.cons (by rfl) (fun K hK => ?_) AllReadyH.nil
        refine Kd.R_append_step k116 (w0 := w0) (W := wr.drew) B (by rfl) (.tmp 55) (.tmp 75) 77 116 (.agg #[.int .i64 0, .int .i64 0, .int .u64 0, .int .i64 0, .int .i64 0]) 40 (by rfl) Try.underlying77 info116b (by rfl) (by decide) (by omega) (.slice Aq RL.length cq) RL ⟨(q0 : Int), (m : Int), E0, E1, E2⟩ [.int .i64 (q0 : Int), .int .i64 (m : Int), .int .u64 E0, .int .i64 E1, .int .i64 E2] (fun k => tq k = 6 ∨ wr.drew.heap.size ≤ k) (fun _ => False) (by rfl) (by rfl) (k116_mkM _ _ _ ⟨(q0 : Int), (m : Int), E0, E1, E2⟩) (fun _ h => h.elim) (fun k hk => .inr hk) (Kd.R_mono a3.out.drew.nw.r (fun k hk => .inl hk)) a3.out.drew.nw.bel a3.out.drew.nw.base (by omega) ?_
        intro vn wn hR hBn hG hat
        obtain ⟨An, cn, hvn⟩ := Kd.R_slice hR
        rw [List.length_append, List.length_singleton] at hvn
        subst hvn
        obtain ⟨hF, hbw, hN⟩ := a3.out.drew.app hR hBn hG
        obtain ⟨k0, k1, k2, k3, k4, k5, k6, k7, k8, k9, k10, k11, k12⟩ := nblk_cells hbw
        have kf := blk_frozen hbw 8
        obtain ⟨gc', cc', ec, _, _, _, hc⟩ := hN.row_c (show 0 < s.clock.length by omega)
        obtain ⟨gl', cl', el, _, _, _, hl2⟩ := hN.row_l (show 0 < s.life.length by omega)
        obtain ⟨gd', cd', ed, _, _, _, hd2⟩ := hN.row_d (show 0 < (s.leads.set q0 _).length by rw [List.length_set]; omega)
        injection ec with ec ec2 ec3
        clear ec2
        injection ec with ec
        injection ec with ec
        injection el with el el2 el3
        clear el2
        injection el with el
        injection el with el
        injection ed with ed ed2 ed3
        clear ed2
        injection ed with ed
        injection ed with ed
        subst ec el ed ec3 el3 ed3
        obtain ⟨_, _, ⟨kd0, _⟩, _, _⟩ := hd2 q0 (show q0 < (s.leads.set q0 _).length by rw [List.length_set]; omega)
        have kc : wn.cell? ⟨gc, q0, none⟩ = some (.int .i64 E1) := by rw [HE1.out]; unfold St.clk; rw [Int.toNat_natCast]; exact (hc q0 (show q0 < s.clock.length by omega)).1
        have kl : wn.cell? ⟨gl, q0, none⟩ = some (.int .i64 E2) := by rw [HE2.out]; unfold St.lf; rw [Int.toNat_natCast]; exact (hl2 q0 (show q0 < s.life.length by omega)).1
        have kd : wn.cell? ⟨gd, q0 * 2, none⟩ = some (.int .u64 E0) := by rw [HE0.out]; unfold St.ld; rw [Int.toNat_natCast]; exact kd0
        have s3 : (wn.setCell ⟨gw, 8, none⟩ (.slice An (RL.length + 1) cn)).cell? ⟨gw, 3, none⟩ = some (.slice (some ⟨gc, 0, none⟩) s.clock.length c1) := (World.cell?_setCell_other _ _ _ _ (by simp)).trans k3
        have s4 : (wn.setCell ⟨gw, 8, none⟩ (.slice An (RL.length + 1) cn)).cell? ⟨gw, 4, none⟩ = some (.slice (some ⟨gl, 0, none⟩) s.life.length c2) := (World.cell?_setCell_other _ _ _ _ (by simp)).trans k4
        have s7 : (wn.setCell ⟨gw, 8, none⟩ (.slice An (RL.length + 1) cn)).cell? ⟨gw, 7, none⟩ = some (.slice (some ⟨gd, 0, none⟩) s.leads.length c5) := (World.cell?_setCell_other _ _ _ _ (by simp)).trans k7
        have HF := Lib.hid hF
        clear hR hBn hG hat hF hbw hN hc hl2 hd2 kd0 k0 k1 k2 k5 k6 k9 k10 k11 k12
        refine hK.out _ _ (by first | go_keep | (refine ⟨?_, ?_, ?_, ?_, ?_, ?_⟩ <;> first | assumption | go_keep) | assumption) (fun hHeld => ?_)
        clear hK K
        (try simp only [Act.put, List.setIfInBounds_toArray, List.set_cons_zero, List.set_cons_succ])
        refine wpAnyH_take (i := 23) (v := ?_) rfl (by kernel_rfl) (by kernel_rfl) (by kernel_rfl) (fun _ _ _ h => h) (Or.inl ⟨by rfl, ?_⟩) (by assumption) ?_
        rotate_left
        · intro w hSw; (try dsimp only at hSw); go_simp; (try with_reducible rfl)
        simp only [Act.put, List.setIfInBounds_toArray, List.set_cons_zero, List.set_cons_succ]
        refine wpAnyH_ready (rs := [24]) (by kernel_rfl) (by simp) ?_
        refine AllReadyH.cons (by rfl) (fun K hK => ?_) AllReadyH.nil
        go_simp
        refine hK.out _ _ (by first | go_keep | (refine ⟨?_, ?_, ?_, ?_, ?_, ?_⟩ <;> first | assumption | go_keep) | assumption) (fun hHeld => ?_)
        clear hK K
        (try simp only [Act.put, List.setIfInBounds_toArray, List.set_cons_zero, List.set_cons_succ])
        refine wpAnyH_done (by kernel_rfl) ?_ _
        rotate_left
        go_simp
        refine hK.out _ _ (by first | go_keep | (refine ⟨?_, ?_, ?_, ?_, ?_, ?_⟩ <;> first | assumption | go_keep) | assumption) (fun hHeld => ?_)
        clear hK K
        (try simp only [Act.put, List.setIfInBounds_toArray, List.set_cons_zero, List.set_cons_succ])
        refine wpAnyH_ready (rs := [1]) (by kernel_rfl) (by simp) ?_
        refine AllReadyH.cons (by rfl) (fun K hK => ?_) AllReadyH.nil
        go_simp
        refine hK.out _ _ (by first | go_keep | (refine ⟨?_, ?_, ?_, ?_, ?_, ?_⟩ <;> first | assumption | go_keep) | assumption) (fun hHeld => ?_)
        clear hK K
        (try simp only [Act.put, List.setIfInBounds_toArray, List.set_cons_zero, List.set_cons_succ])
        refine wpAnyH_ready (rs := [22]) (by kernel_rfl) (by simp) ?_
        refine AllReadyH.cons (by rfl) (fun K hK => ?_) AllReadyH.nil
        refine Kd.R_append_step k116 (w0 := w0) (W := wr.drew) B (by rfl) (.tmp 55) (.tmp 75) 77 116 (.agg #[.int .i64 0, .int .i64 0, .int .u64 0, .int .i64 0, .int .i64 0]) 40 (by rfl) Try.underlying77 info116b (by rfl) (by decide) (by omega) (.slice Aq RL.length cq) RL ⟨(q0 : Int), (m : Int), E0, E1, E2⟩ [.int .i64 (q0 : Int), .int .i64 (m : Int), .int .u64 E0, .int .i64 E1, .int .i64 E2] (fun k => tq k = 6 ∨ wr.drew.heap.size ≤ k) (fun _ => False) (by rfl) (by rfl) (k116_mkM _ _ _ ⟨(q0 : Int), (m : Int), E0, E1, E2⟩) (fun _ h => h.elim) (fun k hk => .inr hk) (Kd.R_mono a3.out.drew.nw.r (fun k hk => .inl hk)) a3.out.drew.nw.bel a3.out.drew.nw.base (by omega) ?_
        intro vn wn hR hBn hG hat
        obtain ⟨An, cn, hvn⟩ := Kd.R_slice hR
        rw [List.length_append, List.length_singleton] at hvn
        subst hvn
        obtain ⟨hF, hbw, hN⟩ := a3.out.drew.app hR hBn hG
        obtain ⟨k0, k1, k2, k3, k4, k5, k6, k7, k8, k9, k10, k11, k12⟩ := nblk_cells hbw
        have kf := blk_frozen hbw 8
        obtain ⟨gc', cc', ec, _, _, _, hc⟩ := hN.row_c (show 0 < s.clock.length by omega)
        obtain ⟨gl', cl', el, _, _, _, hl2⟩ := hN.row_l (show 0 < s.life.length by omega)
        obtain ⟨gd', cd', ed, _, _, _, hd2⟩ := hN.row_d (show 0 < (s.leads.set q0 _).length by rw [List.length_set]; omega)
        injection ec with ec ec2 ec3
        clear ec2
        injection ec with ec
        injection ec with ec
        injection el with el el2 el3
        clear el2
        injection el with el
        injection el with el
        injection ed with ed ed2 ed3
        clear ed2
        injection ed with ed
        injection ed with ed
        subst ec el ed ec3 el3 ed3
        obtain ⟨_, _, ⟨kd0, _⟩, _, _⟩ := hd2 q0 (show q0 < (s.leads.set q0 _).length by rw [List.length_set]; omega)
        have kc : wn.cell? ⟨gc, q0, none⟩ = some (.int .i64 E1) := by rw [HE1.out]; unfold St.clk; rw [Int.toNat_natCast]; exact (hc q0 (show q0 < s.clock.length by omega)).1
        have kl : wn.cell? ⟨gl, q0, none⟩ = some (.int .i64 E2) := by rw [HE2.out]; unfold St.lf; rw [Int.toNat_natCast]; exact (hl2 q0 (show q0 < s.life.length by omega)).1
        have kd : wn.cell? ⟨gd, q0 * 2, none⟩ = some (.int .u64 E0) := by rw [HE0.out]; unfold St.ld; rw [Int.toNat_natCast]; exact kd0
        have s3 : (wn.setCell ⟨gw, 8, none⟩ (.slice An (RL.length + 1) cn)).cell? ⟨gw, 3, none⟩ = some (.slice (some ⟨gc, 0, none⟩) s.clock.length c1) := (World.cell?_setCell_other _ _ _ _ (by simp)).trans k3
        have s4 : (wn.setCell ⟨gw, 8, none⟩ (.slice An (RL.length + 1) cn)).cell? ⟨gw, 4, none⟩ = some (.slice (some ⟨gl, 0, none⟩) s.life.length c2) := (World.cell?_setCell_other _ _ _ _ (by simp)).trans k4
        have s7 : (wn.setCell ⟨gw, 8, none⟩ (.slice An (RL.length + 1) cn)).cell? ⟨gw, 7, none⟩ = some (.slice (some ⟨gd, 0, none⟩) s.leads.length c5) := (World.cell?_setCell_other _ _ _ _ (by simp)).trans k7
        have HF := Lib.hid hF
        clear hR hBn hG hat hF hbw hN hc hl2 hd2 kd0 k0 k1 k2 k5 k6 k9 k10 k11 k12
        refine hK.out _ _ (by first | go_keep | (refine ⟨?_, ?_, ?_, ?_, ?_, ?_⟩ <;> first | assumption | go_keep) | assumption) (fun hHeld => ?_)
        clear hK K
        (try simp only [Act.put, List.setIfInBounds_toArray, List.set_cons_zero, List.set_cons_succ])
        refine wpAnyH_take (i := 23) (v := ?_) rfl (by kernel_rfl) (by kernel_rfl) (by kernel_rfl) (fun _ _ _ h => h) (Or.inl ⟨by rfl, ?_⟩) (by assumption) ?_
        rotate_left
        · intro w hSw; (try dsimp only at hSw); go_simp; (try with_reducible rfl)
        simp only [Act.put, List.setIfInBounds_toArray, List.set_cons_zero, List.set_cons_succ]
        refine wpAnyH_ready (rs := [24]) (by kernel_rfl) (by simp) ?_
        refine AllReadyH.cons (by rfl) (fun K hK => ?_) AllReadyH.nil
        go_simp
        refine hK.out _ _ (by first | go_keep | (refine ⟨?_, ?_, ?_, ?_, ?_, ?_⟩ <;> first | assumption | go_keep) | assumption) (fun hHeld => ?_)
        clear hK K
        (try simp only [Act.put, List.setIfInBounds_toArray, List.set_cons_zero, List.set_cons_succ])
        refine wpAnyH_done (by kernel_rfl) ?_ _
        all_goals go_wp2
        all_goals
          go_roundg (s.clock.length - (m + 1))
          case measure => have := a2.out; omega
          case rel => exact ⟨m + 1, by first | rfl | go_num | (simp; done), ⟨by omega⟩, ⟨by omega⟩, RL ++ [⟨(q0 : Int), (m : Int), E0, E1, E2⟩], An, cn, _, ⟨by rw [papm_succ, ← List.append_assoc, ← a4.out, HE0.out, HE1.out, HE2.out]⟩, ⟨by rw [List.length_append, List.length_singleton]; exact HF.out⟩⟩
      · have e : m = s.clock.length := by have := a1.out; omega
        subst e
        have hfin : { s.start n (q0 : Int) with reqs := RL } = (s.start n (q0 : Int)).ask n (q0 : Int) := by
          rw [a4.out, HLC.out]
          rfl
        have h3 := a3.out
        rw [hfin] at h3
        have H3 := Lib.hid h3
        clear h3 hfin z0 z1 z2 z4 z5 z6 z7 z8 z9 z10 z11 z12
        go_upto_region 10 with (fail)
        refine reg_ret 78 (gw := gw) (gs := gs) (by rfl) (by rfl) (by rfl) (by rfl) (by rfl) (by rfl) (by rfl) (by rfl) (by rfl) H3.out.bw H3.out.bs (by rfl) (by rfl) (by simp [Value.oneCell']) ?_
        go_wp2
        exact fin_ret2 (by rfl) (by rfl) (by rfl) H3.out.bs H3.out.nw H3.out.ts H3.out.hs (Nat.le_trans H3.out.b0 H3.out.hs)
set_option maxHeartbeats 2000000 in
theorem asks_first (w0 : World) (B : Nat) (W : World) (tag : Nat → Nat) (x : NV) (s : St) (t d r : Int) (n i : Nat) (h : Nw w0 B W tag W tag x s) (hd : Bd t n i s) (hi : i < 90) (hn : 2 ≤ n ∧ n ≤ 5) (q0 : Nat) (ha : q0 < n) (he : (s.ld (q0 : Int)).f0 = 0) : Calls Try.prog 60 #[.agg #[.int .i64 t, .int .i64 d, .int .i64 r, x.c, x.l, x.u, x.v, x.d, x.r, x.g, x.b, .int .u64 s.top, .bool true], .int .i64 (q0 : Int), .bool false] W (Ps2 w0 B W tag t d r ((s.start n (q0 : Int)).ask n (q0 : Int))) := by
  obtain ⟨A1, A2, A3, A4, A5, A6, A7, A8, c1, c2, c3, c4, c5, c6, c7, c8, hx⟩ := h.open
  obtain ⟨raw, vc, vl, vu, vv, vd, vr, vg, vb⟩ := x
  injection hx with hx0 hx1 hx2 hx3 hx4 hx5 hx6 hx7 hx8
  subst hx1 hx2 hx3 hx4 hx5 hx6 hx7 hx8
  clear hx0
  have hu80 := Try.underlying80
  have hu116 := Try.underlying116
  have hu52 := Try.underlying52
  have hlc : n ≤ s.clock.length := Nat.le_of_eq hd.lc.symm
  have hlc2 : s.clock.length ≤ n := Nat.le_of_eq hd.lc
  have hll : n ≤ s.life.length := Nat.le_of_eq hd.ll.symm
  have hlld : n ≤ s.leads.length := Nat.le_of_eq hd.lld.symm
  have hrl := hd.rl
  have HH := Lib.hid h
  have HLC := Lib.hid hd.lc
  have htp : 0 ≤ s.top ∧ s.top ≤ 90 := by have := hd.tp; omega
  have hld := hd.ld (q0 : Int) ⟨by omega, by omega⟩
  have hok : leadok (s.ld (q0 : Int)).f1 = true := leadok_of (by rw [hld.2.1]; omega) (by rw [hld.2.1]; omega) (fun y hy => by have := hld.2.2 y hy; omega)
  have hst : lead_Start.f (s.ld (q0 : Int)).f0 (s.ld (q0 : Int)).f1 (s.top + 1) = some (s.top + 1, none_ n, 0) := by
    unfold lead_Start.f lead_Check.f
    rw [hok, if_pos rfl, Option.bind_some, if_pos rfl, if_neg (by have := hld.1; omega), hld.2.1, lnew_eq _ (by omega) (by omega), Option.bind_some]
    rfl
  have HST := Lib.hid hst
  obtain ⟨ht0, ht1⟩ := htp
  have HEP := Lib.hid he
  clear h hd he hld hok hst
  go_enter Try.func60, Try.ntmps60
  go_upto_region 1 with (fail)
  refine wp_gen (fun W1 => Ent w0 B W tag t d r _ s true W.heap.size (W.heap.size + 1) W1) (Ent.start HH.out t d r true) ?_
  intro W1 hE
  generalize W.heap.size + 1 = gs at hE ⊢
  generalize W.heap.size = gw at hE ⊢
  obtain ⟨gd, cd, ed, _, ld, td, hd2⟩ := hE.nw.row_d (by omega)
  obtain ⟨Ad, nd, ⟨d0, d1⟩, dv, df⟩ := hd2 q0 (by omega)
  injection ed with ed ed2 ed3
  clear ed2
  subst ed ed3
  have eld : s.leads.getD q0 z52 = s.ld (q0 : Int) := by unfold St.ld; rw [Int.toNat_natCast]
  rw [eld] at d0 d1
  have hep0 : ((s.ld (q0 : Int)).f0 == 0) = true := beq_iff_eq.2 HEP.out
  obtain ⟨z0, z1, z2, z3, z4, z5, z6, z7, z8, z9, z10, z11, z12⟩ := nblk_cells hE.bw
  have HE := Lib.hid hE
  have hq2 : (q0 : Int) < (s.leads.length : Int) := by omega
  have hq0 : (0 : Int) ≤ (q0 : Int) := by omega
  have zf := blk_frozen hE.bw 11
  clear hE hd2 df dv eld z0 z1 z2 z3 z4 z5 z6 z8 z9 z10 z12 
  go_upto_region 3 with (fail)
  refine wp_gen (fun W2 => Lq w0 B W tag t d r ⟨raw, .slice A1 s.clock.length c1, .slice A2 s.life.length c2, .slice A3 s.up.length c3, .slice A4 s.votes.length c4, .slice (some ⟨gd, 0, none⟩) s.leads.length c5, .slice A6 s.reqs.length c6, .slice A7 s.grs.length c7, .slice A8 s.beats.length c8⟩ { s with top := s.top + 1 } gw gs W2 tag) ((Lq.start HE.out).top (s.top + 1)) ?_
  intro W2 hM
  clear zf z11 d0 d1 z7 hep0
  obtain ⟨gd', cd', ed, _, ld, td', hd2⟩ := hM.nw.row_d (show 0 < s.leads.length by omega)
  obtain ⟨Ad, nd, ⟨d0, d1⟩, dv, df⟩ := hd2 q0 (show q0 < s.leads.length by omega)
  injection ed with ed ed2 ed3
  injection ed with ed
  injection ed with ed
  clear ed2
  subst ed ed3
  have eld : s.leads.getD q0 z52 = s.ld (q0 : Int) := by unfold St.ld; rw [Int.toNat_natCast]
  dsimp only at d0 d1 dv
  rw [eld] at d0 d1 dv
  have hst := HST.out
  obtain ⟨L, hL⟩ : ∃ L, L = s.ld (q0 : Int) := ⟨_, rfl⟩
  rw [← hL] at d0 d1 dv hst
  clear eld hL
  obtain ⟨le, ll⟩ := L
  simp only at d0 d1 dv hst
  obtain ⟨z0, z1, z2, z3, z4, z5, z6, z7, z8, z9, z10, z11, z12⟩ := nblk_cells hM.bw
  have lw3 := blk_lt hM.bw
  have HM3 := Lib.hid hM
  have HV := Lib.hid dv
  have HST2 := Lib.hid hst
  have gw1 : gw < W2.heap.size + 1 := by omega
  have gd1 : gd < W2.heap.size + 1 := by omega
  have gwn0 : W2.heap.size ≠ gw := by omega
  have gwn1 : gw ≠ W2.heap.size := by omega
  have gdn0 : W2.heap.size ≠ gd := by omega
  have gdn1 : gd ≠ W2.heap.size := by omega
  have gs1 : W2.heap.size < W2.heap.size + 1 := by omega
  clear hM hd2 dv hst z0 z1 z2 z3 z4 z5 z6 z8 z9 z10 z12 df
  go_cut [7, 8] (fun s7 s8 wx => s8 = .int .i64 0 ∧ ∃ (gb : Nat) (tg : Nat → Nat) (Ar : Option Addr) (cr : Nat), s7 = .pointer (some ⟨gb, 0, none⟩) ∧ gw ≠ gb ∧ Lg w0 B W tag t d r ⟨raw, .slice A1 s.clock.length c1, .slice A2 s.life.length c2, .slice A3 s.up.length c3, .slice A4 s.votes.length c4, .slice (some ⟨gd, 0, none⟩) s.leads.length c5, .slice A6 s.reqs.length c6, .slice A7 s.grs.length c7, .slice A8 s.beats.length c8⟩ { s with top := s.top + 1 } gw gs (s.top + 1) Ar n cr (none_ n) gb wx tg)
  case first =>
    go_region_held3 (fun w' => w'.cell? ⟨gw, 7, none⟩ = some (.slice (some ⟨gd, 0, none⟩) s.leads.length c5) ∧ w'.cell? ⟨gw, 11, none⟩ = some (.int .u64 (s.top + 1)) ∧ w'.cell? ⟨gd, q0 * 2, none⟩ = some (.int .u64 le) ∧ w'.cell? ⟨gd, q0 * 2 + 1, none⟩ = some (.slice Ad ll.length nd)) (go_keep)
      (first | (go_at_call 29
                refine (lead_Start.calls le (fun k => tag k = 9) Ad nd ll _ _ _ _ _ (Kd.V_below HV.out (by first | exact below_drew (Below.refl _ _) | exact below_drew (below_alloc (Below.refl _ _) _) | exact below_alloc (below_drew (Below.refl _ _)) _)) HST2.out).mono ?_
                rintro e w1 ⟨vr, rfl, hv, hb⟩
                obtain ⟨hcc, hff⟩ := bcell hb
                have hbT : Below W2.heap.size W2 w1 := by first | exact (below_drew (Below.refl _ _)).trans (hb.mono (by simp)) | exact (below_drew (below_alloc (Below.refl _ _) _)).trans (hb.mono (by simp)) | exact (below_alloc (below_drew (Below.refl _ _)) _).trans (hb.mono (by simp))
                have k0 := ((bcell hbT).1 gw 7 lw3).trans z7
                have k1 := ((bcell hbT).1 gw 11 lw3).trans z11
                have k2 := ((bcell hbT).1 gd (q0 * 2) ld).trans d0
                have k3 := ((bcell hbT).1 gd (q0 * 2 + 1) ld).trans d1
                have hbz := hbT.size
                have HB2 := Lib.hid hb
                have HBZ := Lib.hid hbz
                clear hbT hbz
                obtain ⟨Ar, cr, hvr⟩ := Kd.V_slice hv
                rw [none_length] at hvr
                subst hvr
                have HV2 := Lib.hid hv
                clear hb hv))
    all_goals (go_wp2; go_meet; case rel => first | exact ⟨rfl, _, _, _, _, rfl, by have := HBZ.out; omega, Lg.late HM3.out.drew HB2.out HV2.out⟩ | exact ⟨rfl, _, _, _, _, rfl, by omega, Lg.early (Wa := W2) rfl HM3.out HB2.out HV2.out⟩)
  case rest =>
    obtain ⟨rfl, gb, tg, Ar, cr, rfl, hgb, hM⟩ := hcut
    clear d0 d1 z7 z11 gw1 gd1 gwn0 gwn1 gdn0 gdn1 gs1 lw3 ld
    obtain ⟨z0, z1, z2, z3, z4, z5, z6, z7, z8, z9, z10, z11, z12⟩ := nblk_cells hM.md.bw
    have zf := blk_frozen hM.md.bw 12
    have HM4 := Lib.hid hM
    clear hM z0 z1 z2 z3 z4 z5 z6 z7 z8 z9 z10 z11
    go_upto_region 5 with (fail)
    refine wp_gen (fun W4 => Lg w0 B W tag t d r ⟨raw, .slice A1 s.clock.length c1, .slice A2 s.life.length c2, .slice A3 s.up.length c3, .slice A4 s.votes.length c4, .slice (some ⟨gd, 0, none⟩) s.leads.length c5, .slice A6 s.reqs.length c6, .slice A7 s.grs.length c7, .slice A8 s.beats.length c8⟩ { s with top := s.top + 1 } gw gs (s.top + 1) Ar n cr (none_ n) gb W4 tg) (HM4.out.ok12 hgb) ?_
    intro W4 hM
    clear z12 zf
    obtain ⟨z0, z1, z2, z3, z4, z5, z6, z7, z8, z9, z10, z11, z12⟩ := nblk_cells hM.md.bw
    have hb0 : W4.cell? ⟨gb, 0, none⟩ = some (.int .u64 (s.top + 1)) := (blk_cell hM.bb 0).trans rfl
    have hb1 : W4.cell? ⟨gb, 1, none⟩ = some (.slice Ar n cr) := (blk_cell hM.bb 1).trans rfl
    obtain ⟨gd', cd', ed, _, _, td', hd2⟩ := hM.md.nw.row_d (show 0 < s.leads.length by omega)
    injection ed with ed ed2 ed3
    injection ed with ed
    injection ed with ed
    clear ed2
    subst ed ed3
    obtain ⟨Ad', nd', ⟨d0, d1⟩, _, df⟩ := hd2 q0 (show q0 < s.leads.length by omega)
    have df0 := df 0
    have df1 := df 1
    rw [Nat.add_zero] at df0
    have HM5 := Lib.hid hM
    clear hM hd2 df z0 z1 z2 z3 z4 z5 z6 z8 z9 z10 z11 z12
    go_upto_region 6 with (fail)
    refine wp_gen (fun W5 => Lq w0 B W tag t d r ⟨(raw.set q0 (s.top + 1, Ar, n, cr)), .slice A1 s.clock.length c1, .slice A2 s.life.length c2, .slice A3 s.up.length c3, .slice A4 s.votes.length c4, .slice (some ⟨gd, 0, none⟩) s.leads.length c5, .slice A6 s.reqs.length c6, .slice A7 s.grs.length c7, .slice A8 s.beats.length c8⟩ (s.start n (q0 : Int)) gw gs W5 tg) (HM5.out.note rfl q0 (by omega)) ?_
    intro W5 hL
    clear d0 d1 df0 df1 z7 hb0 hb1 td'
    have HL := Lib.hid hL
    clear hL
    go_wp2_with fail
    go_loopg [9] (s.clock.length) (fun gg v9 wr => ∃ m : Nat, v9 = .int .i64 (m : Int) ∧ Aside0 (m ≤ s.clock.length) ∧ Aside0 (s.clock.length ≤ gg + m) ∧ ∃ (RL : List S116) (Aq : Option Addr) (cq : Nat) (tq : Nat → Nat), Aside0 (RL = s.reqs ++ papm (s.start n (q0 : Int)) (q0 : Int) m) ∧ Aside0 (Lq w0 B W tag t d r ⟨raw.set q0 (s.top + 1, Ar, n, cr), .slice A1 s.clock.length c1, .slice A2 s.life.length c2, .slice A3 s.up.length c3, .slice A4 s.votes.length c4, .slice (some ⟨gd, 0, none⟩) s.leads.length c5, .slice Aq RL.length cq, .slice A7 s.grs.length c7, .slice A8 s.beats.length c8⟩ { s.start n (q0 : Int) with reqs := RL } gw gs wr tq))
    case atStart => exact ⟨0, rfl, ⟨Nat.zero_le _⟩, ⟨by omega⟩, s.reqs, A6, c6, tg, ⟨by simp [papm]⟩, ⟨HL.out⟩⟩
    case round =>
      obtain ⟨m, rfl, a1, a2, RL, Aq, cq, tq, a4, a3⟩ := hrel
      obtain ⟨z0, z1, z2, z3, z4, z5, z6, z7, z8, z9, z10, z11, z12⟩ := nblk_cells a3.out.bw
      by_cases hm : m < s.clock.length
      · have hmi : (m : Int) < (s.clock.length : Int) := by omega
        have hm0 : (0 : Int) ≤ (m : Int) := by omega
        obtain ⟨gc, cc, ec, _, lc, tc, hc⟩ := a3.out.nw.row_c (show 0 < s.clock.length by omega)
        obtain ⟨gl, cl, el, _, ll, tl, hl2⟩ := a3.out.nw.row_l (show 0 < s.life.length by omega)
        obtain ⟨gd', cd', ed, _, ld', td', hd2⟩ := a3.out.nw.row_d (show 0 < (s.leads.set q0 _).length by rw [List.length_set]; omega)
        obtain ⟨y0, y1⟩ := hc q0 (show q0 < s.clock.length by omega)
        obtain ⟨l0, l1⟩ := hl2 q0 (show q0 < s.life.length by omega)
        obtain ⟨Ad', nd', ⟨d0, d1⟩, dv, df⟩ := hd2 q0 (show q0 < (s.leads.set q0 _).length by rw [List.length_set]; omega)
        injection ec with ec ec2 ec3
        clear ec2
        injection el with el el2 el3
        clear el2
        injection ed with ed ed2 ed3
        clear ed2
        injection ed with ed
        injection ed with ed
        subst ec ec3 el el3 ed ed3
        have eld : (s.start n (q0 : Int)).leads.getD q0 z52 = (s.start n (q0 : Int)).ld (q0 : Int) := by unfold St.ld; rw [Int.toNat_natCast]
        have elf : (s.start n (q0 : Int)).life.getD q0 0 = (s.start n (q0 : Int)).lf (q0 : Int) := by unfold St.lf; rw [Int.toNat_natCast]
        have eck : (s.start n (q0 : Int)).clock.getD q0 0 = (s.start n (q0 : Int)).clk (q0 : Int) := by unfold St.clk; rw [Int.toNat_natCast]
        dsimp only at y0 l0 d0
        rw [eck] at y0
        rw [elf] at l0
        rw [eld] at d0
        have hlen : RL.length ≤ 1000 := by rw [a4.out, List.length_append, papm_len]; omega
        have gcw : gc ≠ gw := fun e => by rw [e, a3.out.tw] at tc; cases tc
        have glw : gl ≠ gw := fun e => by rw [e, a3.out.tw] at tl; cases tl
        have gdw : gd ≠ gw := fun e => by rw [e, a3.out.tw] at td'; cases td'
        have gcw2 : gw ≠ gc := fun e => gcw e.symm
        have glw2 : gw ≠ gl := fun e => glw e.symm
        have gdw2 : gw ≠ gd := fun e => gdw e.symm
        have lw := blk_lt a3.out.bw
        have gwn0 : wr.heap.size ≠ gw := by omega
        have gwn1 : gw ≠ wr.heap.size := by omega
        have gdn0 : wr.heap.size ≠ gd := by omega
        have gdn1 : gd ≠ wr.heap.size := by omega
        have gcn0 : wr.heap.size ≠ gc := by omega
        have gcn1 : gc ≠ wr.heap.size := by omega
        have gln0 : wr.heap.size ≠ gl := by omega
        have gln1 : gl ≠ wr.heap.size := by omega
        have hq3 : (q0 : Int) < (s.clock.length : Int) := by omega
        have hq4 : (q0 : Int) < (s.life.length : Int) := by omega
        obtain ⟨E0, hE0⟩ : ∃ y, y = ((s.start n (q0 : Int)).ld (q0 : Int)).f0 := ⟨_, rfl⟩
        obtain ⟨E1, hE1⟩ : ∃ y, y = (s.start n (q0 : Int)).clk (q0 : Int) := ⟨_, rfl⟩
        obtain ⟨E2, hE2⟩ : ∃ y, y = (s.start n (q0 : Int)).lf (q0 : Int) := ⟨_, rfl⟩
        have HE0 := Lib.hid hE0
        have HE1 := Lib.hid hE1
        have HE2 := Lib.hid hE2
        rw [← hE0] at d0
        rw [← hE1] at y0
        rw [← hE2] at l0
        clear hc hl2 hd2 dv df d1 y1 l1 z0 z1 z2 z5 z6 z9 z10 z11 z12 eld elf eck hE0 hE1 hE2
        go_upto_region 9 with (fail)
        refine wp_region_held_drew (S := (fun w' => w'.cell? ⟨gw, 3, none⟩ = some (.slice (some ⟨gc, 0, none⟩) s.clock.length c1) ∧ w'.cell? ⟨gw, 4, none⟩ = some (.slice (some ⟨gl, 0, none⟩) s.life.length c2) ∧ w'.cell? ⟨gw, 7, none⟩ = some (.slice (some ⟨gd, 0, none⟩) s.leads.length c5) ∧ w'.cell? ⟨gc, q0, none⟩ = some (.int .i64 E1) ∧ w'.cell? ⟨gl, q0, none⟩ = some (.int .i64 E2) ∧ w'.cell? ⟨gd, q0 * 2, none⟩ = some (.int .u64 E0))) (by kernel_rfl) (by first | go_keep | (refine ⟨?_, ?_, ?_, ?_, ?_, ?_⟩ <;> first | assumption | go_keep) | assumption) (fun hHeld => ?_)
        refine wpAnyH_take (i := 0) (v := ?_) rfl (by kernel_rfl) (by kernel_rfl) (by kernel_rfl) (fun _ _ _ h => h) (Or.inl ⟨by rfl, ?_⟩) (by assumption) ?_
        rotate_left
        · intro w hSw; (try dsimp only at hSw); go_simp; (try with_reducible rfl)
        simp only [Act.put, List.setIfInBounds_toArray, List.set_cons_zero, List.set_cons_succ]
        refine wpAnyH_take (i := 2) (v := ?_) rfl (by kernel_rfl) (by kernel_rfl) (by kernel_rfl) (fun _ _ _ h => h) (Or.inl ⟨by rfl, ?_⟩) (by assumption) ?_
        rotate_left
        · intro w hSw; (try dsimp only at hSw); go_simp; (try with_reducible rfl)
        simp only [Act.put, List.setIfInBounds_toArray, List.set_cons_zero, List.set_cons_succ]
        refine wpAnyH_take (i := 3) (v := ?_) rfl (by kernel_rfl) (by kernel_rfl) (by kernel_rfl) (fun _ _ _ h => h) (Or.inl ⟨by rfl, ?_⟩) (by assumption) ?_
        rotate_left
        · intro w hSw; (try dsimp only at hSw); go_simp; (try with_reducible rfl)
        simp only [Act.put, List.setIfInBounds_toArray, List.set_cons_zero, List.set_cons_succ]
        refine wpAnyH_take (i := 4) (v := ?_) rfl (by kernel_rfl) (by kernel_rfl) (by kernel_rfl) (fun _ _ _ h => h) (Or.inl ⟨by rfl, ?_⟩) (by assumption) ?_
        rotate_left
        · intro w hSw; (try dsimp only at hSw); go_simp; (try with_reducible rfl)
        simp only [Act.put, List.setIfInBounds_toArray, List.set_cons_zero, List.set_cons_succ]
        refine wpAnyH_take (i := 5) (v := ?_) rfl (by kernel_rfl) (by kernel_rfl) (by kernel_rfl) (fun _ _ _ h => h) (Or.inl ⟨by rfl, ?_⟩) (by assumption) ?_
        rotate_left
        · intro w hSw; (try dsimp only at hSw); go_simp; (try with_reducible rfl)
        simp only [Act.put, List.setIfInBounds_toArray, List.set_cons_zero, List.set_cons_succ]
        refine wpAnyH_take (i := 6) (v := ?_) rfl (by kernel_rfl) (by kernel_rfl) (by kernel_rfl) (fun _ _ _ h => h) (Or.inl ⟨by rfl, ?_⟩) (by assumption) ?_
        rotate_left
        · intro w hSw; (try dsimp only at hSw); go_simp; (try with_reducible rfl)
        simp only [Act.put, List.setIfInBounds_toArray, List.set_cons_zero, List.set_cons_succ]
        refine wpAnyH_take (i := 7) (v := ?_) rfl (by kernel_rfl) (by kernel_rfl) (by kernel_rfl) (fun _ _ _ h => h) (Or.inl ⟨by rfl, ?_⟩) (by assumption) ?_
        rotate_left
        · intro w hSw; (try dsimp only at hSw); go_simp; (try with_reducible rfl)
        simp only [Act.put, List.setIfInBounds_toArray, List.set_cons_zero, List.set_cons_succ]
        refine wpAnyH_take (i := 8) (v := ?_) rfl (by kernel_rfl) (by kernel_rfl) (by kernel_rfl) (fun _ _ _ h => h) (Or.inl ⟨by rfl, ?_⟩) (by assumption) ?_
        rotate_left
        · intro w hSw; (try dsimp only at hSw); go_simp; (try with_reducible rfl)
        simp only [Act.put, List.setIfInBounds_toArray, List.set_cons_zero, List.set_cons_succ]
        refine wpAnyH_take (i := 9) (v := ?_) rfl (by kernel_rfl) (by kernel_rfl) (by kernel_rfl) (fun _ _ _ h => h) (Or.inl ⟨by rfl, ?_⟩) (by assumption) ?_
        rotate_left
        · intro w hSw; (try dsimp only at hSw); go_simp; (try with_reducible rfl)
        simp only [Act.put, List.setIfInBounds_toArray, List.set_cons_zero, List.set_cons_succ]
        refine wpAnyH_take (i := 10) (v := ?_) rfl (by kernel_rfl) (by kernel_rfl) (by kernel_rfl) (fun _ _ _ h => h) (Or.inl ⟨by rfl, ?_⟩) (by assumption) ?_
        rotate_left
        · intro w hSw; (try dsimp only at hSw); go_simp; (try with_reducible rfl)
        simp only [Act.put, List.setIfInBounds_toArray, List.set_cons_zero, List.set_cons_succ]
        refine wpAnyH_take (i := 11) (v := ?_) rfl (by kernel_rfl) (by kernel_rfl) (by kernel_rfl) (fun _ _ _ h => h) (Or.inl ⟨by rfl, ?_⟩) (by assumption) ?_
        rotate_left
        · intro w hSw; (try dsimp only at hSw); go_simp; (try with_reducible rfl)
        simp only [Act.put, List.setIfInBounds_toArray, List.set_cons_zero, List.set_cons_succ]
        refine wpAnyH_take (i := 12) (v := ?_) rfl (by kernel_rfl) (by kernel_rfl) (by kernel_rfl) (fun _ _ _ h => h) (Or.inl ⟨by rfl, ?_⟩) (by assumption) ?_
        rotate_left
        · intro w hSw; (try dsimp only at hSw); go_simp; (try with_reducible rfl)
        simp only [Act.put, List.setIfInBounds_toArray, List.set_cons_zero, List.set_cons_succ]
        refine wpAnyH_take (i := 13) (v := ?_) rfl (by kernel_rfl) (by kernel_rfl) (by kernel_rfl) (fun _ _ _ h => h) (Or.inl ⟨by rfl, ?_⟩) (by assumption) ?_
        rotate_left
        · intro w hSw; (try dsimp only at hSw); go_simp; (try with_reducible rfl)
        simp only [Act.put, List.setIfInBounds_toArray, List.set_cons_zero, List.set_cons_succ]
        refine wpAnyH_take (i := 14) (v := ?_) rfl (by kernel_rfl) (by kernel_rfl) (by kernel_rfl) (fun _ _ _ h => h) (Or.inl ⟨by rfl, ?_⟩) (by assumption) ?_
        rotate_left
        · intro w hSw; (try dsimp only at hSw); go_simp; (try with_reducible rfl)
        simp only [Act.put, List.setIfInBounds_toArray, List.set_cons_zero, List.set_cons_succ]
        refine wpAnyH_take (i := 15) (v := ?_) rfl (by kernel_rfl) (by kernel_rfl) (by kernel_rfl) (fun _ _ _ h => h) (Or.inl ⟨by rfl, ?_⟩) (by assumption) ?_
        rotate_left
        · intro w hSw; (try dsimp only at hSw); go_simp; (try with_reducible rfl)
        simp only [Act.put, List.setIfInBounds_toArray, List.set_cons_zero, List.set_cons_succ]
        refine wpAnyH_take (i := 16) (v := ?_) rfl (by kernel_rfl) (by kernel_rfl) (by kernel_rfl) (fun _ _ _ h => h) (Or.inl ⟨by rfl, ?_⟩) (by assumption) ?_
        rotate_left
        · intro w hSw; (try dsimp only at hSw); go_simp; (try with_reducible rfl)
        simp only [Act.put, List.setIfInBounds_toArray, List.set_cons_zero, List.set_cons_succ]
        refine wpAnyH_take (i := 17) (v := ?_) rfl (by kernel_rfl) (by kernel_rfl) (by kernel_rfl) (fun _ _ _ h => h) (Or.inl ⟨by rfl, ?_⟩) (by assumption) ?_
        rotate_left
        · intro w hSw; (try dsimp only at hSw); go_simp; (try with_reducible rfl)
        simp only [Act.put, List.setIfInBounds_toArray, List.set_cons_zero, List.set_cons_succ]
        refine wpAnyH_take (i := 18) (v := ?_) rfl (by kernel_rfl) (by kernel_rfl) (by kernel_rfl) (fun _ _ _ h => h) (Or.inl ⟨by rfl, ?_⟩) (by assumption) ?_
        rotate_left
        · intro w hSw; (try dsimp only at hSw); go_simp; (try with_reducible rfl)
        simp only [Act.put, List.setIfInBounds_toArray, List.set_cons_zero, List.set_cons_succ]
        refine wpAnyH_take (i := 19) (v := ?_) rfl (by kernel_rfl) (by kernel_rfl) (by kernel_rfl) (fun _ _ _ h => h) (Or.inl ⟨by rfl, ?_⟩) (by assumption) ?_
        rotate_left
        · intro w hSw; (try dsimp only at hSw); go_simp; (try with_reducible rfl)
        simp only [Act.put, List.setIfInBounds_toArray, List.set_cons_zero, List.set_cons_succ]
        refine wpAnyH_take (i := 20) (v := ?_) rfl (by kernel_rfl) (by kernel_rfl) (by kernel_rfl) (fun _ _ _ h => h) (Or.inl ⟨by rfl, ?_⟩) (by assumption) ?_
        rotate_left
        · intro w hSw; (try dsimp only at hSw); go_simp; (try with_reducible rfl)
        simp only [Act.put, List.setIfInBounds_toArray, List.set_cons_zero, List.set_cons_succ]
        refine wpAnyH_ready (rs := [1, 21]) (by kernel_rfl) (by simp) ?_
        refine AllReadyH.cons (by rfl) (fun K hK => ?_) (AllReadyH.cons (by rfl) (fun K hK => ?_) AllReadyH.nil)
        go_simp
        refine hK.out _ _ (by first | go_keep | (refine ⟨?_, ?_, ?_, ?_, ?_, ?_⟩ <;> first | assumption | go_keep) | assumption) (fun hHeld => ?_)
        clear hK K
        (try simp only [Act.put, List.setIfInBounds_toArray, List.set_cons_zero, List.set_cons_succ])
        refine wpAnyH_ready (rs := [21]) (by kernel_rfl) (by simp) ?_
        refine AllReadyH.cons (by rfl) (fun K hK => ?_) AllReadyH.nil
        go_simp
        refine hK.out _ _ (by first | go_keep | (refine ⟨?_, ?_, ?_, ?_, ?_, ?_⟩ <;> first | assumption | go_keep) | assumption) (fun hHeld => ?_)
        clear hK K
        (try simp only [Act.put, List.setIfInBounds_toArray, List.set_cons_zero, List.set_cons_succ])
        refine wpAnyH_ready (rs := [22]) (by kernel_rfl) (by simp) ?_
        refine AllReadyH.cons (by rfl) (fun K hK => ?_) AllReadyH.nil
        refine Kd.R_append_step k116 (w0 := w0) (W := wr.drew) B (by rfl) (.tmp 55) (.tmp 75) 77 116 (.agg #[.int .i64 0, .int .i64 0, .int .u64 0, .int .i64 0, .int .i64 0]) 40 (by rfl) Try.underlying77 info116b (by rfl) (by decide) (by omega) (.slice Aq RL.length cq) RL ⟨(q0 : Int), (m : Int), E0, E1, E2⟩ [.int .i64 (q0 : Int), .int .i64 (m : Int), .int .u64 E0, .int .i64 E1, .int .i64 E2] (fun k => tq k = 6 ∨ wr.drew.heap.size ≤ k) (fun _ => False) (by rfl) (by rfl) (k116_mkM _ _ _ ⟨(q0 : Int), (m : Int), E0, E1, E2⟩) (fun _ h => h.elim) (fun k hk => .inr hk) (Kd.R_mono a3.out.drew.nw.r (fun k hk => .inl hk)) a3.out.drew.nw.bel a3.out.drew.nw.base (by omega) ?_
        intro vn wn hR hBn hG hat
        obtain ⟨An, cn, hvn⟩ := Kd.R_slice hR
        rw [List.length_append, List.length_singleton] at hvn
        subst hvn
        obtain ⟨hF, hbw, hN⟩ := a3.out.drew.app hR hBn hG
        obtain ⟨k0, k1, k2, k3, k4, k5, k6, k7, k8, k9, k10, k11, k12⟩ := nblk_cells hbw
        have kf := blk_frozen hbw 8
        obtain ⟨gc', cc', ec, _, _, _, hc⟩ := hN.row_c (show 0 < s.clock.length by omega)
        obtain ⟨gl', cl', el, _, _, _, hl2⟩ := hN.row_l (show 0 < s.life.length by omega)
        obtain ⟨gd', cd', ed, _, _, _, hd2⟩ := hN.row_d (show 0 < (s.leads.set q0 _).length by rw [List.length_set]; omega)
        injection ec with ec ec2 ec3
        clear ec2
        injection ec with ec
        injection ec with ec
        injection el with el el2 el3
        clear el2
        injection el with el
        injection el with el
        injection ed with ed ed2 ed3
        clear ed2
        injection ed with ed
        injection ed with ed
        subst ec el ed ec3 el3 ed3
        obtain ⟨_, _, ⟨kd0, _⟩, _, _⟩ := hd2 q0 (show q0 < (s.leads.set q0 _).length by rw [List.length_set]; omega)
        have kc : wn.cell? ⟨gc, q0, none⟩ = some (.int .i64 E1) := by rw [HE1.out]; unfold St.clk; rw [Int.toNat_natCast]; exact (hc q0 (show q0 < s.clock.length by omega)).1
        have kl : wn.cell? ⟨gl, q0, none⟩ = some (.int .i64 E2) := by rw [HE2.out]; unfold St.lf; rw [Int.toNat_natCast]; exact (hl2 q0 (show q0 < s.life.length by omega)).1
        have kd : wn.cell? ⟨gd, q0 * 2, none⟩ = some (.int .u64 E0) := by rw [HE0.out]; unfold St.ld; rw [Int.toNat_natCast]; exact kd0
        have s3 : (wn.setCell ⟨gw, 8, none⟩ (.slice An (RL.length + 1) cn)).cell? ⟨gw, 3, none⟩ = some (.slice (some ⟨gc, 0, none⟩) s.clock.length c1) := (World.cell?_setCell_other _ _ _ _ (by simp)).trans k3
        have s4 : (wn.setCell ⟨gw, 8, none⟩ (.slice An (RL.length + 1) cn)).cell? ⟨gw, 4, none⟩ = some (.slice (some ⟨gl, 0, none⟩) s.life.length c2) := (World.cell?_setCell_other _ _ _ _ (by simp)).trans k4
        have s7 : (wn.setCell ⟨gw, 8, none⟩ (.slice An (RL.length + 1) cn)).cell? ⟨gw, 7, none⟩ = some (.slice (some ⟨gd, 0, none⟩) s.leads.length c5) := (World.cell?_setCell_other _ _ _ _ (by simp)).trans k7
        have HF := Lib.hid hF
        clear hR hBn hG hat hF hbw hN hc hl2 hd2 kd0 k0 k1 k2 k5 k6 k9 k10 k11 k12
        refine hK.out _ _ (by first | go_keep | (refine ⟨?_, ?_, ?_, ?_, ?_, ?_⟩ <;> first | assumption | go_keep) | assumption) (fun hHeld => ?_)
        clear hK K
        (try simp only [Act.put, List.setIfInBounds_toArray, List.set_cons_zero, List.set_cons_succ])
        refine wpAnyH_take (i := 23) (v := ?_) rfl (by kernel_rfl) (by kernel_rfl) (by kernel_rfl) (fun _ _ _ h => h) (Or.inl ⟨by rfl, ?_⟩) (by assumption) ?_
        rotate_left
        · intro w hSw; (try dsimp only at hSw); go_simp; (try with_reducible rfl)
        simp only [Act.put, List.setIfInBounds_toArray, List.set_cons_zero, List.set_cons_succ]
        refine wpAnyH_ready (rs := [24]) (by kernel_rfl) (by simp) ?_
        refine AllReadyH.cons (by rfl) (fun K hK => ?_) AllReadyH.nil
        go_simp
        refine hK.out _ _ (by first | go_keep | (refine ⟨?_, ?_, ?_, ?_, ?_, ?_⟩ <;> first | assumption | go_keep) | assumption) (fun hHeld => ?_)
        clear hK K
        (try simp only [Act.put, List.setIfInBounds_toArray, List.set_cons_zero, List.set_cons_succ])
        refine wpAnyH_done (by kernel_rfl) ?_ _
        rotate_left
        go_simp
        refine hK.out _ _ (by first | go_keep | (refine ⟨?_, ?_, ?_, ?_, ?_, ?_⟩ <;> first | assumption | go_keep) | assumption) (fun hHeld => ?_)
        clear hK K
        (try simp only [Act.put, List.setIfInBounds_toArray, List.set_cons_zero, List.set_cons_succ])
        refine wpAnyH_ready (rs := [1]) (by kernel_rfl) (by simp) ?_
        refine AllReadyH.cons (by rfl) (fun K hK => ?_) AllReadyH.nil
        go_simp
        refine hK.out _ _ (by first | go_keep | (refine ⟨?_, ?_, ?_, ?_, ?_, ?_⟩ <;> first | assumption | go_keep) | assumption) (fun hHeld => ?_)
        clear hK K
        (try simp only [Act.put, List.setIfInBounds_toArray, List.set_cons_zero, List.set_cons_succ])
        refine wpAnyH_ready (rs := [22]) (by kernel_rfl) (by simp) ?_
        refine AllReadyH.cons (by rfl) (fun K hK => ?_) AllReadyH.nil
        refine Kd.R_append_step k116 (w0 := w0) (W := wr.drew) B (by rfl) (.tmp 55) (.tmp 75) 77 116 (.agg #[.int .i64 0, .int .i64 0, .int .u64 0, .int .i64 0, .int .i64 0]) 40 (by rfl) Try.underlying77 info116b (by rfl) (by decide) (by omega) (.slice Aq RL.length cq) RL ⟨(q0 : Int), (m : Int), E0, E1, E2⟩ [.int .i64 (q0 : Int), .int .i64 (m : Int), .int .u64 E0, .int .i64 E1, .int .i64 E2] (fun k => tq k = 6 ∨ wr.drew.heap.size ≤ k) (fun _ => False) (by rfl) (by rfl) (k116_mkM _ _ _ ⟨(q0 : Int), (m : Int), E0, E1, E2⟩) (fun _ h => h.elim) (fun k hk => .inr hk) (Kd.R_mono a3.out.drew.nw.r (fun k hk => .inl hk)) a3.out.drew.nw.bel a3.out.drew.nw.base (by omega) ?_
        intro vn wn hR hBn hG hat
        obtain ⟨An, cn, hvn⟩ := Kd.R_slice hR
        rw [List.length_append, List.length_singleton] at hvn
        subst hvn
        obtain ⟨hF, hbw, hN⟩ := a3.out.drew.app hR hBn hG
        obtain ⟨k0, k1, k2, k3, k4, k5, k6, k7, k8, k9, k10, k11, k12⟩ := nblk_cells hbw
        have kf := blk_frozen hbw 8
        obtain ⟨gc', cc', ec, _, _, _, hc⟩ := hN.row_c (show 0 < s.clock.length by omega)
        obtain ⟨gl', cl', el, _, _, _, hl2⟩ := hN.row_l (show 0 < s.life.length by omega)
        obtain ⟨gd', cd', ed, _, _, _, hd2⟩ := hN.row_d (show 0 < (s.leads.set q0 _).length by rw [List.length_set]; omega)
        injection ec with ec ec2 ec3
        clear ec2
        injection ec with ec
        injection ec with ec
        injection el with el el2 el3
        clear el2
        injection el with el
        injection el with el
        injection ed with ed ed2 ed3
        clear ed2
        injection ed with ed
        injection ed with ed
        subst ec el ed ec3 el3 ed3
        obtain ⟨_, _, ⟨kd0, _⟩, _, _⟩ := hd2 q0 (show q0 < (s.leads.set q0 _).length by rw [List.length_set]; omega)
        have kc : wn.cell? ⟨gc, q0, none⟩ = some (.int .i64 E1) := by rw [HE1.out]; unfold St.clk; rw [Int.toNat_natCast]; exact (hc q0 (show q0 < s.clock.length by omega)).1
        have kl : wn.cell? ⟨gl, q0, none⟩ = some (.int .i64 E2) := by rw [HE2.out]; unfold St.lf; rw [Int.toNat_natCast]; exact (hl2 q0 (show q0 < s.life.length by omega)).1
        have kd : wn.cell? ⟨gd, q0 * 2, none⟩ = some (.int .u64 E0) := by rw [HE0.out]; unfold St.ld; rw [Int.toNat_natCast]; exact kd0
        have s3 : (wn.setCell ⟨gw, 8, none⟩ (.slice An (RL.length + 1) cn)).cell? ⟨gw, 3, none⟩ = some (.slice (some ⟨gc, 0, none⟩) s.clock.length c1) := (World.cell?_setCell_other _ _ _ _ (by simp)).trans k3
        have s4 : (wn.setCell ⟨gw, 8, none⟩ (.slice An (RL.length + 1) cn)).cell? ⟨gw, 4, none⟩ = some (.slice (some ⟨gl, 0, none⟩) s.life.length c2) := (World.cell?_setCell_other _ _ _ _ (by simp)).trans k4
        have s7 : (wn.setCell ⟨gw, 8, none⟩ (.slice An (RL.length + 1) cn)).cell? ⟨gw, 7, none⟩ = some (.slice (some ⟨gd, 0, none⟩) s.leads.length c5) := (World.cell?_setCell_other _ _ _ _ (by simp)).trans k7
        have HF := Lib.hid hF
        clear hR hBn hG hat hF hbw hN hc hl2 hd2 kd0 k0 k1 k2 k5 k6 k9 k10 k11 k12
        refine hK.out _ _ (by first | go_keep | (refine ⟨?_, ?_, ?_, ?_, ?_, ?_⟩ <;> first | assumption | go_keep) | assumption) (fun hHeld => ?_)
        clear hK K
        (try simp only [Act.put, List.setIfInBounds_toArray, List.set_cons_zero, List.set_cons_succ])
        refine wpAnyH_take (i := 23) (v := ?_) rfl (by kernel_rfl) (by kernel_rfl) (by kernel_rfl) (fun _ _ _ h => h) (Or.inl ⟨by rfl, ?_⟩) (by assumption) ?_
        rotate_left
        · intro w hSw; (try dsimp only at hSw); go_simp; (try with_reducible rfl)
        simp only [Act.put, List.setIfInBounds_toArray, List.set_cons_zero, List.set_cons_succ]
        refine wpAnyH_ready (rs := [24]) (by kernel_rfl) (by simp) ?_
        refine AllReadyH.cons (by rfl) (fun K hK => ?_) AllReadyH.nil
        go_simp
        refine hK.out _ _ (by first | go_keep | (refine ⟨?_, ?_, ?_, ?_, ?_, ?_⟩ <;> first | assumption | go_keep) | assumption) (fun hHeld => ?_)
        clear hK K
        (try simp only [Act.put, List.setIfInBounds_toArray, List.set_cons_zero, List.set_cons_succ])
        refine wpAnyH_done (by kernel_rfl) ?_ _
        all_goals go_wp2
        all_goals
          go_roundg (s.clock.length - (m + 1))
          case measure => have := a2.out; omega
          case rel => exact ⟨m + 1, by first | rfl | go_num | (simp; done), ⟨by omega⟩, ⟨by omega⟩, RL ++ [⟨(q0 : Int), (m : Int), E0, E1, E2⟩], An, cn, _, ⟨by rw [papm_succ, ← List.append_assoc, ← a4.out, HE0.out, HE1.out, HE2.out]⟩, ⟨by rw [List.length_append, List.length_singleton]; exact HF.out⟩⟩
      · have e : m = s.clock.length := by have := a1.out; omega
        subst e
        have hfin : { s.start n (q0 : Int) with reqs := RL } = (s.start n (q0 : Int)).ask n (q0 : Int) := by
          rw [a4.out, HLC.out]
          rfl
        have h3 := a3.out
        rw [hfin] at h3
        have H3 := Lib.hid h3
        clear h3 hfin z0 z1 z2 z4 z5 z6 z7 z8 z9 z10 z11 z12
        go_upto_region 10 with (fail)
        refine reg_ret 78 (gw := gw) (gs := gs) (by rfl) (by rfl) (by rfl) (by rfl) (by rfl) (by rfl) (by rfl) (by rfl) (by rfl) H3.out.bw H3.out.bs (by rfl) (by rfl) (by simp [Value.oneCell']) ?_
        go_wp2
        exact fin_ret2 (by rfl) (by rfl) (by rfl) H3.out.bs H3.out.nw H3.out.ts H3.out.hs (Nat.le_trans H3.out.b0 H3.out.hs)
end Go.Proofs.Ytgfblogneggpmaa.One
