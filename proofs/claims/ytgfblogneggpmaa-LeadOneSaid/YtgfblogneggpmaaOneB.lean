/- chapter 18's law: a grant comes; by hand. -/
import Derived.Test.YtgfblogneggpmaaFnx0
import Derived.Test.YtgfblogneggpmaaFnx16
import Derived.Test.YtgfblogneggpmaaOneCome
namespace Go.Proofs.Ytgfblogneggpmaa.One
open Go.RowKit Go.Proofs.Ytgfblogneggpmaa.Fn Go.Proofs.YtgfblogneggpmaaW.PrintWords Go.Proofs.YtgfblogneggpmaaW.PrintLast Go.Proofs.YtgfblogneggpmaaW.PrintMore Go.Proofs.Ytgfblogneggpmaa.Vote Go.Proofs.Ytgfblogneggpmaa.Clk Go.Proofs.Ytgfblogneggpmaa.Thr
set_option linter.unusedVariables false
set_option linter.unusedSimpArgs false
set_option maxRecDepth 100000
/-- Amid the walk of a grant: the nodes' block, the result's, the paper's. -/
structure Md (w0 : World) (B : Nat) (W : World) (tag : Nat → Nat) (t d r : Int) (x : NV) (s : St) (gw gs : Nat) (p : Pap) (gp : Nat) (W3 : World) (tag3 : Nat → Nat) : Prop where
  nw : Nw w0 B W tag W3 tag3 x s
  bw : W3.heap[gw]? = some (nblk t d r x s.top true)
  bs : W3.heap[gs]? = some zblk
  bp : W3.heap[gp]? = some (.cells #[.int .i64 p.f0, .int .i64 p.f1, .int .u64 p.f2, .int .i64 p.f3, .int .i64 p.f4] 116 (0, 0))
  ts : tag3 gs = 0
  tw : tag3 gw = 0
  tp : tag3 gp = 0
  hs : W.heap.size ≤ gs
  b0 : B ≤ W.heap.size
section
variable {w0 : World} {B : Nat} {W : World} {tag tag3 : Nat → Nat} {t d r : Int} {x : NV} {s : St} {gw gs gp : Nat} {p : Pap} {W1 W3 w1 : World}
theorem Md.below (h : Md w0 B W tag t d r x s gw gs p gp W3 tag3) (hb : Below W3.heap.size W3 w1) : Md w0 B W tag t d r x s gw gs p gp w1 tag3 :=
  { h with nw := h.nw.below hb, bw := blk_below h.bw hb, bs := blk_below h.bs hb, bp := blk_below h.bp hb }
theorem Md.drew (h : Md w0 B W tag t d r x s gw gs p gp W3 tag3) : Md w0 B W tag t d r x s gw gs p gp W3.drew tag3 := h.below (below_drew (Below.refl _ _))
theorem Md.alloc (h : Md w0 B W tag t d r x s gw gs p gp W3 tag3) (o : Obj) : Md w0 B W tag t d r x s gw gs p gp (W3.alloc o) tag3 := h.below (below_alloc (Below.refl _ _) o)
theorem Md.start (hE : Ent w0 B W tag t d r x s true gw gs W1) (p : Pap) : Md w0 B W tag t d r x s gw gs p W1.heap.size (W1.alloc (.cells #[.int .i64 p.f0, .int .i64 p.f1, .int .u64 p.f2, .int .i64 p.f3, .int .i64 p.f4] 116)).drew tag :=
  have hb : Below W1.heap.size W1 (W1.alloc (.cells #[.int .i64 p.f0, .int .i64 p.f1, .int .u64 p.f2, .int .i64 p.f3, .int .i64 p.f4] 116)) := below_alloc (Below.refl _ _) _
  ⟨(hE.nw.alloc _).drew, blk_drew (blk_below hE.bw hb), blk_drew (blk_below hE.bs hb), blk_drew (blk_new W1 _), hE.ts, hE.tw, hE.nw.fresh _ (Nat.le_refl _), hE.s_, hE.b0⟩
/-- Behind the call: what it made is of kind 9. -/
theorem Md.called (h : Md w0 B W tag t d r x s gw gs p gp W3 tag3) (hb : Below W3.heap.size W3 w1) : Md w0 B W tag t d r x s gw gs p gp w1 (ri tag3 W3.heap.size w1.heap.size 9) := by
  have h1 := h.below hb
  have old : ∀ {k : Nat} {o : Obj}, W3.heap[k]? = some o → tag3 k = 0 → ri tag3 W3.heap.size w1.heap.size 9 k = 0 := fun hk ht => by
    unfold ri
    rw [if_neg (fun q => by have := blk_lt hk; omega)]
    exact ht
  exact { h1 with nw := h.nw.retag h1.nw hb.size 9, ts := old h.bs h.ts, tw := old h.bw h.tw, tp := old h.bp h.tp }
theorem called_V {v : Value} {l : List Int} (h : Kd.V (Kd.int .i64) 2 w1 W3.heap.size (fun k => tag3 k = 9 ∨ W3.heap.size ≤ k) v l) : Kd.V (Kd.int .i64) 2 w1 B (fun k => ri tag3 W3.heap.size w1.heap.size 9 k = 9) v l := by
  have h2 : Kd.V (Kd.int .i64) 2 w1 W3.heap.size (fun k => ri tag3 W3.heap.size w1.heap.size 9 k = 9) v l := by
    refine Kd.V_mono (Kd.V_bound h) (fun k hk => ?_)
    unfold ri
    by_cases e : W3.heap.size ≤ k
    · rw [if_pos ⟨e, hk.2⟩]
    · rw [if_neg (fun q => e q.1)]
      omega
  exact h2
/-- .. and with the block of a lead. -/
structure Mg (w0 : World) (B : Nat) (W : World) (tag : Nat → Nat) (t d r : Int) (x : NV) (s : St) (gw gs : Nat) (p : Pap) (gp : Nat) (e : Int) (A : Option Addr) (n c : Nat) (l : List Int) (gb : Nat) (W3 : World) (tag3 : Nat → Nat) : Prop where
  md : Md w0 B W tag t d r x s gw gs p gp W3 tag3
  bb : W3.heap[gb]? = some (.cells #[.int .u64 e, .slice A n c] 52 (0, 0))
  tb : tag3 gb = 0
  v : Kd.V (Kd.int .i64) 2 W3 B (fun k => tag3 k = 9) (.slice A n c) l
variable {e : Int} {A : Option Addr} {n c : Nat} {l : List Int} {gb : Nat}
theorem Mg.late (h : Md w0 B W tag t d r x s gw gs p gp W3 tag3) (hb : Below W3.heap.size W3 w1) (hv : Kd.V (Kd.int .i64) 2 w1 W3.heap.size (fun k => tag3 k = 9 ∨ W3.heap.size ≤ k) (.slice A n c) l) :
    Mg w0 B W tag t d r x s gw gs p gp e A n c l w1.heap.size (w1.alloc (.cells #[.int .u64 e, .slice A n c] 52)) (ri tag3 W3.heap.size w1.heap.size 9) :=
  have h1 := h.called hb
  ⟨h1.alloc _, blk_new w1 _, h1.nw.fresh _ (Nat.le_refl _), Kd.V_alloc (called_V hv) _⟩
theorem Mg.early {Wa : World} (hWa : Wa.heap.size = gb) (h : Md w0 B W tag t d r x s gw gs p gp Wa tag3) (hb : Below ((Wa.alloc (.cells #[.int .u64 0, .slice none 0 0] 52)).drew).heap.size ((Wa.alloc (.cells #[.int .u64 0, .slice none 0 0] 52)).drew) w1) (hv : Kd.V (Kd.int .i64) 2 w1 ((Wa.alloc (.cells #[.int .u64 0, .slice none 0 0] 52)).drew).heap.size (fun k => tag3 k = 9 ∨ ((Wa.alloc (.cells #[.int .u64 0, .slice none 0 0] 52)).drew).heap.size ≤ k) (.slice A n c) l) :
    Mg w0 B W tag t d r x s gw gs p gp e A n c l gb ((w1.setCell ⟨gb, 0, none⟩ (.int .u64 e)).setCell ⟨gb, 1, none⟩ (.slice A n c)) (ri tag3 ((Wa.alloc (.cells #[.int .u64 0, .slice none 0 0] 52)).drew).heap.size w1.heap.size 9) := by
  have h1 := ((h.alloc (.cells #[.int .u64 0, .slice none 0 0] 52)).drew).called hb
  have hz : ((Wa.alloc (.cells #[.int .u64 0, .slice none 0 0] 52)).drew).heap.size = gb + 1 := by simp [hWa]
  have tb : tag3 gb = 0 := h.nw.fresh _ (by omega)
  have tb2 : ri tag3 ((Wa.alloc (.cells #[.int .u64 0, .slice none 0 0] 52)).drew).heap.size w1.heap.size 9 gb = 0 := by
    unfold ri
    rw [if_neg (by omega)]
    exact tb
  have hbb : w1.heap[gb]? = some (.cells #[.int .u64 0, .slice none 0 0] 52 (0, 0)) := by
    have h2 := blk_below (blk_drew (blk_new Wa (.cells #[.int .u64 0, .slice none 0 0] 52))) hb
    rw [hWa] at h2
    exact h2
  have hv2 := called_V (B := B) hv
  have lw := blk_lt h.bw
  have ls := blk_lt h.bs
  have lp := blk_lt h.bp
  have hB : B ≤ gb := by rw [← hWa]; exact h.nw.base
  have h0 : W.heap.size ≤ gb := by rw [← hWa]; exact h.nw.size
  generalize hT : ri tag3 ((Wa.alloc (.cells #[.int .u64 0, .slice none 0 0] 52)).drew).heap.size w1.heap.size 9 = T at *
  have hne : ∀ k, T k = 9 → k ≠ gb := fun k hk q => by rw [q, tb2] at hk; cases hk
  have far : ∀ {g : Nat} {c' : Array Value} {e' : Nat}, g < gb → w1.heap[g]? = some (.cells c' e' (0, 0)) → ((w1.setCell ⟨gb, 0, none⟩ (.int .u64 e)).setCell ⟨gb, 1, none⟩ (.slice A n c)).heap[g]? = some (.cells c' e' (0, 0)) := fun hl hg => blk_far (blk_far hg (fun q => by simp only at q; omega) _) (fun q => by simp only at q; omega) _
  refine ⟨{ h1 with nw := (h1.nw.set0 tb2 h0 hB 0 _).set0 tb2 h0 hB 1 _, bw := far (by omega) h1.bw, bs := far (by omega) h1.bs, bp := far (by omega) h1.bp }, blk_set (blk_set hbb 0 _) 1 _, tb2, ?_⟩
  exact Kd.V_far (p := ⟨gb, 1, none⟩) (Kd.V_far (p := ⟨gb, 0, none⟩) hv2 hne _) hne _
theorem Mg.note (h : Mg w0 B W tag t d r x s gw gs p gp e A n c l gb W3 tag3) {g m c' : Nat} (hx : x.d = .slice (some ⟨g, 0, none⟩) m c') (j : Nat) (hj : j < m) : Md w0 B W tag t d r { x with raw := x.raw.set j (e, A, n, c) } { s with leads := s.leads.set j ⟨e, l⟩ } gw gs p gp (st2 W3 g j e (.slice A n c)) tag3 := by
  have hg : tag3 g = 5 := h.md.nw.d.1 g (by rw [hx]; simp [Value.ownBlock])
  have far : ∀ {k : Nat} {c : Array Value} {e' : Nat} (y : Value), tag3 k = 0 → W3.heap[k]? = some (.cells c e' (0, 0)) → (st2 W3 g j e y).heap[k]? = some (.cells c e' (0, 0)) := fun y ht hb => by
    rename_i k _ _
    have hne : k ≠ g := fun q => by rw [q, hg] at ht; cases ht
    exact blk_far (blk_far hb hne _) hne _
  exact { h.md with nw := h.md.nw.set_d hx j hj e h.v, bw := far _ h.md.tw h.md.bw, bs := far _ h.md.ts h.md.bs, bp := far _ h.md.tp h.md.bp }
end
set_option maxHeartbeats 2000000 in
theorem come_down (w0 : World) (B : Nat) (W : World) (tag : Nat → Nat) (x : NV) (s : St) (t d r : Int) (n i : Nat) (h : Nw w0 B W tag W tag x s) (hd : Bd t n i s) (hi : i < 90) (hn : 2 ≤ n ∧ n ≤ 5) (k : Int) (hk : 0 ≤ k ∧ k ≤ 70000) (p : Pap) (j : Nat) (hjl : j < s.grs.length) (hjj : k % (s.grs.length : Int) = (j : Int)) (hp : s.grs.getD j z116 = p) (hu : s.isup p.f0 = false) : Calls Try.prog 61 #[.agg #[.int .i64 t, .int .i64 d, .int .i64 r, x.c, x.l, x.u, x.v, x.d, x.r, x.g, x.b, .int .u64 s.top, .bool true], .int .i64 k, .bool false] W (Pst w0 B W tag t d r n s) := by
  obtain ⟨A1, A2, A3, A4, A5, A6, A7, A8, c1, c2, c3, c4, c5, c6, c7, c8, hx⟩ := h.open
  obtain ⟨raw, vc, vl, vu, vv, vd, vr, vg, vb⟩ := x
  injection hx with hx0 hx1 hx2 hx3 hx4 hx5 hx6 hx7 hx8
  subst hx1 hx2 hx3 hx4 hx5 hx6 hx7 hx8
  clear hx0
  have hu80 := Try.underlying80
  have hu116 := Try.underlying116
  have hu52 := Try.underlying52
  have hpm : p ∈ s.grs := by rw [← hp]; simp [hjl]
  have hpo : Okp n i p := hd.gr p hpm
  obtain ⟨p0, p1, p2, p3, p4⟩ := p
  obtain ⟨q0, rfl⟩ := Int.eq_ofNat_of_zero_le (show 0 ≤ p0 from hpo.fr.1)
  obtain ⟨q1, rfl⟩ := Int.eq_ofNat_of_zero_le (show 0 ≤ p1 from hpo.to_.1)
  have hq0n : q0 < n := by have := hpo.fr.2; simp only at this; omega
  have hq1n : q1 < n := by have := hpo.to_.2; simp only at this; omega
  have hgl := hd.gl
  have hlu : n ≤ s.up.length := Nat.le_of_eq hd.lu.symm
  have hll : n ≤ s.life.length := Nat.le_of_eq hd.ll.symm
  have hlld : n ≤ s.leads.length := Nat.le_of_eq hd.lld.symm
  have HH := Lib.hid h
  have HP := Lib.hid hp
  have HJ := Lib.hid hjj
  have HD := Lib.hid hd
  have HO := Lib.hid hpo
  have HPM := Lib.hid hpm
  have HU := Lib.hid hu
  clear h hd hpo hp hjj hpm hu
  go_enter Try.func61, Try.ntmps61
  go_upto_region 1 with (fail)
  refine wp_gen (fun W1 => Ent w0 B W tag t d r _ s true W.heap.size (W.heap.size + 1) W1) (Ent.start HH.out t d r true) ?_
  intro W1 hE
  generalize W.heap.size + 1 = gs at hE ⊢
  generalize W.heap.size = gw at hE ⊢
  obtain ⟨gr, cr, er, _, lr, tr, hr⟩ := hE.nw.row_g (by omega)
  obtain ⟨⟨x0, x1, x2, x3, x4⟩, hxf⟩ := hr j hjl
  rw [HP.out] at x0 x1 x2 x3 x4
  injection er with er _ er3
  subst er er3
  obtain ⟨z0, z1, z2, z3, z4, z5, z6, z7, z8, z9, z10, z11, z12⟩ := nblk_cells hE.bw
  have lw := blk_lt hE.bw
  have HE := Lib.hid hE
  have hjl2 : (j : Int) < (s.grs.length : Int) := by omega
  have hj0 : (0 : Int) ≤ (j : Int) := by omega
  have hll9 : (s.grs.length : Int) ≤ 450 := by omega
  have hl0 : (0 : Int) < (s.grs.length : Int) := by omega
  clear hE hr z0 z1 z2 z3 z4 z5 z6 z7 z8 z10 z11 z12
  go_upto_region 11 with (fail)
  have hne : s.grs ≠ [] := by intro e; rw [e] at hl0; simp at hl0
  have htm : Int.tmod k (s.grs.length : Int) = (j : Int) := by rw [Int.tmod_eq_emod_of_nonneg hk.1]; exact HJ.out
  have hwj : IntKind.i64.wrap (j : Int) = (j : Int) := by simp [IntKind.wrap, IntKind.bits, IntKind.signed]; omega
  go_region
  clear htm hwj x0 x1 x2 x3 x4 hxf z9 hne hjl2 hj0 hll9 hl0
  go_upto_region 12 with (fail)
  refine wp_gen (fun W2 => Md w0 B W tag t d r _ s gw gs ⟨(q0 : Int), (q1 : Int), p2, p3, p4⟩ W1.heap.size W2 tag) (Md.start HE.out ⟨(q0 : Int), (q1 : Int), p2, p3, p4⟩) ?_
  intro W2 hM
  generalize W1.heap.size = gp at hM ⊢
  obtain ⟨gu, cu, eu, _, lu, tu, hu2⟩ := hM.nw.row_u (by omega)
  obtain ⟨gl, cl, el, _, ll, tl, hl2⟩ := hM.nw.row_l (by omega)
  obtain ⟨y0, y1⟩ := hu2 q0 (by omega)
  obtain ⟨l0, l1⟩ := hl2 q0 (by omega)
  injection eu with eu _ eu3
  subst eu eu3
  injection el with el _ el3
  subst el el3
  obtain ⟨z0, z1, z2, z3, z4, z5, z6, z7, z8, z9, z10, z11, z12⟩ := nblk_cells hM.bw
  have hp0 : W2.cell? ⟨gp, 0, none⟩ = some (.int .i64 (q0 : Int)) := (blk_cell hM.bp 0).trans rfl
  have hp4 : W2.cell? ⟨gp, 4, none⟩ = some (.int .i64 p4) := (blk_cell hM.bp 4).trans rfl
  have HM := Lib.hid hM
  have hq2 : (q0 : Int) < (s.up.length : Int) := by omega
  have hq3 : (q0 : Int) < (s.life.length : Int) := by omega
  have hq0 : (0 : Int) ≤ (q0 : Int) := by omega
  have hu := HU.out
  unfold St.isup at hu
  simp only [Int.toNat_natCast] at hu
  rw [hu] at y0
  clear hu
  clear hM hu2 hl2 z0 z1 z2 z3 z6 z7 z8 z9 z10 z11 z12
  go_region
  go_upto_region 13 with (fail)
  refine reg_ret 116 (gw := gw) (gs := gs) (by rfl) (by rfl) (by rfl) (by rfl) (by rfl) (by rfl) (by rfl) (by rfl) (by rfl) HM.out.drew.bw HM.out.drew.bs (by rfl) (by rfl) (by simp [Value.oneCell']) ?_
  go_wp2
  exact fin_ret (by rfl) (by rfl) (by rfl) HM.out.drew.bs .none_ HM.out.drew.nw HM.out.ts HM.out.hs (Nat.le_trans HM.out.b0 HM.out.hs)
set_option maxHeartbeats 2000000 in
theorem come_life (w0 : World) (B : Nat) (W : World) (tag : Nat → Nat) (x : NV) (s : St) (t d r : Int) (n i : Nat) (h : Nw w0 B W tag W tag x s) (hd : Bd t n i s) (hi : i < 90) (hn : 2 ≤ n ∧ n ≤ 5) (k : Int) (hk : 0 ≤ k ∧ k ≤ 70000) (p : Pap) (j : Nat) (hjl : j < s.grs.length) (hjj : k % (s.grs.length : Int) = (j : Int)) (hp : s.grs.getD j z116 = p) (hu : s.isup p.f0 = true) (hl : s.lf p.f0 ≠ p.f4) : Calls Try.prog 61 #[.agg #[.int .i64 t, .int .i64 d, .int .i64 r, x.c, x.l, x.u, x.v, x.d, x.r, x.g, x.b, .int .u64 s.top, .bool true], .int .i64 k, .bool false] W (Pst w0 B W tag t d r n s) := by
  obtain ⟨A1, A2, A3, A4, A5, A6, A7, A8, c1, c2, c3, c4, c5, c6, c7, c8, hx⟩ := h.open
  obtain ⟨raw, vc, vl, vu, vv, vd, vr, vg, vb⟩ := x
  injection hx with hx0 hx1 hx2 hx3 hx4 hx5 hx6 hx7 hx8
  subst hx1 hx2 hx3 hx4 hx5 hx6 hx7 hx8
  clear hx0
  have hu80 := Try.underlying80
  have hu116 := Try.underlying116
  have hu52 := Try.underlying52
  have hpm : p ∈ s.grs := by rw [← hp]; simp [hjl]
  have hpo : Okp n i p := hd.gr p hpm
  obtain ⟨p0, p1, p2, p3, p4⟩ := p
  obtain ⟨q0, rfl⟩ := Int.eq_ofNat_of_zero_le (show 0 ≤ p0 from hpo.fr.1)
  obtain ⟨q1, rfl⟩ := Int.eq_ofNat_of_zero_le (show 0 ≤ p1 from hpo.to_.1)
  have hq0n : q0 < n := by have := hpo.fr.2; simp only at this; omega
  have hq1n : q1 < n := by have := hpo.to_.2; simp only at this; omega
  have hgl := hd.gl
  have hlu : n ≤ s.up.length := Nat.le_of_eq hd.lu.symm
  have hll : n ≤ s.life.length := Nat.le_of_eq hd.ll.symm
  have hlld : n ≤ s.leads.length := Nat.le_of_eq hd.lld.symm
  have HH := Lib.hid h
  have HP := Lib.hid hp
  have HJ := Lib.hid hjj
  have HD := Lib.hid hd
  have HO := Lib.hid hpo
  have HPM := Lib.hid hpm
  have HU := Lib.hid hu
  have HL := Lib.hid hl
  clear h hd hpo hp hjj hpm hu hl
  go_enter Try.func61, Try.ntmps61
  go_upto_region 1 with (fail)
  refine wp_gen (fun W1 => Ent w0 B W tag t d r _ s true W.heap.size (W.heap.size + 1) W1) (Ent.start HH.out t d r true) ?_
  intro W1 hE
  generalize W.heap.size + 1 = gs at hE ⊢
  generalize W.heap.size = gw at hE ⊢
  obtain ⟨gr, cr, er, _, lr, tr, hr⟩ := hE.nw.row_g (by omega)
  obtain ⟨⟨x0, x1, x2, x3, x4⟩, hxf⟩ := hr j hjl
  rw [HP.out] at x0 x1 x2 x3 x4
  injection er with er _ er3
  subst er er3
  obtain ⟨z0, z1, z2, z3, z4, z5, z6, z7, z8, z9, z10, z11, z12⟩ := nblk_cells hE.bw
  have lw := blk_lt hE.bw
  have HE := Lib.hid hE
  have hjl2 : (j : Int) < (s.grs.length : Int) := by omega
  have hj0 : (0 : Int) ≤ (j : Int) := by omega
  have hll9 : (s.grs.length : Int) ≤ 450 := by omega
  have hl0 : (0 : Int) < (s.grs.length : Int) := by omega
  clear hE hr z0 z1 z2 z3 z4 z5 z6 z7 z8 z10 z11 z12
  go_upto_region 11 with (fail)
  have hne : s.grs ≠ [] := by intro e; rw [e] at hl0; simp at hl0
  have htm : Int.tmod k (s.grs.length : Int) = (j : Int) := by rw [Int.tmod_eq_emod_of_nonneg hk.1]; exact HJ.out
  have hwj : IntKind.i64.wrap (j : Int) = (j : Int) := by simp [IntKind.wrap, IntKind.bits, IntKind.signed]; omega
  go_region
  clear htm hwj x0 x1 x2 x3 x4 hxf z9 hne hjl2 hj0 hll9 hl0
  go_upto_region 12 with (fail)
  refine wp_gen (fun W2 => Md w0 B W tag t d r _ s gw gs ⟨(q0 : Int), (q1 : Int), p2, p3, p4⟩ W1.heap.size W2 tag) (Md.start HE.out ⟨(q0 : Int), (q1 : Int), p2, p3, p4⟩) ?_
  intro W2 hM
  generalize W1.heap.size = gp at hM ⊢
  obtain ⟨gu, cu, eu, _, lu, tu, hu2⟩ := hM.nw.row_u (by omega)
  obtain ⟨gl, cl, el, _, ll, tl, hl2⟩ := hM.nw.row_l (by omega)
  obtain ⟨y0, y1⟩ := hu2 q0 (by omega)
  obtain ⟨l0, l1⟩ := hl2 q0 (by omega)
  injection eu with eu _ eu3
  subst eu eu3
  injection el with el _ el3
  subst el el3
  obtain ⟨z0, z1, z2, z3, z4, z5, z6, z7, z8, z9, z10, z11, z12⟩ := nblk_cells hM.bw
  have hp0 : W2.cell? ⟨gp, 0, none⟩ = some (.int .i64 (q0 : Int)) := (blk_cell hM.bp 0).trans rfl
  have hp4 : W2.cell? ⟨gp, 4, none⟩ = some (.int .i64 p4) := (blk_cell hM.bp 4).trans rfl
  have HM := Lib.hid hM
  have hq2 : (q0 : Int) < (s.up.length : Int) := by omega
  have hq3 : (q0 : Int) < (s.life.length : Int) := by omega
  have hq0 : (0 : Int) ≤ (q0 : Int) := by omega
  have hu := HU.out
  unfold St.isup at hu
  simp only [Int.toNat_natCast] at hu
  rw [hu] at y0
  have hlne : (s.lf (q0 : Int) == p4) = false := beq_eq_false_iff_ne.2 HL.out
  have hlne2 : (s.lf (q0 : Int) != p4) = true := bne_iff_ne.2 HL.out
  have el0 : s.life.getD q0 0 = s.lf (q0 : Int) := by unfold St.lf; rw [Int.toNat_natCast]
  rw [el0] at l0
  clear hu el0
  clear hM hu2 hl2 z0 z1 z2 z3 z6 z7 z8 z9 z10 z11 z12
  go_region
  go_upto_region 13 with (fail)
  refine reg_ret 116 (gw := gw) (gs := gs) (by rfl) (by rfl) (by rfl) (by rfl) (by rfl) (by rfl) (by rfl) (by rfl) (by rfl) HM.out.drew.bw HM.out.drew.bs (by rfl) (by rfl) (by simp [Value.oneCell']) ?_
  go_wp2
  exact fin_ret (by rfl) (by rfl) (by rfl) HM.out.drew.bs .none_ HM.out.drew.nw HM.out.ts HM.out.hs (Nat.le_trans HM.out.b0 HM.out.hs)
set_option maxHeartbeats 2000000 in
theorem come_stale (w0 : World) (B : Nat) (W : World) (tag : Nat → Nat) (x : NV) (s : St) (t d r : Int) (n i : Nat) (h : Nw w0 B W tag W tag x s) (hd : Bd t n i s) (hi : i < 90) (hn : 2 ≤ n ∧ n ≤ 5) (k : Int) (hk : 0 ≤ k ∧ k ≤ 70000) (p : Pap) (j : Nat) (hjl : j < s.grs.length) (hjj : k % (s.grs.length : Int) = (j : Int)) (hp : s.grs.getD j z116 = p) (hu : s.isup p.f0 = true) (hl : s.lf p.f0 = p.f4) (hep : p.f2 ≠ (s.ld p.f0).f0) : Calls Try.prog 61 #[.agg #[.int .i64 t, .int .i64 d, .int .i64 r, x.c, x.l, x.u, x.v, x.d, x.r, x.g, x.b, .int .u64 s.top, .bool true], .int .i64 k, .bool false] W (Pst w0 B W tag t d r n s) := by
  obtain ⟨A1, A2, A3, A4, A5, A6, A7, A8, c1, c2, c3, c4, c5, c6, c7, c8, hx⟩ := h.open
  obtain ⟨raw, vc, vl, vu, vv, vd, vr, vg, vb⟩ := x
  injection hx with hx0 hx1 hx2 hx3 hx4 hx5 hx6 hx7 hx8
  subst hx1 hx2 hx3 hx4 hx5 hx6 hx7 hx8
  clear hx0
  have hu80 := Try.underlying80
  have hu116 := Try.underlying116
  have hu52 := Try.underlying52
  have hpm : p ∈ s.grs := by rw [← hp]; simp [hjl]
  have hpo : Okp n i p := hd.gr p hpm
  obtain ⟨p0, p1, p2, p3, p4⟩ := p
  obtain ⟨q0, rfl⟩ := Int.eq_ofNat_of_zero_le (show 0 ≤ p0 from hpo.fr.1)
  obtain ⟨q1, rfl⟩ := Int.eq_ofNat_of_zero_le (show 0 ≤ p1 from hpo.to_.1)
  have hq0n : q0 < n := by have := hpo.fr.2; simp only at this; omega
  have hq1n : q1 < n := by have := hpo.to_.2; simp only at this; omega
  have hgl := hd.gl
  have hlu : n ≤ s.up.length := Nat.le_of_eq hd.lu.symm
  have hll : n ≤ s.life.length := Nat.le_of_eq hd.ll.symm
  have hlld : n ≤ s.leads.length := Nat.le_of_eq hd.lld.symm
  have HH := Lib.hid h
  have HP := Lib.hid hp
  have HJ := Lib.hid hjj
  have HD := Lib.hid hd
  have HO := Lib.hid hpo
  have HPM := Lib.hid hpm
  have hld := hd.ld (q0 : Int) hpo.fr
  have htp := hd.tp
  have hok : leadok (s.ld (q0 : Int)).f1 = true := leadok_of (by rw [hld.2.1]; omega) (by rw [hld.2.1]; omega) (fun y hy => by have := hld.2.2 y hy; omega)
  have hgr := granted_eq 1 (Nat.le_refl _) (s.ld (q0 : Int)).f0 (s.ld (q0 : Int)).f1 (q1 : Int) p2 p3
  rw [if_pos ⟨hok, by omega, by rw [hld.2.1]; omega, by have := hpo.asked; simp only at this; omega, by have := hpo.asked; simp only at this; omega⟩, if_neg hep] at hgr
  have HGR := Lib.hid hgr
  have HU := Lib.hid hu
  have HL := Lib.hid hl
  have HEP := Lib.hid hep
  clear h hd hpo hp hjj hpm hu hl hep hld hok hgr htp
  go_enter Try.func61, Try.ntmps61
  go_upto_region 1 with (fail)
  refine wp_gen (fun W1 => Ent w0 B W tag t d r _ s true W.heap.size (W.heap.size + 1) W1) (Ent.start HH.out t d r true) ?_
  intro W1 hE
  generalize W.heap.size + 1 = gs at hE ⊢
  generalize W.heap.size = gw at hE ⊢
  obtain ⟨gr, cr, er, _, lr, tr, hr⟩ := hE.nw.row_g (by omega)
  obtain ⟨⟨x0, x1, x2, x3, x4⟩, hxf⟩ := hr j hjl
  rw [HP.out] at x0 x1 x2 x3 x4
  injection er with er _ er3
  subst er er3
  obtain ⟨z0, z1, z2, z3, z4, z5, z6, z7, z8, z9, z10, z11, z12⟩ := nblk_cells hE.bw
  have lw := blk_lt hE.bw
  have HE := Lib.hid hE
  have hjl2 : (j : Int) < (s.grs.length : Int) := by omega
  have hj0 : (0 : Int) ≤ (j : Int) := by omega
  have hll9 : (s.grs.length : Int) ≤ 450 := by omega
  have hl0 : (0 : Int) < (s.grs.length : Int) := by omega
  clear hE hr z0 z1 z2 z3 z4 z5 z6 z7 z8 z10 z11 z12
  go_upto_region 11 with (fail)
  have hne : s.grs ≠ [] := by intro e; rw [e] at hl0; simp at hl0
  have htm : Int.tmod k (s.grs.length : Int) = (j : Int) := by rw [Int.tmod_eq_emod_of_nonneg hk.1]; exact HJ.out
  have hwj : IntKind.i64.wrap (j : Int) = (j : Int) := by simp [IntKind.wrap, IntKind.bits, IntKind.signed]; omega
  go_region
  clear htm hwj x0 x1 x2 x3 x4 hxf z9 hne hjl2 hj0 hll9 hl0
  go_upto_region 12 with (fail)
  refine wp_gen (fun W2 => Md w0 B W tag t d r _ s gw gs ⟨(q0 : Int), (q1 : Int), p2, p3, p4⟩ W1.heap.size W2 tag) (Md.start HE.out ⟨(q0 : Int), (q1 : Int), p2, p3, p4⟩) ?_
  intro W2 hM
  generalize W1.heap.size = gp at hM ⊢
  obtain ⟨gu, cu, eu, _, lu, tu, hu2⟩ := hM.nw.row_u (by omega)
  obtain ⟨gl, cl, el, _, ll, tl, hl2⟩ := hM.nw.row_l (by omega)
  obtain ⟨y0, y1⟩ := hu2 q0 (by omega)
  obtain ⟨l0, l1⟩ := hl2 q0 (by omega)
  injection eu with eu _ eu3
  subst eu eu3
  injection el with el _ el3
  subst el el3
  obtain ⟨z0, z1, z2, z3, z4, z5, z6, z7, z8, z9, z10, z11, z12⟩ := nblk_cells hM.bw
  have hp0 : W2.cell? ⟨gp, 0, none⟩ = some (.int .i64 (q0 : Int)) := (blk_cell hM.bp 0).trans rfl
  have hp4 : W2.cell? ⟨gp, 4, none⟩ = some (.int .i64 p4) := (blk_cell hM.bp 4).trans rfl
  have HM := Lib.hid hM
  have hq2 : (q0 : Int) < (s.up.length : Int) := by omega
  have hq3 : (q0 : Int) < (s.life.length : Int) := by omega
  have hq0 : (0 : Int) ≤ (q0 : Int) := by omega
  have hu := HU.out
  unfold St.isup at hu
  simp only [Int.toNat_natCast] at hu
  rw [hu] at y0
  have el0 : s.life.getD q0 0 = p4 := by have := HL.out; unfold St.lf at this; rw [Int.toNat_natCast] at this; exact this
  rw [el0] at l0
  clear hu el0
  clear hM hu2 hl2 z0 z1 z2 z3 z6 z7 z8 z9 z10 z11 z12
  go_region
  go_upto_region 14 with (fail)
  refine wp_gen (fun W3 => Md w0 B W tag t d r _ s gw gs ⟨(q0 : Int), (q1 : Int), p2, p3, p4⟩ gp W3 tag) HM.out.drew ?_
  intro W3 hM
  clear y0 y1 l0 l1 hp0 hp4 z4 z5 lu tu ll tl
  obtain ⟨gd, cd, ed, _, ld, td, hd2⟩ := hM.nw.row_d (by omega)
  obtain ⟨Ad, nd, ⟨d0, d1⟩, dv, df⟩ := hd2 q0 (by omega)
  injection ed with ed _ ed3
  subst ed ed3
  have eld : s.leads.getD q0 z52 = s.ld (q0 : Int) := by unfold St.ld; rw [Int.toNat_natCast]
  rw [eld] at d0 d1 dv
  have hgr2 := HGR.out
  obtain ⟨L, hL⟩ : ∃ L, L = s.ld (q0 : Int) := ⟨_, rfl⟩
  have HLD := Lib.hid hL
  rw [← hL] at d0 d1 dv hgr2
  clear eld hL
  obtain ⟨le, ll⟩ := L
  simp only at d0 d1 dv hgr2
  obtain ⟨z0, z1, z2, z3, z4, z5, z6, z7, z8, z9, z10, z11, z12⟩ := nblk_cells hM.bw
  have hp0 : W3.cell? ⟨gp, 0, none⟩ = some (.int .i64 (q0 : Int)) := (blk_cell hM.bp 0).trans rfl
  have hp1 : W3.cell? ⟨gp, 1, none⟩ = some (.int .i64 (q1 : Int)) := (blk_cell hM.bp 1).trans rfl
  have hp2 : W3.cell? ⟨gp, 2, none⟩ = some (.int .u64 p2) := (blk_cell hM.bp 2).trans rfl
  have hp3 : W3.cell? ⟨gp, 3, none⟩ = some (.int .i64 p3) := (blk_cell hM.bp 3).trans rfl
  have lw3 := blk_lt hM.bw
  have lp3 := blk_lt hM.bp
  have HM3 := Lib.hid hM
  have HV := Lib.hid dv
  have HGR2 := Lib.hid hgr2
  have hq4 : (q0 : Int) < (s.leads.length : Int) := by omega
  have gw1 : gw < W3.heap.size + 1 := by omega
  have gd1 : gd < W3.heap.size + 1 := by omega
  have gp1 : gp < W3.heap.size + 1 := by omega
  have gwn0 : W3.heap.size ≠ gw := by omega
  have gwn1 : gw ≠ W3.heap.size := by omega
  have gdn0 : W3.heap.size ≠ gd := by omega
  have gdn1 : gd ≠ W3.heap.size := by omega
  have gpn0 : W3.heap.size ≠ gp := by omega
  have gpn1 : gp ≠ W3.heap.size := by omega
  have gs1 : W3.heap.size < W3.heap.size + 1 := by omega
  clear hM hd2 dv hgr2 z0 z1 z2 z3 z4 z5 z6 z8 z9 z10 z11 z12 df hq2 hq3 lw lr
  go_region_held3 (fun w' => w'.cell? ⟨gw, 7, none⟩ = some (.slice (some ⟨gd, 0, none⟩) s.leads.length c5) ∧ w'.cell? ⟨gd, q0 * 2, none⟩ = some (.int .u64 le) ∧ w'.cell? ⟨gd, q0 * 2 + 1, none⟩ = some (.slice Ad ll.length nd) ∧ w'.cell? ⟨gp, 0, none⟩ = some (.int .i64 (q0 : Int)) ∧ w'.cell? ⟨gp, 1, none⟩ = some (.int .i64 (q1 : Int)) ∧ w'.cell? ⟨gp, 2, none⟩ = some (.int .u64 p2) ∧ w'.cell? ⟨gp, 3, none⟩ = some (.int .i64 p3)) (go_keep)
    (first | (go_at_call 22
              refine (lead_Granted.calls 1 le (fun k => tag k = 9) Ad nd ll _ _ _ _ _ _ _ (Kd.V_below HV.out (by first | exact below_drew (Below.refl _ _) | exact below_drew (below_alloc (Below.refl _ _) _) | exact below_alloc (below_drew (Below.refl _ _)) _)) HGR2.out).mono ?_
              rintro e w1 ⟨vr, rfl, hv, hb⟩
              obtain ⟨hcc, hff⟩ := bcell hb
              have hbT : Below W3.heap.size W3 w1 := by first | exact (below_drew (Below.refl _ _)).trans (hb.mono (by simp)) | exact (below_drew (below_alloc (Below.refl _ _) _)).trans (hb.mono (by simp)) | exact (below_alloc (below_drew (Below.refl _ _)) _).trans (hb.mono (by simp))
              have k0 := ((bcell hbT).1 gw 7 lw3).trans z7
              have k1 := ((bcell hbT).1 gd (q0 * 2) ld).trans d0
              have k2 := ((bcell hbT).1 gd (q0 * 2 + 1) ld).trans d1
              have k3 := ((bcell hbT).1 gp 0 lp3).trans hp0
              have k4 := ((bcell hbT).1 gp 1 lp3).trans hp1
              have k5 := ((bcell hbT).1 gp 2 lp3).trans hp2
              have k6 := ((bcell hbT).1 gp 3 lp3).trans hp3
              have HB2 := Lib.hid hb
              clear hbT
              obtain ⟨Ar, cr, rfl⟩ := Kd.V_slice hv
              have HV2 := Lib.hid hv
              clear hb hv))
  all_goals go_upto_region 15 with (fail)
  all_goals clear hcc hff k0 k1 k2 k3 k4 k5 k6 gw1 gd1 gp1 gwn0 gwn1 gdn0 gdn1 gpn0 gpn1 gs1 z7 d0 d1 hp0 hp1 hp2 hp3 ld lw3 lp3
  all_goals (first
    | (refine wp_gen (fun W4 => ∃ tag4, Mg w0 B W tag t d r _ s gw gs ⟨(q0 : Int), (q1 : Int), p2, p3, p4⟩ gp le Ar (List.length ll) cr ll w1.heap.size W4 tag4) ⟨_, Mg.late HM3.out.drew HB2.out HV2.out⟩ ?_
       rintro W4 ⟨tag4, hM⟩
       generalize w1.heap.size = gb at hM ⊢)
    | (refine wp_gen (fun W4 => ∃ tag4, Mg w0 B W tag t d r _ s gw gs ⟨(q0 : Int), (q1 : Int), p2, p3, p4⟩ gp le Ar (List.length ll) cr ll W3.heap.size W4 tag4) ⟨_, Mg.early (Wa := W3) rfl HM3.out HB2.out HV2.out⟩ ?_
       rintro W4 ⟨tag4, hM⟩
       generalize W3.heap.size = gb at hM ⊢))
  all_goals
    have HM5 := Lib.hid hM.md
    clear hM
    go_upto_region 17 with (fail)
    refine reg_ret 141 (gw := gw) (gs := gs) (by rfl) (by rfl) (by rfl) (by rfl) (by rfl) (by rfl) (by rfl) (by rfl) (by rfl) HM5.out.bw HM5.out.bs (by rfl) (by rfl) (by simp [Value.oneCell']) ?_
    go_wp2
    exact fin_ret (by rfl) (by rfl) (by rfl) HM5.out.bs .none_ HM5.out.nw HM5.out.ts HM5.out.hs (Nat.le_trans HM5.out.b0 HM5.out.hs)
set_option maxHeartbeats 2000000 in
theorem come_got (w0 : World) (B : Nat) (W : World) (tag : Nat → Nat) (x : NV) (s : St) (t d r : Int) (n i : Nat) (h : Nw w0 B W tag W tag x s) (hd : Bd t n i s) (hi : i < 90) (hn : 2 ≤ n ∧ n ≤ 5) (k : Int) (hk : 0 ≤ k ∧ k ≤ 70000) (p : Pap) (j : Nat) (hjl : j < s.grs.length) (hjj : k % (s.grs.length : Int) = (j : Int)) (hp : s.grs.getD j z116 = p) (hu : s.isup p.f0 = true) (hl : s.lf p.f0 = p.f4) (hep : p.f2 = (s.ld p.f0).f0) : Calls Try.prog 61 #[.agg #[.int .i64 t, .int .i64 d, .int .i64 r, x.c, x.l, x.u, x.v, x.d, x.r, x.g, x.b, .int .u64 s.top, .bool true], .int .i64 k, .bool false] W (Pst w0 B W tag t d r n s) := by
  obtain ⟨A1, A2, A3, A4, A5, A6, A7, A8, c1, c2, c3, c4, c5, c6, c7, c8, hx⟩ := h.open
  obtain ⟨raw, vc, vl, vu, vv, vd, vr, vg, vb⟩ := x
  injection hx with hx0 hx1 hx2 hx3 hx4 hx5 hx6 hx7 hx8
  subst hx1 hx2 hx3 hx4 hx5 hx6 hx7 hx8
  clear hx0
  have hu80 := Try.underlying80
  have hu116 := Try.underlying116
  have hu52 := Try.underlying52
  have hpm : p ∈ s.grs := by rw [← hp]; simp [hjl]
  have hpo : Okp n i p := hd.gr p hpm
  obtain ⟨p0, p1, p2, p3, p4⟩ := p
  obtain ⟨q0, rfl⟩ := Int.eq_ofNat_of_zero_le (show 0 ≤ p0 from hpo.fr.1)
  obtain ⟨q1, rfl⟩ := Int.eq_ofNat_of_zero_le (show 0 ≤ p1 from hpo.to_.1)
  have hq0n : q0 < n := by have := hpo.fr.2; simp only at this; omega
  have hq1n : q1 < n := by have := hpo.to_.2; simp only at this; omega
  have hgl := hd.gl
  have hlu : n ≤ s.up.length := Nat.le_of_eq hd.lu.symm
  have hll : n ≤ s.life.length := Nat.le_of_eq hd.ll.symm
  have hlld : n ≤ s.leads.length := Nat.le_of_eq hd.lld.symm
  have HH := Lib.hid h
  have HP := Lib.hid hp
  have HJ := Lib.hid hjj
  have HD := Lib.hid hd
  have HO := Lib.hid hpo
  have HPM := Lib.hid hpm
  have hld := hd.ld (q0 : Int) hpo.fr
  have htp := hd.tp
  have hok : leadok (s.ld (q0 : Int)).f1 = true := leadok_of (by rw [hld.2.1]; omega) (by rw [hld.2.1]; omega) (fun y hy => by have := hld.2.2 y hy; omega)
  have hgr := granted_eq 1 (Nat.le_refl _) (s.ld (q0 : Int)).f0 (s.ld (q0 : Int)).f1 (q1 : Int) p2 p3
  rw [if_pos ⟨hok, by omega, by rw [hld.2.1]; omega, by have := hpo.asked; simp only at this; omega, by have := hpo.asked; simp only at this; omega⟩, if_pos hep, Int.toNat_natCast] at hgr
  have HGR := Lib.hid hgr
  have HU := Lib.hid hu
  have HL := Lib.hid hl
  have HEP := Lib.hid hep
  clear h hd hpo hp hjj hpm hu hl hep hld hok hgr htp
  go_enter Try.func61, Try.ntmps61
  go_upto_region 1 with (fail)
  refine wp_gen (fun W1 => Ent w0 B W tag t d r _ s true W.heap.size (W.heap.size + 1) W1) (Ent.start HH.out t d r true) ?_
  intro W1 hE
  generalize W.heap.size + 1 = gs at hE ⊢
  generalize W.heap.size = gw at hE ⊢
  obtain ⟨gr, cr, er, _, lr, tr, hr⟩ := hE.nw.row_g (by omega)
  obtain ⟨⟨x0, x1, x2, x3, x4⟩, hxf⟩ := hr j hjl
  rw [HP.out] at x0 x1 x2 x3 x4
  injection er with er _ er3
  subst er er3
  obtain ⟨z0, z1, z2, z3, z4, z5, z6, z7, z8, z9, z10, z11, z12⟩ := nblk_cells hE.bw
  have lw := blk_lt hE.bw
  have HE := Lib.hid hE
  have hjl2 : (j : Int) < (s.grs.length : Int) := by omega
  have hj0 : (0 : Int) ≤ (j : Int) := by omega
  have hll9 : (s.grs.length : Int) ≤ 450 := by omega
  have hl0 : (0 : Int) < (s.grs.length : Int) := by omega
  clear hE hr z0 z1 z2 z3 z4 z5 z6 z7 z8 z10 z11 z12
  go_upto_region 11 with (fail)
  have hne : s.grs ≠ [] := by intro e; rw [e] at hl0; simp at hl0
  have htm : Int.tmod k (s.grs.length : Int) = (j : Int) := by rw [Int.tmod_eq_emod_of_nonneg hk.1]; exact HJ.out
  have hwj : IntKind.i64.wrap (j : Int) = (j : Int) := by simp [IntKind.wrap, IntKind.bits, IntKind.signed]; omega
  go_region
  clear htm hwj x0 x1 x2 x3 x4 hxf z9 hne hjl2 hj0 hll9 hl0
  go_upto_region 12 with (fail)
  refine wp_gen (fun W2 => Md w0 B W tag t d r _ s gw gs ⟨(q0 : Int), (q1 : Int), p2, p3, p4⟩ W1.heap.size W2 tag) (Md.start HE.out ⟨(q0 : Int), (q1 : Int), p2, p3, p4⟩) ?_
  intro W2 hM
  generalize W1.heap.size = gp at hM ⊢
  obtain ⟨gu, cu, eu, _, lu, tu, hu2⟩ := hM.nw.row_u (by omega)
  obtain ⟨gl, cl, el, _, ll, tl, hl2⟩ := hM.nw.row_l (by omega)
  obtain ⟨y0, y1⟩ := hu2 q0 (by omega)
  obtain ⟨l0, l1⟩ := hl2 q0 (by omega)
  injection eu with eu _ eu3
  subst eu eu3
  injection el with el _ el3
  subst el el3
  obtain ⟨z0, z1, z2, z3, z4, z5, z6, z7, z8, z9, z10, z11, z12⟩ := nblk_cells hM.bw
  have hp0 : W2.cell? ⟨gp, 0, none⟩ = some (.int .i64 (q0 : Int)) := (blk_cell hM.bp 0).trans rfl
  have hp4 : W2.cell? ⟨gp, 4, none⟩ = some (.int .i64 p4) := (blk_cell hM.bp 4).trans rfl
  have HM := Lib.hid hM
  have hq2 : (q0 : Int) < (s.up.length : Int) := by omega
  have hq3 : (q0 : Int) < (s.life.length : Int) := by omega
  have hq0 : (0 : Int) ≤ (q0 : Int) := by omega
  have hu := HU.out
  unfold St.isup at hu
  simp only [Int.toNat_natCast] at hu
  rw [hu] at y0
  have el0 : s.life.getD q0 0 = p4 := by have := HL.out; unfold St.lf at this; rw [Int.toNat_natCast] at this; exact this
  rw [el0] at l0
  clear hu el0
  clear hM hu2 hl2 z0 z1 z2 z3 z6 z7 z8 z9 z10 z11 z12
  go_region
  go_upto_region 14 with (fail)
  refine wp_gen (fun W3 => Md w0 B W tag t d r _ s gw gs ⟨(q0 : Int), (q1 : Int), p2, p3, p4⟩ gp W3 tag) HM.out.drew ?_
  intro W3 hM
  clear y0 y1 l0 l1 hp0 hp4 z4 z5 lu tu ll tl
  obtain ⟨gd, cd, ed, _, ld, td, hd2⟩ := hM.nw.row_d (by omega)
  obtain ⟨Ad, nd, ⟨d0, d1⟩, dv, df⟩ := hd2 q0 (by omega)
  injection ed with ed _ ed3
  subst ed ed3
  have eld : s.leads.getD q0 z52 = s.ld (q0 : Int) := by unfold St.ld; rw [Int.toNat_natCast]
  rw [eld] at d0 d1 dv
  have hgr2 := HGR.out
  obtain ⟨L, hL⟩ : ∃ L, L = s.ld (q0 : Int) := ⟨_, rfl⟩
  have HLD := Lib.hid hL
  rw [← hL] at d0 d1 dv hgr2
  clear eld hL
  obtain ⟨le, ll⟩ := L
  simp only at d0 d1 dv hgr2
  obtain ⟨z0, z1, z2, z3, z4, z5, z6, z7, z8, z9, z10, z11, z12⟩ := nblk_cells hM.bw
  have hp0 : W3.cell? ⟨gp, 0, none⟩ = some (.int .i64 (q0 : Int)) := (blk_cell hM.bp 0).trans rfl
  have hp1 : W3.cell? ⟨gp, 1, none⟩ = some (.int .i64 (q1 : Int)) := (blk_cell hM.bp 1).trans rfl
  have hp2 : W3.cell? ⟨gp, 2, none⟩ = some (.int .u64 p2) := (blk_cell hM.bp 2).trans rfl
  have hp3 : W3.cell? ⟨gp, 3, none⟩ = some (.int .i64 p3) := (blk_cell hM.bp 3).trans rfl
  have lw3 := blk_lt hM.bw
  have lp3 := blk_lt hM.bp
  have HM3 := Lib.hid hM
  have HV := Lib.hid dv
  have HGR2 := Lib.hid hgr2
  have hq4 : (q0 : Int) < (s.leads.length : Int) := by omega
  have gw1 : gw < W3.heap.size + 1 := by omega
  have gd1 : gd < W3.heap.size + 1 := by omega
  have gp1 : gp < W3.heap.size + 1 := by omega
  have gwn0 : W3.heap.size ≠ gw := by omega
  have gwn1 : gw ≠ W3.heap.size := by omega
  have gdn0 : W3.heap.size ≠ gd := by omega
  have gdn1 : gd ≠ W3.heap.size := by omega
  have gpn0 : W3.heap.size ≠ gp := by omega
  have gpn1 : gp ≠ W3.heap.size := by omega
  have gs1 : W3.heap.size < W3.heap.size + 1 := by omega
  clear hM hd2 dv hgr2 z0 z1 z2 z3 z4 z5 z6 z8 z9 z10 z11 z12 df hq2 hq3 lw lr
  go_region_held3 (fun w' => w'.cell? ⟨gw, 7, none⟩ = some (.slice (some ⟨gd, 0, none⟩) s.leads.length c5) ∧ w'.cell? ⟨gd, q0 * 2, none⟩ = some (.int .u64 le) ∧ w'.cell? ⟨gd, q0 * 2 + 1, none⟩ = some (.slice Ad ll.length nd) ∧ w'.cell? ⟨gp, 0, none⟩ = some (.int .i64 (q0 : Int)) ∧ w'.cell? ⟨gp, 1, none⟩ = some (.int .i64 (q1 : Int)) ∧ w'.cell? ⟨gp, 2, none⟩ = some (.int .u64 p2) ∧ w'.cell? ⟨gp, 3, none⟩ = some (.int .i64 p3)) (go_keep)
    (first | (go_at_call 22
              refine (lead_Granted.calls 1 le (fun k => tag k = 9) Ad nd ll _ _ _ _ _ _ _ (Kd.V_below HV.out (by first | exact below_drew (Below.refl _ _) | exact below_drew (below_alloc (Below.refl _ _) _) | exact below_alloc (below_drew (Below.refl _ _)) _)) HGR2.out).mono ?_
              rintro e w1 ⟨vr, rfl, hv, hb⟩
              obtain ⟨hcc, hff⟩ := bcell hb
              have hbT : Below W3.heap.size W3 w1 := by first | exact (below_drew (Below.refl _ _)).trans (hb.mono (by simp)) | exact (below_drew (below_alloc (Below.refl _ _) _)).trans (hb.mono (by simp)) | exact (below_alloc (below_drew (Below.refl _ _)) _).trans (hb.mono (by simp))
              have k0 := ((bcell hbT).1 gw 7 lw3).trans z7
              have k1 := ((bcell hbT).1 gd (q0 * 2) ld).trans d0
              have k2 := ((bcell hbT).1 gd (q0 * 2 + 1) ld).trans d1
              have k3 := ((bcell hbT).1 gp 0 lp3).trans hp0
              have k4 := ((bcell hbT).1 gp 1 lp3).trans hp1
              have k5 := ((bcell hbT).1 gp 2 lp3).trans hp2
              have k6 := ((bcell hbT).1 gp 3 lp3).trans hp3
              have HB2 := Lib.hid hb
              clear hbT
              obtain ⟨Ar, cr, rfl⟩ := Kd.V_slice hv
              have HV2 := Lib.hid hv
              clear hb hv))
  all_goals go_upto_region 15 with (fail)
  all_goals clear hcc hff k0 k1 k2 k3 k4 k5 k6 gw1 gd1 gp1 gwn0 gwn1 gdn0 gdn1 gpn0 gpn1 gs1 z7 d0 d1 hp0 hp1 hp2 hp3 ld lw3 lp3
  all_goals (first
    | (refine wp_gen (fun W4 => ∃ tag4, Mg w0 B W tag t d r _ s gw gs ⟨(q0 : Int), (q1 : Int), p2, p3, p4⟩ gp le Ar (List.length (gra ll q1 p3)) cr (gra ll q1 p3) w1.heap.size W4 tag4) ⟨_, Mg.late HM3.out.drew HB2.out HV2.out⟩ ?_
       rintro W4 ⟨tag4, hM⟩
       generalize w1.heap.size = gb at hM ⊢)
    | (refine wp_gen (fun W4 => ∃ tag4, Mg w0 B W tag t d r _ s gw gs ⟨(q0 : Int), (q1 : Int), p2, p3, p4⟩ gp le Ar (List.length (gra ll q1 p3)) cr (gra ll q1 p3) W3.heap.size W4 tag4) ⟨_, Mg.early (Wa := W3) rfl HM3.out HB2.out HV2.out⟩ ?_
       rintro W4 ⟨tag4, hM⟩
       generalize W3.heap.size = gb at hM ⊢))
  all_goals
    obtain ⟨z0, z1, z2, z3, z4, z5, z6, z7, z8, z9, z10, z11, z12⟩ := nblk_cells hM.md.bw
    have hp0 : W4.cell? ⟨gp, 0, none⟩ = some (.int .i64 (q0 : Int)) := (blk_cell hM.md.bp 0).trans rfl
    have hb0 : W4.cell? ⟨gb, 0, none⟩ = some (.int .u64 le) := (blk_cell hM.bb 0).trans rfl
    have hb1 : W4.cell? ⟨gb, 1, none⟩ = some (.slice Ar (List.length (gra ll q1 p3)) cr) := (blk_cell hM.bb 1).trans rfl
    obtain ⟨gd', cd', ed, _, _, td', hd2⟩ := hM.md.nw.row_d (by omega)
    injection ed with ed _ ed3
    injection ed with ed
    injection ed with ed
    subst ed ed3
    obtain ⟨Ad', nd', ⟨d0, d1⟩, _, df⟩ := hd2 q0 (by omega)
    have df0 := df 0
    have df1 := df 1
    rw [Nat.add_zero] at df0
    have HM4 := Lib.hid hM
    clear hM hd2 df z0 z1 z2 z3 z4 z5 z6 z8 z9 z10 z11 z12
    go_upto_region 17 with (fail)
    refine wp_gen (fun W5 => Md w0 B W tag t d r _ { s with leads := s.leads.set q0 ⟨le, gra ll q1 p3⟩ } gw gs ⟨(q0 : Int), (q1 : Int), p2, p3, p4⟩ gp W5 tag4) (HM4.out.note rfl q0 (by omega)) ?_
    intro W5 hM
    have e6 : { s with leads := s.leads.set q0 ⟨le, gra ll q1 p3⟩ } = s.got ⟨(q0 : Int), (q1 : Int), p2, p3, p4⟩ := by
      unfold St.got
      simp only [Int.toNat_natCast]
      rw [← HLD.out]
    rw [e6] at hM
    have HM5 := Lib.hid hM
    clear hM e6
    refine reg_ret 141 (gw := gw) (gs := gs) (by rfl) (by rfl) (by rfl) (by rfl) (by rfl) (by rfl) (by rfl) (by rfl) (by rfl) HM5.out.bw HM5.out.bs (by rfl) (by rfl) (by simp [Value.oneCell']) ?_
    go_wp2
    exact fin_ret (by rfl) (by rfl) (by rfl) HM5.out.bs (.got _ HPM.out HL.out) HM5.out.nw HM5.out.ts HM5.out.hs (Nat.le_trans HM5.out.b0 HM5.out.hs)
end Go.Proofs.Ytgfblogneggpmaa.One
namespace Go.Proofs.Ytgfblogneggpmaa.One
open Go.RowKit Go.Proofs.Ytgfblogneggpmaa.Fn Go.Proofs.YtgfblogneggpmaaW.PrintWords Go.Proofs.YtgfblogneggpmaaW.PrintLast Go.Proofs.YtgfblogneggpmaaW.PrintMore Go.Proofs.Ytgfblogneggpmaa.Vote Go.Proofs.Ytgfblogneggpmaa.Clk Go.Proofs.Ytgfblogneggpmaa.Thr
set_option linter.unusedVariables false
set_option linter.unusedSimpArgs false
set_option maxRecDepth 100000
set_option maxHeartbeats 1000000 in
theorem comes_none (w0 : World) (B : Nat) (W : World) (tag : Nat → Nat) (x : NV) (s : St) (t d r : Int) (n : Nat) (h : Nw w0 B W tag W tag x s) (k : Int) (b : Bool) (he : (if b then s.reqs.length else s.grs.length) = 0) : Calls Try.prog 61 #[.agg #[.int .i64 t, .int .i64 d, .int .i64 r, x.c, x.l, x.u, x.v, x.d, x.r, x.g, x.b, .int .u64 s.top, .bool true], .int .i64 k, .bool b] W (Pst w0 B W tag t d r n s) := by
  obtain ⟨A1, A2, A3, A4, A5, A6, A7, A8, c1, c2, c3, c4, c5, c6, c7, c8, hx⟩ := h.open
  obtain ⟨raw, vc, vl, vu, vv, vd, vr, vg, vb⟩ := x
  injection hx with hx0 hx1 hx2 hx3 hx4 hx5 hx6 hx7 hx8
  subst hx1 hx2 hx3 hx4 hx5 hx6 hx7 hx8
  clear hx0
  have hu80 := Try.underlying80
  have HH := Lib.hid h
  clear h
  cases b with
  | true =>
    have he : s.reqs.length = 0 := by simpa using he
    have h2 := HH.out
    rw [he] at h2 ⊢
    clear HH he
    have HH := Lib.hid h2
    clear h2
    go_enter Try.func61, Try.ntmps61
    go_upto_region 1 with (fail)
    refine wp_gen (fun W1 => Ent w0 B W tag t d r _ s true W.heap.size (W.heap.size + 1) W1) (Ent.start HH.out t d r true) ?_
    intro W1 hE
    generalize W.heap.size + 1 = gs at hE ⊢
    generalize W.heap.size = gw at hE ⊢
    obtain ⟨z0, z1, z2, z3, z4, z5, z6, z7, z8, z9, z10, z11, z12⟩ := nblk_cells hE.bw
    have HE := Lib.hid hE
    clear hE z0 z1 z2 z3 z4 z5 z6 z7 z9 z10 z11 z12
    go_upto_region 17 with (fail)
    refine reg_ret 141 (gw := gw) (gs := gs) (by rfl) (by rfl) (by rfl) (by rfl) (by rfl) (by rfl) (by rfl) (by rfl) (by rfl) HE.out.bw HE.out.bs (by rfl) (by rfl) (by simp [Value.oneCell']) ?_
    go_wp2
    exact fin_ret (by rfl) (by rfl) (by rfl) HE.out.bs .none_ HE.out.nw HE.out.ts HE.out.s_ (Nat.le_trans HE.out.b0 HE.out.s_)
  | false =>
    have he : s.grs.length = 0 := by simpa using he
    have h2 := HH.out
    rw [he] at h2 ⊢
    clear HH he
    have HH := Lib.hid h2
    clear h2
    go_enter Try.func61, Try.ntmps61
    go_upto_region 1 with (fail)
    refine wp_gen (fun W1 => Ent w0 B W tag t d r _ s true W.heap.size (W.heap.size + 1) W1) (Ent.start HH.out t d r true) ?_
    intro W1 hE
    generalize W.heap.size + 1 = gs at hE ⊢
    generalize W.heap.size = gw at hE ⊢
    obtain ⟨z0, z1, z2, z3, z4, z5, z6, z7, z8, z9, z10, z11, z12⟩ := nblk_cells hE.bw
    have HE := Lib.hid hE
    clear hE z0 z1 z2 z3 z4 z5 z6 z7 z8 z10 z11 z12
    go_upto_region 17 with (fail)
    refine reg_ret 141 (gw := gw) (gs := gs) (by rfl) (by rfl) (by rfl) (by rfl) (by rfl) (by rfl) (by rfl) (by rfl) (by rfl) HE.out.bw HE.out.bs (by rfl) (by rfl) (by simp [Value.oneCell']) ?_
    go_wp2
    exact fin_ret (by rfl) (by rfl) (by rfl) HE.out.bs .none_ HE.out.nw HE.out.ts HE.out.s_ (Nat.le_trans HE.out.b0 HE.out.s_)
end Go.Proofs.Ytgfblogneggpmaa.One
