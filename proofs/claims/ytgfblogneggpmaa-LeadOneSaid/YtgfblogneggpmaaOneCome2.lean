/- chapter 18's law: a request comes to a node that is up; by hand. -/
import Derived.Test.YtgfblogneggpmaaFnx0
import Derived.Test.YtgfblogneggpmaaOneCome
namespace Go.Proofs.Ytgfblogneggpmaa.One
open Go.RowKit Go.Proofs.Ytgfblogneggpmaa.Fn Go.Proofs.YtgfblogneggpmaaW.PrintWords Go.Proofs.YtgfblogneggpmaaW.PrintLast Go.Proofs.YtgfblogneggpmaaW.PrintMore Go.Proofs.Ytgfblogneggpmaa.Vote Go.Proofs.Ytgfblogneggpmaa.Clk Go.Proofs.Ytgfblogneggpmaa.Thr
set_option linter.unusedVariables false
set_option linter.unusedSimpArgs false
set_option maxRecDepth 100000
theorem info116 : (Try.prog.info? 116).map (fun i => (i.zero, i.size, i.bytes)) = some (some (.agg #[.int .i64 0, .int .i64 0, .int .u64 0, .int .i64 0, .int .i64 0]), 5, 40) := by kernel_rfl
theorem set_same {α : Type} (l : List α) (j : Nat) (z : α) : l.set j (l.getD j z) = l := by
  apply List.ext_getElem?
  intro i
  by_cases h : i = j
  · subst h
    by_cases h2 : i < l.length
    · simp [h2]
    · simp [h2]
  · rw [List.getElem?_set_ne (fun e => h e.symm)]
theorem nblk_set12 {W : World} {t d r : Int} {x : NV} {top : Int} {ok : Bool} {g : Nat} (h : W.heap[g]? = some (nblk t d r x top ok)) (b : Bool) : (W.setCell ⟨g, 12, none⟩ (.bool b)).heap[g]? = some (nblk t d r x top b) := by
  have := blk_set h 12 (.bool b)
  exact this
/-- Amid the walk of a request: what stands in memory, with a paper's block and a vote's. -/
structure Mid (w0 : World) (B : Nat) (W : World) (tag : Nat → Nat) (t d r : Int) (x : NV) (s : St) (gw gs : Nat) (p : Pap) (v : S38) (gp gb : Nat) (W3 : World) : Prop where
  nw : Nw w0 B W tag W3 tag x s
  bw : W3.heap[gw]? = some (nblk t d r x s.top true)
  bs : W3.heap[gs]? = some zblk
  bp : W3.heap[gp]? = some (.cells #[.int .i64 p.f0, .int .i64 p.f1, .int .u64 p.f2, .int .i64 p.f3, .int .i64 p.f4] 116 (0, 0))
  bb : W3.heap[gb]? = some (.cells #[.int .u64 v.f0, .int .i64 v.f1, .int .i64 v.f2, .int .i64 v.f3] 38 (0, 0))
  ws : gw ≠ gs
  wp_ : gw ≠ gp
  wb : gw ≠ gb
  tw : tag gw = 0
  ts : tag gs = 0
  tp : tag gp = 0
  tb : tag gb = 0
  hw : W.heap.size ≤ gw
  hs : W.heap.size ≤ gs
  b0 : B ≤ W.heap.size
section
variable {w0 : World} {B : Nat} {W : World} {tag : Nat → Nat} {t d r : Int} {x : NV} {s : St} {gw gs : Nat} {p : Pap} {v : S38} {W1 w1 : World}
theorem Mid.late (hE : Ent w0 B W tag t d r x s true gw gs W1) (hb : Below ((W1.alloc (.cells #[.int .i64 p.f0, .int .i64 p.f1, .int .u64 p.f2, .int .i64 p.f3, .int .i64 p.f4] 116)).drew.drew).heap.size ((W1.alloc (.cells #[.int .i64 p.f0, .int .i64 p.f1, .int .u64 p.f2, .int .i64 p.f3, .int .i64 p.f4] 116)).drew.drew) w1) :
    Mid w0 B W tag t d r x s gw gs p v W1.heap.size w1.heap.size (w1.alloc (.cells #[.int .u64 v.f0, .int .i64 v.f1, .int .i64 v.f2, .int .i64 v.f3] 38)) := by
  have lw := blk_lt hE.bw
  have hz : W1.heap.size ≤ w1.heap.size := by have := hb.size; simp at this; omega
  have ha : Below w1.heap.size w1 (w1.alloc (.cells #[.int .u64 v.f0, .int .i64 v.f1, .int .i64 v.f2, .int .i64 v.f3] 38)) := below_alloc (Below.refl _ _) _
  have step : ∀ {g : Nat} {o : Obj}, W1.heap[g]? = some o → (w1.alloc (.cells #[.int .u64 v.f0, .int .i64 v.f1, .int .i64 v.f2, .int .i64 v.f3] 38)).heap[g]? = some o := fun h => blk_below (blk_below (blk_drew (blk_drew (blk_below h (below_alloc (Below.refl _ _) _)))) hb) ha
  exact ⟨((hE.nw.alloc _).drew.drew.below hb).alloc _, step hE.bw, step hE.bs, blk_below (blk_below (blk_drew (blk_drew (blk_new W1 _))) hb) ha, blk_new w1 _, hE.ne, by omega, by omega, hE.tw, hE.ts, hE.nw.fresh _ (Nat.le_refl _), hE.nw.fresh _ hz, hE.w, hE.s_, hE.b0⟩
theorem Mid.early (hE : Ent w0 B W tag t d r x s true gw gs W1) (hb : Below (((W1.alloc (.cells #[.int .i64 p.f0, .int .i64 p.f1, .int .u64 p.f2, .int .i64 p.f3, .int .i64 p.f4] 116)).alloc (.cells #[.int .u64 0, .int .i64 0, .int .i64 0, .int .i64 0] 38)).drew.drew).heap.size (((W1.alloc (.cells #[.int .i64 p.f0, .int .i64 p.f1, .int .u64 p.f2, .int .i64 p.f3, .int .i64 p.f4] 116)).alloc (.cells #[.int .u64 0, .int .i64 0, .int .i64 0, .int .i64 0] 38)).drew.drew) w1) :
    Mid w0 B W tag t d r x s gw gs p v W1.heap.size (W1.heap.size + 1) ((((w1.setCell ⟨W1.heap.size + 1, 0, none⟩ (.int .u64 v.f0)).setCell ⟨W1.heap.size + 1, 1, none⟩ (.int .i64 v.f1)).setCell ⟨W1.heap.size + 1, 2, none⟩ (.int .i64 v.f2)).setCell ⟨W1.heap.size + 1, 3, none⟩ (.int .i64 v.f3)) := by
  have lw := blk_lt hE.bw
  have ls := blk_lt hE.bs
  have hB : B ≤ W1.heap.size := hE.nw.base
  have h0 : W.heap.size ≤ W1.heap.size := hE.nw.size
  have ht : tag (W1.heap.size + 1) = 0 := hE.nw.fresh _ (by omega)
  have ha : ∀ (w : World) (o : Obj), Below w.heap.size w (w.alloc o) := fun w o => below_alloc (Below.refl _ _) o
  have step : ∀ {g : Nat} {o : Obj}, W1.heap[g]? = some o → w1.heap[g]? = some o := fun h => blk_below (blk_drew (blk_drew (blk_below (blk_below h (ha _ _)) (ha _ _)))) hb
  have hbp : w1.heap[W1.heap.size]? = some (.cells #[.int .i64 p.f0, .int .i64 p.f1, .int .u64 p.f2, .int .i64 p.f3, .int .i64 p.f4] 116 (0, 0)) := blk_below (blk_drew (blk_drew (blk_below (blk_new W1 _) (ha _ _)))) hb
  have hbb : w1.heap[W1.heap.size + 1]? = some (.cells #[.int .u64 0, .int .i64 0, .int .i64 0, .int .i64 0] 38 (0, 0)) := by
    have h1 := blk_new (W1.alloc (.cells #[.int .i64 p.f0, .int .i64 p.f1, .int .u64 p.f2, .int .i64 p.f3, .int .i64 p.f4] 116)) (.cells #[.int .u64 0, .int .i64 0, .int .i64 0, .int .i64 0] 38)
    have h2 := blk_below (blk_drew (blk_drew h1)) hb
    simpa using h2
  have far : ∀ {w : World} {g : Nat} {c : Array Value} {e : Nat}, g ≠ W1.heap.size + 1 → w.heap[g]? = some (.cells c e (0, 0)) → ∀ (j : Nat) (u : Value), (w.setCell ⟨W1.heap.size + 1, j, none⟩ u).heap[g]? = some (.cells c e (0, 0)) := fun hne h j u => blk_far h hne u
  refine ⟨((((((((hE.nw.alloc _).alloc _).drew.drew).below hb).set0 ht (by omega) (by omega) 0 _).set0 ht (by omega) (by omega) 1 _).set0 ht (by omega) (by omega) 2 _).set0 ht (by omega) (by omega) 3 _), ?_, ?_, ?_, ?_, hE.ne, by omega, by omega, hE.tw, hE.ts, hE.nw.fresh _ (Nat.le_refl _), ht, hE.w, hE.s_, hE.b0⟩
  · exact far (by omega) (far (by omega) (far (by omega) (far (by omega) (step hE.bw) 0 _) 1 _) 2 _) 3 _
  · exact far (by omega) (far (by omega) (far (by omega) (far (by omega) (step hE.bs) 0 _) 1 _) 2 _) 3 _
  · exact far (by omega) (far (by omega) (far (by omega) (far (by omega) hbp 0 _) 1 _) 2 _) 3 _
  · exact blk_set (blk_set (blk_set (blk_set hbb 0 _) 1 _) 2 _) 3 _
variable {gp gb : Nat} {W3 : World}
theorem Mid.ok12 (h : Mid w0 B W tag t d r x s gw gs p v gp gb W3) : Mid w0 B W tag t d r x s gw gs p v gp gb (W3.setCell ⟨gw, 12, none⟩ (.bool true)) :=
  { h with
    nw := h.nw.set0 h.tw h.hw (Nat.le_trans h.b0 h.hw) 12 _
    bw := nblk_set12 h.bw true
    bs := blk_far h.bs (fun e => h.ws e.symm) _
    bp := blk_far h.bp (fun e => h.wp_ e.symm) _
    bb := blk_far h.bb (fun e => h.wb e.symm) _ }
theorem Mid.vote (h : Mid w0 B W tag t d r x s gw gs p v gp gb W3) {g n c : Nat} (hx : x.v = .slice (some ⟨g, 0, none⟩) n c) (hg : tag g = 4) (j : Nat) (hj : j < n) (y : S38) : Mid w0 B W tag t d r x { s with votes := s.votes.set j y } gw gs p v gp gb (st4 W3 g j y) := by
  have far : ∀ {k : Nat} {c : Array Value} {e : Nat}, tag k = 0 → W3.heap[k]? = some (.cells c e (0, 0)) → (st4 W3 g j y).heap[k]? = some (.cells c e (0, 0)) := fun ht hb => by
    rename_i k _ _
    have hne : k ≠ g := fun e => by rw [e, hg] at ht; cases ht
    exact blk_far (blk_far (blk_far (blk_far hb hne _) hne _) hne _) hne _
  exact { h with nw := h.nw.set_v hx j hj y, bw := far h.tw h.bw, bs := far h.ts h.bs, bp := far h.tp h.bp, bb := far h.tb h.bb }
/-- A grant more. -/
theorem Mid.app (h : Mid w0 B W tag t d r x s gw gs p v gp gb W3) {wn : World} {vn : Value} {q : Pap} (hR : k116.R 116 wn B (fun k => tag k = 7 ∨ W3.heap.size ≤ k) vn (s.grs ++ [q])) (hB : Below B w0 wn) (hG : W3.grownBy wn x.g.ownBlock) :
    (wn.cell? ⟨gw, 9, none⟩ = some x.g ∧ wn.frozen? ⟨gw, 9, none⟩ = false) ∧ Nw w0 B W tag (wn.setCell ⟨gw, 9, none⟩ vn) (ri tag W3.heap.size wn.heap.size 7) { x with g := vn } { s with grs := s.grs ++ [q] } ∧ (wn.setCell ⟨gw, 9, none⟩ vn).heap[gw]? = some (nblk t d r { x with g := vn } s.top true) ∧ (wn.setCell ⟨gw, 9, none⟩ vn).heap[gs]? = some zblk ∧ ri tag W3.heap.size wn.heap.size 7 gs = 0 := by
  obtain ⟨b1, b2⟩ := Nw.stay (by decide) h.nw.g.1 hG h.bw h.tw
  obtain ⟨b3, b4⟩ := Nw.stay (by decide) h.nw.g.1 hG h.bs h.ts
  refine ⟨⟨(blk_cell b1 9).trans rfl, blk_frozen b1 9⟩, (h.nw.app_g hR hB hG).set0 b2 h.hw (Nat.le_trans h.b0 h.hw) 9 _, ?_, blk_far b3 (fun e => h.ws e.symm) _, b4⟩
  have := blk_set b1 9 vn
  exact this
end
set_option maxHeartbeats 2000000 in
theorem comes_bar (w0 : World) (B : Nat) (W : World) (tag : Nat → Nat) (x : NV) (s : St) (t d r : Int) (n i : Nat) (h : Nw w0 B W tag W tag x s) (hd : Bd t n i s) (hi : i < 90) (hn : 2 ≤ n ∧ n ≤ 5) (hm : mayt t d r) (k : Int) (hk : 0 ≤ k ∧ k ≤ 70000) (p : Pap) (j : Nat) (hjl : j < s.reqs.length) (hjj : k % (s.reqs.length : Int) = (j : Int)) (hp : s.reqs.getD j z116 = p) (hu : s.isup p.f1 = true) (hb : bars (s.vo p.f1).f0 (s.vo p.f1).f1 (s.vo p.f1).f2 (s.vo p.f1).f3 p.f0 p.f2 (s.clk p.f1) = true) : Calls Try.prog 61 #[.agg #[.int .i64 t, .int .i64 d, .int .i64 r, x.c, x.l, x.u, x.v, x.d, x.r, x.g, x.b, .int .u64 s.top, .bool true], .int .i64 k, .bool true] W (Pst w0 B W tag t d r n s) := by
  obtain ⟨A1, A2, A3, A4, A5, A6, A7, A8, c1, c2, c3, c4, c5, c6, c7, c8, hx⟩ := h.open
  obtain ⟨raw, vc, vl, vu, vv, vd, vr, vg, vb⟩ := x
  injection hx with hx0 hx1 hx2 hx3 hx4 hx5 hx6 hx7 hx8
  subst hx1 hx2 hx3 hx4 hx5 hx6 hx7 hx8
  clear hx0
  have hu80 := Try.underlying80
  have hu116 := Try.underlying116
  have hu38 := Try.underlying38
  have hu23 := Try.underlying23
  have hpm : p ∈ s.reqs := by rw [← hp]; simp [hjl]
  have hpo : Okp n i p := hd.rq p hpm
  obtain ⟨p0, p1, p2, p3, p4⟩ := p
  obtain ⟨q1, rfl⟩ := Int.eq_ofNat_of_zero_le (show 0 ≤ p1 from hpo.to_.1)
  have hq1 : q1 < s.up.length := by have := hpo.to_.2; simp only at this; rw [hd.lu]; omega
  have hq1v : q1 < s.votes.length := by have := hpo.to_.2; simp only at this; rw [hd.lv]; omega
  have hq1c : q1 < s.clock.length := by have := hpo.to_.2; simp only at this; rw [hd.lc]; omega
  have hrl := hd.rl
  have hgl := hd.gl
  have hvo := hd.vo (q1 : Int) hpo.to_
  have hck := hd.ck (q1 : Int) hpo.to_
  simp only at hb
  have hf0 : 0 ≤ p0 ∧ p0 < 64 := ⟨hpo.fr.1, by have := hpo.fr.2; simp only at this; omega⟩
  have hma : maya t d r (s.vo (q1 : Int)).f1 (s.vo (q1 : Int)).f2 (s.vo (q1 : Int)).f3 p0 (s.clk (q1 : Int)) := by
    obtain ⟨m1, m2, m3, m4, m5, m6, m7⟩ := hm
    obtain ⟨o1, o2, o3, o4⟩ := hvo
    refine ⟨⟨m1, m2, m3, m4, m5, m6, m7⟩, ⟨?_, by omega, by omega, by omega, by omega⟩, hf0, by omega, by omega⟩
    rcases o1 with o1 | o1
    · exact .inl o1
    · unfold isn at o1
      exact .inr (by omega)
  have hask := ask_ok (E := (s.vo (q1 : Int)).f0) (epoch := p2) hma
  rw [hb] at hask
  simp only [if_true] at hask
  have HASK := Lib.hid hask
  have HH := Lib.hid h
  have HU := Lib.hid hu
  have HP := Lib.hid hp
  have HJ := Lib.hid hjj
  have HD := Lib.hid hd
  have HO := Lib.hid hpo
  have HB := Lib.hid hb
  have HPM := Lib.hid hpm
  clear h hd hpo hu hp hjj hask hma hb hvo hck hf0 hpm
  go_enter Try.func61, Try.ntmps61
  go_upto_region 1 with (fail)
  refine wp_gen (fun W1 => Ent w0 B W tag t d r _ s true W.heap.size (W.heap.size + 1) W1) (Ent.start HH.out t d r true) ?_
  intro W1 hE
  generalize W.heap.size + 1 = gs at hE ⊢
  generalize W.heap.size = gw at hE ⊢
  obtain ⟨gr, cr, er, _, lr, tr, hr⟩ := hE.nw.row_r (by omega)
  obtain ⟨gu, cu, eu, _, lu, tu, hu2⟩ := hE.nw.row_u (by omega)
  obtain ⟨gv, cv, ev, _, lv, tv, hv⟩ := hE.nw.row_v (by omega)
  obtain ⟨gc, cc, ec, _, lc, tc, hc⟩ := hE.nw.row_c (by omega)
  obtain ⟨⟨x0, x1, x2, x3, x4⟩, hxf⟩ := hr j hjl
  obtain ⟨y0, y1⟩ := hu2 q1 hq1
  obtain ⟨⟨v0, v1, v2, v3⟩, vf⟩ := hv q1 hq1v
  obtain ⟨t0_, t1_⟩ := hc q1 hq1c
  have ev0 : s.votes.getD q1 z38 = s.vo (q1 : Int) := by unfold St.vo; rw [Int.toNat_natCast]
  have ec0 : s.clock.getD q1 0 = s.clk (q1 : Int) := by unfold St.clk; rw [Int.toNat_natCast]
  have hu := HU.out
  unfold St.isup at hu
  simp only [Int.toNat_natCast] at hu
  rw [hu] at y0
  rw [HP.out] at x0 x1 x2 x3 x4
  rw [ev0] at v0 v1 v2 v3
  rw [ec0] at t0_
  injection er with er _ er3
  injection eu with eu _ eu3
  injection ev with ev _ ev3
  injection ec with ec _ ec3
  subst er eu ev ec er3 eu3 ev3 ec3
  obtain ⟨z0, z1, z2, z3, z4, z5, z6, z7, z8, z9, z10, z11, z12⟩ := nblk_cells hE.bw
  have zf := fun o => blk_frozen hE.bw o
  have lw := blk_lt hE.bw
  have HE := Lib.hid hE
  have hjl2 : (j : Int) < (s.reqs.length : Int) := by omega
  have hj0 : (0 : Int) ≤ (j : Int) := by omega
  have hq2 : (q1 : Int) < (s.up.length : Int) := by omega
  have hq3 : (q1 : Int) < (s.votes.length : Int) := by omega
  have hq4 : (q1 : Int) < (s.clock.length : Int) := by omega
  have hq0 : (0 : Int) ≤ (q1 : Int) := by omega
  have hll : (s.reqs.length : Int) ≤ 450 := by omega
  have hl0 : (0 : Int) < (s.reqs.length : Int) := by omega
  clear hE hr hu2 hu hv hc ev0 ec0
  obtain ⟨vE, hvE⟩ : ∃ y, y = s.vo (q1 : Int) := ⟨_, rfl⟩
  obtain ⟨vC, hvC⟩ : ∃ y, y = s.clk (q1 : Int) := ⟨_, rfl⟩
  have HVE := Lib.hid hvE
  have HVC := Lib.hid hvC
  rw [← hvE] at v0 v1 v2 v3
  rw [← hvC] at t0_
  have hask2 := HASK.out
  rw [← hvE, ← hvC] at hask2
  clear hvE hvC
  obtain ⟨e0, e1, e2, e3⟩ := vE
  simp only at hask2
  have HASK2 := Lib.hid hask2
  clear hask2
  go_wp2_with fail
  have hne : s.reqs ≠ [] := by intro e; rw [e] at hl0; simp at hl0
  have htm : Int.tmod k (s.reqs.length : Int) = (j : Int) := by rw [Int.tmod_eq_emod_of_nonneg hk.1]; exact HJ.out
  have hwj : IntKind.i64.wrap (j : Int) = (j : Int) := by simp [IntKind.wrap, IntKind.bits, IntKind.signed]; omega
  go_region
  clear htm hwj
  go_upto_region 5 with (fail)
  go_cut [8, 9, 10] (fun s8 s9 s10 wx => s9 = .bool false ∧ s10 = .int .i64 0 ∧ ∃ gb : Nat, s8 = .pointer (some ⟨gb, 0, none⟩) ∧ Mid w0 B W tag t d r ⟨raw, .slice (some ⟨gc, 0, none⟩) s.clock.length c1, .slice A2 s.life.length c2, .slice (some ⟨gu, 0, none⟩) s.up.length c3, .slice (some ⟨gv, 0, none⟩) s.votes.length c4, .slice A5 s.leads.length c5, .slice (some ⟨gr, 0, none⟩) s.reqs.length c6, .slice A7 s.grs.length c7, .slice A8 s.beats.length c8⟩ s gw gs ⟨p0, (q1 : Int), p2, p3, p4⟩ ⟨e0, e1, e2, e3⟩ W1.heap.size gb wx)
  case first =>
    have gw1 : gw < W1.heap.size + 1 := by omega
    have gv1 : gv < W1.heap.size + 1 := by omega
    have gc1 : gc < W1.heap.size + 1 := by omega
    clear x0 x1 x2 x3 x4 hxf y0 y1 z4 z5 z7 z8 z9 z10 z11 z12 zf t1_ vf hne hjl2 hj0 hll hl0 hrl hjl
    have gw2 : gw < W1.heap.size + 1 + 1 := by omega
    have gv2 : gv < W1.heap.size + 1 + 1 := by omega
    have gc2 : gc < W1.heap.size + 1 + 1 := by omega
    have gwn0 : W1.heap.size + 1 ≠ gw := by omega
    have gwn1 : gw ≠ W1.heap.size + 1 := by omega
    have gwn2 : W1.heap.size ≠ gw := by omega
    have gwn3 : gw ≠ W1.heap.size := by omega
    have gvn0 : W1.heap.size + 1 ≠ gv := by omega
    have gvn1 : gv ≠ W1.heap.size + 1 := by omega
    have gvn2 : W1.heap.size ≠ gv := by omega
    have gvn3 : gv ≠ W1.heap.size := by omega
    have gcn0 : W1.heap.size + 1 ≠ gc := by omega
    have gcn1 : gc ≠ W1.heap.size + 1 := by omega
    have gcn2 : W1.heap.size ≠ gc := by omega
    have gcn3 : gc ≠ W1.heap.size := by omega
    have gp1 : W1.heap.size < W1.heap.size + 1 := by omega
    have gp2 : W1.heap.size < W1.heap.size + 1 + 1 := by omega
    go_region_held3 (fun w' => w'.cell? ⟨gw, 0, none⟩ = some (.int .i64 t) ∧ w'.cell? ⟨gw, 1, none⟩ = some (.int .i64 d) ∧ w'.cell? ⟨gw, 2, none⟩ = some (.int .i64 r) ∧ w'.cell? ⟨gw, 3, none⟩ = some (.slice (some ⟨gc, 0, none⟩) s.clock.length c1) ∧ w'.cell? ⟨gw, 6, none⟩ = some (.slice (some ⟨gv, 0, none⟩) s.votes.length c4) ∧ w'.cell? ⟨gv, q1 * 4, none⟩ = some (.int .u64 e0) ∧ w'.cell? ⟨gv, q1 * 4 + 1, none⟩ = some (.int .i64 e1) ∧ w'.cell? ⟨gv, q1 * 4 + 2, none⟩ = some (.int .i64 e2) ∧ w'.cell? ⟨gv, q1 * 4 + 3, none⟩ = some (.int .i64 e3) ∧ w'.cell? ⟨gc, q1, none⟩ = some (.int .i64 vC) ∧ w'.cell? ⟨W1.heap.size, 0, none⟩ = some (.int .i64 p0) ∧ w'.cell? ⟨W1.heap.size, 1, none⟩ = some (.int .i64 (q1 : Int)) ∧ w'.cell? ⟨W1.heap.size, 2, none⟩ = some (.int .u64 p2)) (go_keep)
      (first | (go_at_call 18
                refine (vote_Ask.calls _ _ _ _ _ _ _ _ _ _ _ _ _ _ _ _ _ HASK2.out).mono ?_
                rintro e w1 ⟨rfl, hb⟩
                obtain ⟨hcc, hff⟩ := bcell hb
                have HB2 := Lib.hid hb
                clear hb))
    all_goals (go_wp2; go_meet; case rel => exact ⟨rfl, rfl, _, rfl, by first | exact Mid.late HE.out HB2.out | exact Mid.early HE.out HB2.out⟩)
  case rest =>
    obtain ⟨rfl, rfl, gb, rfl, hM⟩ := hcut
    generalize W1.heap.size = gp at hM ⊢
    clear x0 x1 x2 x3 x4 hxf y0 y1 z0 z1 z2 z3 z4 z5 z6 z7 z8 z9 z10 z11 z12 zf t1_ vf hne hjl2 hj0 hll hl0 hrl hjl
    obtain ⟨z0, z1, z2, z3, z4, z5, z6, z7, z8, z9, z10, z11, z12⟩ := nblk_cells hM.bw
    have zf := fun o => blk_frozen hM.bw o
    have HM := Lib.hid hM
    clear hM z0 z1 z2 z3 z4 z5 z6 z7 z8 z9 z10 z11 v0 v1 v2 v3 t0_
    go_upto_region 7 with (fail)
    refine wp_gen (fun W4 => Mid w0 B W tag t d r _ s gw gs ⟨p0, (q1 : Int), p2, p3, p4⟩ ⟨e0, e1, e2, e3⟩ gp gb W4) HM.out.ok12 ?_
    intro W4 hM
    clear z12 zf
    obtain ⟨z0, z1, z2, z3, z4, z5, z6, z7, z8, z9, z10, z11, z12⟩ := nblk_cells hM.bw
    have hp1 : W4.cell? ⟨gp, 1, none⟩ = some (.int .i64 (q1 : Int)) := (blk_cell hM.bp 1).trans rfl
    have hb0 : W4.cell? ⟨gb, 0, none⟩ = some (.int .u64 (⟨e0, e1, e2, e3⟩ : S38).f0) := (blk_cell hM.bb 0).trans rfl
    have hb1 : W4.cell? ⟨gb, 1, none⟩ = some (.int .i64 (⟨e0, e1, e2, e3⟩ : S38).f1) := (blk_cell hM.bb 1).trans rfl
    have hb2 : W4.cell? ⟨gb, 2, none⟩ = some (.int .i64 (⟨e0, e1, e2, e3⟩ : S38).f2) := (blk_cell hM.bb 2).trans rfl
    have hb3 : W4.cell? ⟨gb, 3, none⟩ = some (.int .i64 (⟨e0, e1, e2, e3⟩ : S38).f3) := (blk_cell hM.bb 3).trans rfl
    simp only at hb0 hb1 hb2 hb3
    obtain ⟨gv', cv', ev, _, _, tv', hv⟩ := hM.nw.row_v (by omega)
    injection ev with ev ev2 ev3
    injection ev with ev
    injection ev with ev
    subst ev ev3
    obtain ⟨⟨v0, v1, v2, v3⟩, vf⟩ := hv q1 (by omega)
    have vf0 := vf 0
    have vf1 := vf 1
    have vf2 := vf 2
    have vf3 := vf 3
    rw [Nat.add_zero] at vf0
    have HM2 := Lib.hid hM
    have HTV := Lib.hid tv'
    clear hM hv z0 z1 z2 z3 z4 z5 z7 z8 z9 z10 z11 z12 vf ev2
    go_upto_region 8 with (fail)
    refine wp_gen (fun W5 => Mid w0 B W tag t d r _ { s with votes := s.votes.set q1 ⟨e0, e1, e2, e3⟩ } gw gs ⟨p0, (q1 : Int), p2, p3, p4⟩ ⟨e0, e1, e2, e3⟩ gp gb W5) (HM2.out.vote rfl HTV.out q1 (by omega) ⟨e0, e1, e2, e3⟩) ?_
    intro W5 hM
    have hv5 := HVE.out
    have hs5 : { s with votes := s.votes.set q1 ⟨e0, e1, e2, e3⟩ } = s := by
      rw [hv5]
      unfold St.vo
      rw [Int.toNat_natCast, set_same]
    rw [hs5] at hM
    have HM5 := Lib.hid hM
    clear hM hv5 hs5
    go_upto_region 17 with (fail)
    refine reg_ret 141 (gw := gw) (gs := gs) (by rfl) (by rfl) (by rfl) (by rfl) (by rfl) (by rfl) (by rfl) (by rfl) (by rfl) HM5.out.bw HM5.out.bs (by rfl) (by rfl) (by simp [Value.oneCell']) ?_
    go_wp2
    exact fin_ret (by rfl) (by rfl) (by rfl) HM5.out.bs .none_ HM5.out.nw HM5.out.ts HM5.out.hs (Nat.le_trans HM5.out.b0 HM5.out.hs)
set_option maxHeartbeats 2000000 in
theorem comes_yes (w0 : World) (B : Nat) (W : World) (tag : Nat → Nat) (x : NV) (s : St) (t d r : Int) (n i : Nat) (h : Nw w0 B W tag W tag x s) (hd : Bd t n i s) (hi : i < 90) (hn : 2 ≤ n ∧ n ≤ 5) (hm : mayt t d r) (k : Int) (hk : 0 ≤ k ∧ k ≤ 70000) (p : Pap) (j : Nat) (hjl : j < s.reqs.length) (hjj : k % (s.reqs.length : Int) = (j : Int)) (hp : s.reqs.getD j z116 = p) (hu : s.isup p.f1 = true) (hb : bars (s.vo p.f1).f0 (s.vo p.f1).f1 (s.vo p.f1).f2 (s.vo p.f1).f3 p.f0 p.f2 (s.clk p.f1) = false) : Calls Try.prog 61 #[.agg #[.int .i64 t, .int .i64 d, .int .i64 r, x.c, x.l, x.u, x.v, x.d, x.r, x.g, x.b, .int .u64 s.top, .bool true], .int .i64 k, .bool true] W (Pst w0 B W tag t d r n s) := by
  obtain ⟨A1, A2, A3, A4, A5, A6, A7, A8, c1, c2, c3, c4, c5, c6, c7, c8, hx⟩ := h.open
  obtain ⟨raw, vc, vl, vu, vv, vd, vr, vg, vb⟩ := x
  injection hx with hx0 hx1 hx2 hx3 hx4 hx5 hx6 hx7 hx8
  subst hx1 hx2 hx3 hx4 hx5 hx6 hx7 hx8
  clear hx0
  have hu80 := Try.underlying80
  have hu116 := Try.underlying116
  have hu38 := Try.underlying38
  have hu23 := Try.underlying23
  have hpm : p ∈ s.reqs := by rw [← hp]; simp [hjl]
  have hpo : Okp n i p := hd.rq p hpm
  obtain ⟨p0, p1, p2, p3, p4⟩ := p
  obtain ⟨q1, rfl⟩ := Int.eq_ofNat_of_zero_le (show 0 ≤ p1 from hpo.to_.1)
  have hq1 : q1 < s.up.length := by have := hpo.to_.2; simp only at this; rw [hd.lu]; omega
  have hq1v : q1 < s.votes.length := by have := hpo.to_.2; simp only at this; rw [hd.lv]; omega
  have hq1c : q1 < s.clock.length := by have := hpo.to_.2; simp only at this; rw [hd.lc]; omega
  have hrl := hd.rl
  have hgl := hd.gl
  have hvo := hd.vo (q1 : Int) hpo.to_
  have hck := hd.ck (q1 : Int) hpo.to_
  simp only at hb
  have hf0 : 0 ≤ p0 ∧ p0 < 64 := ⟨hpo.fr.1, by have := hpo.fr.2; simp only at this; omega⟩
  have hma : maya t d r (s.vo (q1 : Int)).f1 (s.vo (q1 : Int)).f2 (s.vo (q1 : Int)).f3 p0 (s.clk (q1 : Int)) := by
    obtain ⟨m1, m2, m3, m4, m5, m6, m7⟩ := hm
    obtain ⟨o1, o2, o3, o4⟩ := hvo
    refine ⟨⟨m1, m2, m3, m4, m5, m6, m7⟩, ⟨?_, by omega, by omega, by omega, by omega⟩, hf0, by omega, by omega⟩
    rcases o1 with o1 | o1
    · exact .inl o1
    · unfold isn at o1
      exact .inr (by omega)
  have hask := ask_ok (E := (s.vo (q1 : Int)).f0) (epoch := p2) hma
  rw [hb] at hask
  simp only [Bool.false_eq_true, if_false] at hask
  rw [w64_id _ (by have := hm.2.1; have := hm.1; omega) (by have := hm.2.1; omega)] at hask
  have HASK := Lib.hid hask
  have HH := Lib.hid h
  have HU := Lib.hid hu
  have HP := Lib.hid hp
  have HJ := Lib.hid hjj
  have HD := Lib.hid hd
  have HO := Lib.hid hpo
  have HB := Lib.hid hb
  have HPM := Lib.hid hpm
  clear h hd hpo hu hp hjj hask hma hb hvo hck hf0 hpm
  go_enter Try.func61, Try.ntmps61
  go_upto_region 1 with (fail)
  refine wp_gen (fun W1 => Ent w0 B W tag t d r _ s true W.heap.size (W.heap.size + 1) W1) (Ent.start HH.out t d r true) ?_
  intro W1 hE
  generalize W.heap.size + 1 = gs at hE ⊢
  generalize W.heap.size = gw at hE ⊢
  obtain ⟨gr, cr, er, _, lr, tr, hr⟩ := hE.nw.row_r (by omega)
  obtain ⟨gu, cu, eu, _, lu, tu, hu2⟩ := hE.nw.row_u (by omega)
  obtain ⟨gv, cv, ev, _, lv, tv, hv⟩ := hE.nw.row_v (by omega)
  obtain ⟨gc, cc, ec, _, lc, tc, hc⟩ := hE.nw.row_c (by omega)
  obtain ⟨⟨x0, x1, x2, x3, x4⟩, hxf⟩ := hr j hjl
  obtain ⟨y0, y1⟩ := hu2 q1 hq1
  obtain ⟨⟨v0, v1, v2, v3⟩, vf⟩ := hv q1 hq1v
  obtain ⟨t0_, t1_⟩ := hc q1 hq1c
  have ev0 : s.votes.getD q1 z38 = s.vo (q1 : Int) := by unfold St.vo; rw [Int.toNat_natCast]
  have ec0 : s.clock.getD q1 0 = s.clk (q1 : Int) := by unfold St.clk; rw [Int.toNat_natCast]
  have hu := HU.out
  unfold St.isup at hu
  simp only [Int.toNat_natCast] at hu
  rw [hu] at y0
  rw [HP.out] at x0 x1 x2 x3 x4
  rw [ev0] at v0 v1 v2 v3
  rw [ec0] at t0_
  injection er with er _ er3
  injection eu with eu _ eu3
  injection ev with ev _ ev3
  injection ec with ec _ ec3
  subst er eu ev ec er3 eu3 ev3 ec3
  obtain ⟨z0, z1, z2, z3, z4, z5, z6, z7, z8, z9, z10, z11, z12⟩ := nblk_cells hE.bw
  have zf := fun o => blk_frozen hE.bw o
  have lw := blk_lt hE.bw
  have HE := Lib.hid hE
  have hjl2 : (j : Int) < (s.reqs.length : Int) := by omega
  have hj0 : (0 : Int) ≤ (j : Int) := by omega
  have hq2 : (q1 : Int) < (s.up.length : Int) := by omega
  have hq3 : (q1 : Int) < (s.votes.length : Int) := by omega
  have hq4 : (q1 : Int) < (s.clock.length : Int) := by omega
  have hq0 : (0 : Int) ≤ (q1 : Int) := by omega
  have hll : (s.reqs.length : Int) ≤ 450 := by omega
  have hl0 : (0 : Int) < (s.reqs.length : Int) := by omega
  clear hE hr hu2 hu hv hc ev0 ec0
  obtain ⟨vE, hvE⟩ : ∃ y, y = s.vo (q1 : Int) := ⟨_, rfl⟩
  obtain ⟨vC, hvC⟩ : ∃ y, y = s.clk (q1 : Int) := ⟨_, rfl⟩
  have HVE := Lib.hid hvE
  have HVC := Lib.hid hvC
  rw [← hvE] at v0 v1 v2 v3
  rw [← hvC] at t0_
  have hask2 := HASK.out
  rw [← hvE, ← hvC] at hask2
  clear hvE hvC
  obtain ⟨e0, e1, e2, e3⟩ := vE
  simp only at hask2
  have HASK2 := Lib.hid hask2
  clear hask2
  go_wp2_with fail
  have hne : s.reqs ≠ [] := by intro e; rw [e] at hl0; simp at hl0
  have htm : Int.tmod k (s.reqs.length : Int) = (j : Int) := by rw [Int.tmod_eq_emod_of_nonneg hk.1]; exact HJ.out
  have hwj : IntKind.i64.wrap (j : Int) = (j : Int) := by simp [IntKind.wrap, IntKind.bits, IntKind.signed]; omega
  go_region
  clear htm hwj
  go_upto_region 5 with (fail)
  go_cut [8, 9, 10] (fun s8 s9 s10 wx => s9 = .bool true ∧ s10 = .int .i64 0 ∧ ∃ gb : Nat, s8 = .pointer (some ⟨gb, 0, none⟩) ∧ Mid w0 B W tag t d r ⟨raw, .slice (some ⟨gc, 0, none⟩) s.clock.length c1, .slice A2 s.life.length c2, .slice (some ⟨gu, 0, none⟩) s.up.length c3, .slice (some ⟨gv, 0, none⟩) s.votes.length c4, .slice A5 s.leads.length c5, .slice (some ⟨gr, 0, none⟩) s.reqs.length c6, .slice A7 s.grs.length c7, .slice A8 s.beats.length c8⟩ s gw gs ⟨p0, (q1 : Int), p2, p3, p4⟩ ⟨p2, p0, vC + t, e3⟩ W1.heap.size gb wx)
  case first =>
    have gw1 : gw < W1.heap.size + 1 := by omega
    have gv1 : gv < W1.heap.size + 1 := by omega
    have gc1 : gc < W1.heap.size + 1 := by omega
    clear x0 x1 x2 x3 x4 hxf y0 y1 z4 z5 z7 z8 z9 z10 z11 z12 zf t1_ vf hne hjl2 hj0 hll hl0 hrl hjl
    have gw2 : gw < W1.heap.size + 1 + 1 := by omega
    have gv2 : gv < W1.heap.size + 1 + 1 := by omega
    have gc2 : gc < W1.heap.size + 1 + 1 := by omega
    have gwn0 : W1.heap.size + 1 ≠ gw := by omega
    have gwn1 : gw ≠ W1.heap.size + 1 := by omega
    have gwn2 : W1.heap.size ≠ gw := by omega
    have gwn3 : gw ≠ W1.heap.size := by omega
    have gvn0 : W1.heap.size + 1 ≠ gv := by omega
    have gvn1 : gv ≠ W1.heap.size + 1 := by omega
    have gvn2 : W1.heap.size ≠ gv := by omega
    have gvn3 : gv ≠ W1.heap.size := by omega
    have gcn0 : W1.heap.size + 1 ≠ gc := by omega
    have gcn1 : gc ≠ W1.heap.size + 1 := by omega
    have gcn2 : W1.heap.size ≠ gc := by omega
    have gcn3 : gc ≠ W1.heap.size := by omega
    have gp1 : W1.heap.size < W1.heap.size + 1 := by omega
    have gp2 : W1.heap.size < W1.heap.size + 1 + 1 := by omega
    go_region_held3 (fun w' => w'.cell? ⟨gw, 0, none⟩ = some (.int .i64 t) ∧ w'.cell? ⟨gw, 1, none⟩ = some (.int .i64 d) ∧ w'.cell? ⟨gw, 2, none⟩ = some (.int .i64 r) ∧ w'.cell? ⟨gw, 3, none⟩ = some (.slice (some ⟨gc, 0, none⟩) s.clock.length c1) ∧ w'.cell? ⟨gw, 6, none⟩ = some (.slice (some ⟨gv, 0, none⟩) s.votes.length c4) ∧ w'.cell? ⟨gv, q1 * 4, none⟩ = some (.int .u64 e0) ∧ w'.cell? ⟨gv, q1 * 4 + 1, none⟩ = some (.int .i64 e1) ∧ w'.cell? ⟨gv, q1 * 4 + 2, none⟩ = some (.int .i64 e2) ∧ w'.cell? ⟨gv, q1 * 4 + 3, none⟩ = some (.int .i64 e3) ∧ w'.cell? ⟨gc, q1, none⟩ = some (.int .i64 vC) ∧ w'.cell? ⟨W1.heap.size, 0, none⟩ = some (.int .i64 p0) ∧ w'.cell? ⟨W1.heap.size, 1, none⟩ = some (.int .i64 (q1 : Int)) ∧ w'.cell? ⟨W1.heap.size, 2, none⟩ = some (.int .u64 p2)) (go_keep)
      (first | (go_at_call 18
                refine (vote_Ask.calls _ _ _ _ _ _ _ _ _ _ _ _ _ _ _ _ _ HASK2.out).mono ?_
                rintro e w1 ⟨rfl, hb⟩
                obtain ⟨hcc, hff⟩ := bcell hb
                have HB2 := Lib.hid hb
                clear hb))
    all_goals (go_wp2; go_meet; case rel => exact ⟨rfl, rfl, _, rfl, by first | exact Mid.late HE.out HB2.out | exact Mid.early HE.out HB2.out⟩)
  case rest =>
    obtain ⟨rfl, rfl, gb, rfl, hM⟩ := hcut
    generalize W1.heap.size = gp at hM ⊢
    clear x0 x1 x2 x3 x4 hxf y0 y1 z0 z1 z2 z3 z4 z5 z6 z7 z8 z9 z10 z11 z12 zf t1_ vf hne hjl2 hj0 hll hl0 hrl hjl
    obtain ⟨z0, z1, z2, z3, z4, z5, z6, z7, z8, z9, z10, z11, z12⟩ := nblk_cells hM.bw
    have zf := fun o => blk_frozen hM.bw o
    have HM := Lib.hid hM
    clear hM z0 z1 z2 z3 z4 z5 z6 z7 z8 z9 z10 z11 v0 v1 v2 v3 t0_
    go_upto_region 7 with (fail)
    refine wp_gen (fun W4 => Mid w0 B W tag t d r _ s gw gs ⟨p0, (q1 : Int), p2, p3, p4⟩ ⟨p2, p0, vC + t, e3⟩ gp gb W4) HM.out.ok12 ?_
    intro W4 hM
    clear z12 zf
    obtain ⟨z0, z1, z2, z3, z4, z5, z6, z7, z8, z9, z10, z11, z12⟩ := nblk_cells hM.bw
    have hp1 : W4.cell? ⟨gp, 1, none⟩ = some (.int .i64 (q1 : Int)) := (blk_cell hM.bp 1).trans rfl
    have hb0 : W4.cell? ⟨gb, 0, none⟩ = some (.int .u64 (⟨p2, p0, vC + t, e3⟩ : S38).f0) := (blk_cell hM.bb 0).trans rfl
    have hb1 : W4.cell? ⟨gb, 1, none⟩ = some (.int .i64 (⟨p2, p0, vC + t, e3⟩ : S38).f1) := (blk_cell hM.bb 1).trans rfl
    have hb2 : W4.cell? ⟨gb, 2, none⟩ = some (.int .i64 (⟨p2, p0, vC + t, e3⟩ : S38).f2) := (blk_cell hM.bb 2).trans rfl
    have hb3 : W4.cell? ⟨gb, 3, none⟩ = some (.int .i64 (⟨p2, p0, vC + t, e3⟩ : S38).f3) := (blk_cell hM.bb 3).trans rfl
    simp only at hb0 hb1 hb2 hb3
    obtain ⟨gv', cv', ev, _, _, tv', hv⟩ := hM.nw.row_v (by omega)
    injection ev with ev ev2 ev3
    injection ev with ev
    injection ev with ev
    subst ev ev3
    obtain ⟨⟨v0, v1, v2, v3⟩, vf⟩ := hv q1 (by omega)
    have vf0 := vf 0
    have vf1 := vf 1
    have vf2 := vf 2
    have vf3 := vf 3
    rw [Nat.add_zero] at vf0
    have HM2 := Lib.hid hM
    have HTV := Lib.hid tv'
    clear hM hv z0 z1 z2 z3 z4 z5 z7 z8 z9 z10 z11 z12 vf ev2
    go_upto_region 8 with (fail)
    refine wp_gen (fun W5 => Mid w0 B W tag t d r _ { s with votes := s.votes.set q1 ⟨p2, p0, vC + t, e3⟩ } gw gs ⟨p0, (q1 : Int), p2, p3, p4⟩ ⟨p2, p0, vC + t, e3⟩ gp gb W5) (HM2.out.vote rfl HTV.out q1 (by omega) ⟨p2, p0, vC + t, e3⟩) ?_
    intro W5 hM
    obtain ⟨z0, z1, z2, z3, z4, z5, z6, z7, z8, z9, z10, z11, z12⟩ := nblk_cells hM.bw
    have zf := fun o => blk_frozen hM.bw o
    have hp0 : W5.cell? ⟨gp, 0, none⟩ = some (.int .i64 p0) := (blk_cell hM.bp 0).trans rfl
    have hp1 : W5.cell? ⟨gp, 1, none⟩ = some (.int .i64 (q1 : Int)) := (blk_cell hM.bp 1).trans rfl
    have hp2 : W5.cell? ⟨gp, 2, none⟩ = some (.int .u64 p2) := (blk_cell hM.bp 2).trans rfl
    have hp3 : W5.cell? ⟨gp, 3, none⟩ = some (.int .i64 p3) := (blk_cell hM.bp 3).trans rfl
    have hp4 : W5.cell? ⟨gp, 4, none⟩ = some (.int .i64 p4) := (blk_cell hM.bp 4).trans rfl
    have HM5 := Lib.hid hM
    clear hM z0 z1 z2 z3 z4 z5 z6 z7 z8 z10 z11 z12
    go_upto_region 9 with (fail)
    go_cut [] (fun wx => ∃ (An : Option Addr) (cn : Nat) (tag' : Nat → Nat), Nw w0 B W tag wx tag' ⟨raw, .slice (some ⟨gc, 0, none⟩) s.clock.length c1, .slice A2 s.life.length c2, .slice (some ⟨gu, 0, none⟩) s.up.length c3, .slice (some ⟨gv, 0, none⟩) s.votes.length c4, .slice A5 s.leads.length c5, .slice (some ⟨gr, 0, none⟩) s.reqs.length c6, .slice An (s.grs.length + 1) cn, .slice A8 s.beats.length c8⟩ { s with votes := s.votes.set q1 ⟨p2, p0, vC + t, e3⟩, grs := s.grs ++ [⟨p0, (q1 : Int), p2, p3, p4⟩] } ∧ wx.heap[gw]? = some (nblk t d r ⟨raw, .slice (some ⟨gc, 0, none⟩) s.clock.length c1, .slice A2 s.life.length c2, .slice (some ⟨gu, 0, none⟩) s.up.length c3, .slice (some ⟨gv, 0, none⟩) s.votes.length c4, .slice A5 s.leads.length c5, .slice (some ⟨gr, 0, none⟩) s.reqs.length c6, .slice An (s.grs.length + 1) cn, .slice A8 s.beats.length c8⟩ s.top true) ∧ wx.heap[gs]? = some zblk ∧ tag' gs = 0)
    case first =>
      go_wp2_with ((with_reducible refine gate_builtin (b := .append) (xs := #[.tmp 76, .tmp 78]) rfl ?_)
                   at_builtin
                   refine Kd.R_append k116 (w0 := w0) (W := W5) B rfl (.tmp 76) (.tmp 78) 77 116 (.agg #[.int .i64 0, .int .i64 0, .int .u64 0, .int .i64 0, .int .i64 0]) 40 rfl Try.underlying77 info116 rfl (by decide) (by omega) (.slice A7 s.grs.length c7) s.grs ⟨p0, (q1 : Int), p2, p3, p4⟩ [.int .i64 p0, .int .i64 (q1 : Int), .int .u64 p2, .int .i64 p3, .int .i64 p4] (fun k => tag k = 7 ∨ W5.heap.size ≤ k) (fun _ => False) rfl rfl (k116_mkM _ _ _ ⟨p0, (q1 : Int), p2, p3, p4⟩) (fun _ hk => hk.elim) (fun k hk => .inr hk) (Kd.R_mono HM5.out.nw.g (fun k hk => .inl hk)) HM5.out.nw.bel HM5.out.nw.base (by omega) ?_
                   intro vn wn hR hBn hG hat
                   obtain ⟨An, cn, hvn⟩ := Kd.R_slice hR
                   rw [List.length_append, List.length_singleton] at hvn
                   subst hvn
                   obtain ⟨⟨hc9, hf9⟩, hF⟩ := HM5.out.app hR hBn hG
                   have HF := Lib.hid hF
                   clear hF hR hBn hG hat)
      go_meet
      case rel => exact ⟨An, cn, _, HF.out⟩
    case rest =>
      obtain ⟨An, cn, tag', h6, hbw, hbs, ht6⟩ := hcut
      have e6 : { s with votes := s.votes.set q1 ⟨p2, p0, vC + t, e3⟩, grs := s.grs ++ [⟨p0, (q1 : Int), p2, p3, p4⟩] } = s.grant t ⟨p0, (q1 : Int), p2, p3, p4⟩ := by
        have h3 := HVE.out
        have h4 := HVC.out
        have h5 : e3 = (s.vo (q1 : Int)).f3 := by rw [← h3]
        unfold St.grant
        simp only [Int.toNat_natCast]
        rw [h4, h5]
      rw [e6] at h6
      have H6 := Lib.hid h6
      have HBW := Lib.hid hbw
      have HBS := Lib.hid hbs
      have HT6 := Lib.hid ht6
      clear h6 hbw hbs ht6 e6
      go_upto_region 17 with (fail)
      refine reg_ret 141 (gw := gw) (gs := gs) (by rfl) (by rfl) (by rfl) (by rfl) (by rfl) (by rfl) (by rfl) (by rfl) (by rfl) HBW.out HBS.out (by rfl) (by rfl) (by simp [Value.oneCell']) ?_
      go_wp2
      exact fin_ret (by rfl) (by rfl) (by rfl) HBS.out (.grant _ HPM.out HU.out HB.out) H6.out HT6.out HM5.out.hs (Nat.le_trans HM5.out.b0 HM5.out.hs)
end Go.Proofs.Ytgfblogneggpmaa.One
