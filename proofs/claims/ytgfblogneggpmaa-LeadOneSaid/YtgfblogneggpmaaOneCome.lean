/- chapter 18's law: a request, or a grant, comes; by hand. -/
import Derived.Test.YtgfblogneggpmaaOneA
import Derived.Outline
namespace Go.Proofs.Ytgfblogneggpmaa.One
open Go.RowKit Go.Proofs.Ytgfblogneggpmaa.Fn Go.Proofs.YtgfblogneggpmaaW.PrintWords Go.Proofs.YtgfblogneggpmaaW.PrintLast Go.Proofs.YtgfblogneggpmaaW.PrintMore Go.Proofs.Ytgfblogneggpmaa.Vote Go.Proofs.Ytgfblogneggpmaa.Clk Go.Proofs.Ytgfblogneggpmaa.Thr
set_option linter.unusedVariables false
set_option linter.unusedSimpArgs false
set_option maxRecDepth 100000
/-- What may come of a step. -/
inductive Stp (t : Int) (n : Nat) (s : St) : St → Prop
  | none_ : Stp t n s s
  | tick (a : Int) : isn n a → s.isup a = true → Stp t n s (s.tick a)
  | fall (a : Int) : isn n a → s.isup a = true → Stp t n s (s.fall a)
  | rise (a : Int) : isn n a → s.isup a = false → Stp t n s (s.rise t n a)
  | again (a : Int) : isn n a → s.isup a = true → Stp t n s (s.ask n a)
  | fresh (a : Int) : isn n a → s.isup a = true → Stp t n s ((s.start n a).ask n a)
  | grant (p : Pap) : p ∈ s.reqs → s.isup p.f1 = true → bars (s.vo p.f1).f0 (s.vo p.f1).f1 (s.vo p.f1).f2 (s.vo p.f1).f3 p.f0 p.f2 (s.clk p.f1) = false → Stp t n s (s.grant t p)
  | got (p : Pap) : p ∈ s.grs → s.lf p.f0 = p.f4 → Stp t n s (s.got p)
theorem Stp.inv {t : Int} {n i : Nat} {s s' : St} (h : Stp t n s s') (ht : 0 ≤ t) (hn : n ≤ 5) (hd : Bd t n i s) (hg : Gh t n s) : Bd t n (i + 1) s' ∧ Gh t n s' := by
  cases h with
  | none_ => exact ⟨hd.more, hg⟩
  | tick a ha hu => exact ⟨hd.tick ha, hg.tick hd ha hu⟩
  | fall a ha hu => exact ⟨hd.fall a, hg.fall hd ha hu⟩
  | rise a ha hu => exact ⟨hd.rise ht ha, hg.rise hd ht ha hu⟩
  | again a ha hu => exact ⟨hd.more.ask hd.rl hn ha, hg.ask_ ha hu⟩
  | fresh a ha hu => exact ⟨(hd.start ha).ask hd.rl hn ha, (hg.start hd ha).ask_ ha hu⟩
  | grant p hp hu hb => exact ⟨hd.grant ht hp, hg.grant hd hp hu hb⟩
  | got p hp hl => exact ⟨hd.got hp, hg.got hd hp hl⟩
/-- What a step leaves. -/
def Pst (w0 : World) (B : Nat) (W : World) (tag : Nat → Nat) (t d r : Int) (n : Nat) (s : St) (e : Ending) (w' : World) : Prop :=
  ∃ x' tag' s', Stp t n s s' ∧ e = .returned (.agg #[.int .i64 t, .int .i64 d, .int .i64 r, x'.c, x'.l, x'.u, x'.v, x'.d, x'.r, x'.g, x'.b, .int .u64 s'.top, .bool true]) ∧ Nw w0 B W tag w' tag' x' s'
theorem wp_gen {p : Program} {c : Code} {K : Exit → Act → World → Prop} {a : Act} {W : World} (Q : World → Prop) (hq : Q W) (h : ∀ W', Q W' → Code.wp p c K a W') : Code.wp p c K a W := h W hq
/-- All rows' values are slices. -/
theorem Nw.open {w0 W0 W : World} {B : Nat} {t0 tag : Nat → Nat} {x : NV} {s : St} (h : Nw w0 B W0 t0 W tag x s) : ∃ (A1 A2 A3 A4 A5 A6 A7 A8 : Option Addr) (c1 c2 c3 c4 c5 c6 c7 c8 : Nat), x = ⟨x.raw, .slice A1 s.clock.length c1, .slice A2 s.life.length c2, .slice A3 s.up.length c3, .slice A4 s.votes.length c4, .slice A5 s.leads.length c5, .slice A6 s.reqs.length c6, .slice A7 s.grs.length c7, .slice A8 s.beats.length c8⟩ := by
  obtain ⟨A1, c1, e1⟩ := Kd.R_slice h.c
  obtain ⟨A2, c2, e2⟩ := Kd.R_slice h.l
  obtain ⟨A3, c3, e3⟩ := Kd.R_slice h.u
  obtain ⟨A4, c4, e4⟩ := Kd.R_slice h.v
  obtain ⟨A5, c5, e5⟩ := Kd.R_slice h.d
  obtain ⟨A6, c6, e6⟩ := Kd.R_slice h.r
  obtain ⟨A7, c7, e7⟩ := Kd.R_slice h.g
  obtain ⟨A8, c8, e8⟩ := Kd.R_slice h.b
  have e0 := h.dl
  obtain ⟨raw, vc, vl, vu, vv, vd, vr, vg, vb⟩ := x
  simp only at e0 e1 e2 e3 e4 e5 e6 e7 e8
  rw [e0] at e5
  subst e1 e2 e3 e4 e5 e6 e7 e8
  exact ⟨A1, A2, A3, A4, A5, A6, A7, A8, c1, c2, c3, c4, c5, c6, c7, c8, rfl⟩
theorem info80s : (Try.prog.info? 80).map (·.size) = some 13 := by kernel_rfl
/-- The nodes' block is copied to the result's. -/
theorem reg_ret {id : Nat} {o1 o2 : Oper} {Q : Exit → Act → World → Prop} {a : Act} {W : World} (T : Nat) {gw gs : Nat} {cs old : Array Value} (h1 : o1.op = .load 80 (.tmp 3)) (hd1 : o1.dst = some T) (hg1 : o1.guard = none) (h2 : o2.op = .store 80 (.tmp 6) (.tmp T)) (hd2 : o2.dst = none) (hg2 : o2.guard = none)
    (hx : a.eval (.tmp 3) = .pointer (some ⟨gw, 0, none⟩)) (hs : (a.put (some T) (.agg cs)).eval (.tmp 6) = .pointer (some ⟨gs, 0, none⟩)) (hy : (a.put (some T) (.agg cs)).eval (.tmp T) = .agg cs) (hw : W.heap[gw]? = some (.cells cs 80 (0, 0))) (hz : W.heap[gs]? = some (.cells old 80 (0, 0))) (hc : cs.size = 13) (ho : old.size = 13) (hall : cs.all (·.oneCell') = true)
    (h : Q .normal ((a.put (some T) (.agg cs)).put none undef) (W.setRow gs cs)) : Code.wp Try.prog (.region id #[o1, o2] false) Q a W := by
  have hi : (Try.prog.info? 80).map (·.size) = some cs.size := by rw [hc]; exact info80s
  refine wp_region_lit (l := [o1, o2]) (wpList_load_row hg1 80 (.tmp 3) h1 gw hx 80 cs (0, 0) _ hw Try.underlying80 rfl hi (wpList_store_row hg2 80 (.tmp 6) (.tmp T) h2 gs cs ?_ ?_ 80 old hz hi (by rw [ho, hc]) hall ?_))
  · rw [hd1]; exact hs
  · rw [hd1]; exact hy
  · rw [hd1, hd2]
    exact h
theorem Nw.setRow {w0 W0 W : World} {B : Nat} {t0 tag : Nat → Nat} {x : NV} {s : St} (h : Nw w0 B W0 t0 W tag x s) {g : Nat} (hg : tag g = 0) (h0 : W0.heap.size ≤ g) (hB : B ≤ g) (cs : Array Value) : Nw w0 B W0 t0 (W.setRow g cs) tag x s :=
  h.move (fun k hk _ => setRow_other W g k cs (fun e => hk (by rw [e]; exact hg))) (fun k hk _ => setRow_other W g k cs (by omega)) (below_setRow h.bel hB cs) (by simp [World.setRow])
/-- The end of a function that gives the nodes back. -/
theorem fin_ret {fn : Func} {a : Act} {w0 : World} {B : Nat} {W W2 : World} {tag tag' : Nat → Nat} {t d r : Int} {n : Nat} {x : NV} {s s' : St} {gs : Nat} (hf : fn.results = #[.cell 6 80]) (hd : a.defers = []) (hp : a.tmps.getD 6 undef = .pointer (some ⟨gs, 0, none⟩)) (hz : W2.heap[gs]? = some zblk) (hs : Stp t n s s') (h : Nw w0 B W tag W2 tag' x s') (ht : tag' gs = 0) (h0 : W.heap.size ≤ gs) (hB : B ≤ gs) :
    bodyPost Try.prog fn (Pst w0 B W tag t d r n s) .ret a (W2.setRow gs #[.int .i64 t, .int .i64 d, .int .i64 r, x.c, x.l, x.u, x.v, x.d, x.r, x.g, x.b, .int .u64 s'.top, .bool true]) :=
  bodyPost_ret (results_cell_row hf _ _ gs 80 _ (0, 0) _ hp (setRow_heap W2 gs _ _ 80 (0, 0) hz) Try.underlying80 rfl info80s) hd ⟨x, tag', s', hs, rfl, h.setRow ht h0 hB _⟩
/-- What a function that takes the nodes begins with: their block, and the result's. -/
structure Ent (w0 : World) (B : Nat) (W : World) (tag : Nat → Nat) (t d r : Int) (x : NV) (s : St) (ok : Bool) (gw gs : Nat) (W1 : World) : Prop where
  nw : Nw w0 B W tag W1 tag x s
  bw : W1.heap[gw]? = some (nblk t d r x s.top ok)
  bs : W1.heap[gs]? = some zblk
  w : W.heap.size ≤ gw
  s_ : W.heap.size ≤ gs
  ne : gw ≠ gs
  tw : tag gw = 0
  ts : tag gs = 0
  b0 : B ≤ W.heap.size
theorem Ent.start {w0 : World} {B : Nat} {W : World} {tag : Nat → Nat} {x : NV} {s : St} (h : Nw w0 B W tag W tag x s) (t d r : Int) (ok : Bool) : Ent w0 B W tag t d r x s ok W.heap.size (W.heap.size + 1) ((W.alloc (nblk t d r x s.top ok)).alloc zblk) := by
  have hb : Below (W.alloc (nblk t d r x s.top ok)).heap.size (W.alloc (nblk t d r x s.top ok)) ((W.alloc (nblk t d r x s.top ok)).alloc zblk) := below_alloc (Below.refl _ _) _
  refine ⟨(h.alloc _).alloc _, blk_below (blk_new W _) hb, ?_, Nat.le_refl _, Nat.le_succ _, by omega, h.fresh _ (Nat.le_refl _), h.fresh _ (Nat.le_succ _), h.base⟩
  have := blk_new (W.alloc (nblk t d r x s.top ok)) zblk
  simpa using this
set_option maxHeartbeats 1000000 in
theorem comes_down (w0 : World) (B : Nat) (W : World) (tag : Nat → Nat) (x : NV) (s : St) (t d r : Int) (n i : Nat) (h : Nw w0 B W tag W tag x s) (hd : Bd t n i s) (hi : i < 90) (hn : 2 ≤ n ∧ n ≤ 5) (k : Int) (hk : 0 ≤ k ∧ k ≤ 70000) (p : Pap) (j : Nat) (hjl : j < s.reqs.length) (hjj : k % (s.reqs.length : Int) = (j : Int)) (hp : s.reqs.getD j z116 = p) (hu : s.isup p.f1 = false) : Calls Try.prog 61 #[.agg #[.int .i64 t, .int .i64 d, .int .i64 r, x.c, x.l, x.u, x.v, x.d, x.r, x.g, x.b, .int .u64 s.top, .bool true], .int .i64 k, .bool true] W (Pst w0 B W tag t d r n s) := by
  obtain ⟨A1, A2, A3, A4, A5, A6, A7, A8, c1, c2, c3, c4, c5, c6, c7, c8, hx⟩ := h.open
  obtain ⟨raw, vc, vl, vu, vv, vd, vr, vg, vb⟩ := x
  injection hx with hx0 hx1 hx2 hx3 hx4 hx5 hx6 hx7 hx8
  subst hx1 hx2 hx3 hx4 hx5 hx6 hx7 hx8
  clear hx0
  have hu80 := Try.underlying80
  have hu116 := Try.underlying116
  have hpo : Okp n i p := hd.rq p (by rw [← hp]; simp [hjl])
  obtain ⟨p0, p1, p2, p3, p4⟩ := p
  obtain ⟨q1, rfl⟩ := Int.eq_ofNat_of_zero_le (show 0 ≤ p1 from hpo.to_.1)
  have hq1 : q1 < s.up.length := by have := hpo.to_.2; simp only at this; rw [hd.lu]; omega
  have hrl := hd.rl
  have HH := Lib.hid h
  have HU := Lib.hid hu
  have HP := Lib.hid hp
  have HJ := Lib.hid hjj
  have HD := Lib.hid hd
  have HO := Lib.hid hpo
  clear h hd hpo hu hp hjj
  go_enter Try.func61, Try.ntmps61
  go_upto_region 1 with (fail)
  refine wp_gen (fun W1 => Ent w0 B W tag t d r _ s true W.heap.size (W.heap.size + 1) W1) (Ent.start HH.out t d r true) ?_
  intro W1 hE
  generalize W.heap.size + 1 = gs at hE ⊢
  generalize W.heap.size = gw at hE ⊢
  obtain ⟨gr, cr, er, _, lr, tr, hr⟩ := hE.nw.row_r (by omega)
  obtain ⟨gu, cu, eu, _, lu, tu, hu2⟩ := hE.nw.row_u (by omega)
  obtain ⟨⟨x0, x1, x2, x3, x4⟩, hxf⟩ := hr j hjl
  obtain ⟨y0, y1⟩ := hu2 q1 hq1
  have hu := HU.out
  unfold St.isup at hu
  simp only [Int.toNat_natCast] at hu
  rw [hu] at y0
  rw [HP.out] at x0 x1 x2 x3 x4
  injection er with er _ _
  injection eu with eu _ _
  subst er eu
  obtain ⟨z0, z1, z2, z3, z4, z5, z6, z7, z8, z9, z10, z11, z12⟩ := nblk_cells hE.bw
  obtain ⟨s0, s1, s2, s3, s4, s5, s6, s7, s8, s9, s10, s11, s12⟩ := nblk_cells hE.bs
  have zf := fun o => blk_frozen hE.bw o
  have sf := fun o => blk_frozen hE.bs o
  have lw := blk_lt hE.bw
  have ls := blk_lt hE.bs
  have HE := Lib.hid hE
  have hjl2 : (j : Int) < (s.reqs.length : Int) := by omega
  have hj0 : (0 : Int) ≤ (j : Int) := by omega
  have hq2 : (q1 : Int) < (s.up.length : Int) := by omega
  have hq0 : (0 : Int) ≤ (q1 : Int) := by omega
  have hll : (s.reqs.length : Int) ≤ 450 := by omega
  have hl0 : (0 : Int) < (s.reqs.length : Int) := by omega
  clear hE hr hu2 hu
  go_wp2_with fail
  have hne : s.reqs ≠ [] := by intro e; rw [e] at hl0; simp at hl0
  have htm : Int.tmod k (s.reqs.length : Int) = (j : Int) := by rw [Int.tmod_eq_emod_of_nonneg hk.1]; exact HJ.out
  have hwj : IntKind.i64.wrap (j : Int) = (j : Int) := by simp [IntKind.wrap, IntKind.bits, IntKind.signed]; omega
  go_region
  clear htm hwj
  go_upto_region 4 with (fail)
  refine wp_gen (fun W2 => Nw w0 B W tag W2 tag _ s ∧ W2.heap[gw]? = some (nblk t d r _ s.top true) ∧ W2.heap[gs]? = some zblk) ⟨(HE.out.nw.alloc _).drew, blk_drew (blk_below HE.out.bw (below_alloc (Below.refl _ _) _)), blk_drew (blk_below HE.out.bs (below_alloc (Below.refl _ _) _))⟩ ?_
  rintro W2 ⟨h2, hbw, hbs⟩
  have H2 := Lib.hid h2
  have HBW := Lib.hid hbw
  have HBS := Lib.hid hbs
  have HI := Lib.hid info80s
  clear h2 hbw hbs
  refine reg_ret 37 (gw := gw) (gs := gs) (by rfl) (by rfl) (by rfl) (by rfl) (by rfl) (by rfl) (by rfl) (by rfl) (by rfl) HBW.out HBS.out (by rfl) (by rfl) (by simp [Value.oneCell']) ?_
  go_wp2
  exact fin_ret (by rfl) (by rfl) (by rfl) HBS.out .none_ H2.out HE.out.ts HE.out.s_ (Nat.le_trans HH.out.base HE.out.s_)
end Go.Proofs.Ytgfblogneggpmaa.One
