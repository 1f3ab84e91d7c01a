/- chapter 18's law: a request, or a grant, comes; by hand. -/
import Derived.Test.YtgfblogneggpmaaOneA
import Derived.Outline
import Derived.Test.YtgfblogneggpmaaFnx0
import Derived.Test.YtgfblogneggpmaaFnx16
import Derived.Test.YtgfblogneggpmaaFnx27
namespace Go.Proofs.Ytgfblogneggpmaa.One
open Go.RowKit Go.Proofs.Ytgfblogneggpmaa.Fn Go.Proofs.YtgfblogneggpmaaW.PrintWords Go.Proofs.YtgfblogneggpmaaW.PrintLast Go.Proofs.YtgfblogneggpmaaW.PrintMore Go.Proofs.Ytgfblogneggpmaa.Vote Go.Proofs.Ytgfblogneggpmaa.Clk Go.Proofs.Ytgfblogneggpmaa.Thr
set_option linter.unusedVariables false
set_option linter.unusedSimpArgs false
set_option maxRecDepth 100000
/-- What may come of a step. -/
inductive Stp (t : Int) (n : Nat) (s : St) : St → Prop
  | none_ : Stp t n s s
  | tick (a : Int) : isn n a → s.isup a = true → Stp t n s (s.tick a)
  | fall (a : Int) : isn n a → s.isup a = true → Stp t n s (s.fall a)
  | rise (a : Int) : isn n a → s.isup a = false → Stp t n s (s.rise t n a)
  | again (a : Int) : isn n a → s.isup a = true → Stp t n s (s.ask n a)
  | fresh (a : Int) : isn n a → s.isup a = true → Stp t n s ((s.start n a).ask n a)
  | grant (p : Pap) : p ∈ s.reqs → s.isup p.f1 = true → bars (s.vo p.f1).f0 (s.vo p.f1).f1 (s.vo p.f1).f2 (s.vo p.f1).f3 p.f0 p.f2 (s.clk p.f1) = false → Stp t n s (s.grant t p)
  | got (p : Pap) : p ∈ s.grs → s.lf p.f0 = p.f4 → Stp t n s (s.got p)
theorem Stp.inv {t : Int} {n i : Nat} {s s' : St} (h : Stp t n s s') (ht : 0 ≤ t) (hn : n ≤ 5) (hd : Bd t n i s) (hg : Gh t n s) : Bd t n (i + 1) s' ∧ Gh t n s' := by
  cases h with
  | none_ => exact ⟨hd.more, hg⟩
  | tick a ha hu => exact ⟨hd.tick ha, hg.tick hd ha hu⟩
  | fall a ha hu => exact ⟨hd.fall a, hg.fall hd ha hu⟩
  | rise a ha hu => exact ⟨hd.rise ht ha, hg.rise hd ht ha hu⟩
  | again a ha hu => exact ⟨hd.more.ask hd.rl hn ha, hg.ask_ ha hu⟩
  | fresh a ha hu => exact ⟨(hd.start ha).ask hd.rl hn ha, (hg.start hd ha).ask_ ha hu⟩
  | grant p hp hu hb => exact ⟨hd.grant ht hp, hg.grant hd hp hu hb⟩
  | got p hp hl => exact ⟨hd.got hp, hg.got hd hp hl⟩
/-- What a step leaves. -/
def Pst (w0 : World) (B : Nat) (W : World) (tag : Nat → Nat) (t d r : Int) (n : Nat) (s : St) (e : Ending) (w' : World) : Prop :=
  ∃ x' tag' s', Stp t n s s' ∧ e = .returned (.agg #[.int .i64 t, .int .i64 d, .int .i64 r, x'.c, x'.l, x'.u, x'.v, x'.d, x'.r, x'.g, x'.b, .int .u64 s'.top, .bool true]) ∧ Nw w0 B W tag w' tag' x' s'
theorem wp_gen {p : Program} {c : Code} {K : Exit → Act → World → Prop} {a : Act} {W : World} (Q : World → Prop) (hq : Q W) (h : ∀ W', Q W' → Code.wp p c K a W') : Code.wp p c K a W := h W hq
/-- All rows' values are slices. -/
theorem Nw.open {w0 W0 W : World} {B : Nat} {t0 tag : Nat → Nat} {x : NV} {s : St} (h : Nw w0 B W0 t0 W tag x s) : ∃ (A1 A2 A3 A4 A5 A6 A7 A8 : Option Addr) (c1 c2 c3 c4 c5 c6 c7 c8 : Nat), x = ⟨x.raw, .slice A1 s.clock.length c1, .slice A2 s.life.length c2, .slice A3 s.up.length c3, .slice A4 s.votes.length c4, .slice A5 s.leads.length c5, .slice A6 s.reqs.length c6, .slice A7 s.grs.length c7, .slice A8 s.beats.length c8⟩ := by
  obtain ⟨A1, c1, e1⟩ := Kd.R_slice h.c
  obtain ⟨A2, c2, e2⟩ := Kd.R_slice h.l
  obtain ⟨A3, c3, e3⟩ := Kd.R_slice h.u
  obtain ⟨A4, c4, e4⟩ := Kd.R_slice h.v
  obtain ⟨A5, c5, e5⟩ := Kd.R_slice h.d
  obtain ⟨A6, c6, e6⟩ := Kd.R_slice h.r
  obtain ⟨A7, c7, e7⟩ := Kd.R_slice h.g
  obtain ⟨A8, c8, e8⟩ := Kd.R_slice h.b
  have e0 := h.dl
  obtain ⟨raw, vc, vl, vu, vv, vd, vr, vg, vb⟩ := x
  simp only at e0 e1 e2 e3 e4 e5 e6 e7 e8
  rw [e0] at e5
  subst e1 e2 e3 e4 e5 e6 e7 e8
  exact ⟨A1, A2, A3, A4, A5, A6, A7, A8, c1, c2, c3, c4, c5, c6, c7, c8, rfl⟩
theorem info80s : (Try.prog.info? 80).map (·.size) = some 13 := by kernel_rfl
/-- The nodes' block is copied to the result's. -/
theorem reg_ret {id : Nat} {o1 o2 : Oper} {Q : Exit → Act → World → Prop} {a : Act} {W : World} (T : Nat) {gw gs : Nat} {cs old : Array Value} (h1 : o1.op = .load 80 (.tmp 3)) (hd1 : o1.dst = some T) (hg1 : o1.guard = none) (h2 : o2.op = .store 80 (.tmp 6) (.tmp T)) (hd2 : o2.dst = none) (hg2 : o2.guard = none)
    (hx : a.eval (.tmp 3) = .pointer (some ⟨gw, 0, none⟩)) (hs : (a.put (some T) (.agg cs)).eval (.tmp 6) = .pointer (some ⟨gs, 0, none⟩)) (hy : (a.put (some T) (.agg cs)).eval (.tmp T) = .agg cs) (hw : W.heap[gw]? = some (.cells cs 80 (0, 0))) (hz : W.heap[gs]? = some (.cells old 80 (0, 0))) (hc : cs.size = 13) (ho : old.size = 13) (hall : cs.all (·.oneCell') = true)
    (h : Q .normal ((a.put (some T) (.agg cs)).put none undef) (W.setRow gs cs)) : Code.wp Try.prog (.region id #[o1, o2] false) Q a W := by
  have hi : (Try.prog.info? 80).map (·.size) = some cs.size := by rw [hc]; exact info80s
  refine wp_region_lit (l := [o1, o2]) (wpList_load_row hg1 80 (.tmp 3) h1 gw hx 80 cs (0, 0) _ hw Try.underlying80 rfl hi (wpList_store_row hg2 80 (.tmp 6) (.tmp T) h2 gs cs ?_ ?_ 80 old hz hi (by rw [ho, hc]) hall ?_))
  · rw [hd1]; exact hs
  · rw [hd1]; exact hy
  · rw [hd1, hd2]
    exact h
theorem Nw.setRow {w0 W0 W : World} {B : Nat} {t0 tag : Nat → Nat} {x : NV} {s : St} (h : Nw w0 B W0 t0 W tag x s) {g : Nat} (hg : tag g = 0) (h0 : W0.heap.size ≤ g) (hB : B ≤ g) (cs : Array Value) : Nw w0 B W0 t0 (W.setRow g cs) tag x s :=
  h.move (fun k hk _ => setRow_other W g k cs (fun e => hk (by rw [e]; exact hg))) (fun k hk _ => setRow_other W g k cs (by omega)) (below_setRow h.bel hB cs) (by simp [World.setRow])
/-- The end of a function that gives the nodes back. -/
theorem fin_ret {fn : Func} {a : Act} {w0 : World} {B : Nat} {W W2 : World} {tag tag' : Nat → Nat} {t d r : Int} {n : Nat} {x : NV} {s s' : St} {gs : Nat} (hf : fn.results = #[.cell 6 80]) (hd : a.defers = []) (hp : a.tmps.getD 6 undef = .pointer (some ⟨gs, 0, none⟩)) (hz : W2.heap[gs]? = some zblk) (hs : Stp t n s s') (h : Nw w0 B W tag W2 tag' x s') (ht : tag' gs = 0) (h0 : W.heap.size ≤ gs) (hB : B ≤ gs) :
    bodyPost Try.prog fn (Pst w0 B W tag t d r n s) .ret a (W2.setRow gs #[.int .i64 t, .int .i64 d, .int .i64 r, x.c, x.l, x.u, x.v, x.d, x.r, x.g, x.b, .int .u64 s'.top, .bool true]) :=
  bodyPost_ret (results_cell_row hf _ _ gs 80 _ (0, 0) _ hp (setRow_heap W2 gs _ _ 80 (0, 0) hz) Try.underlying80 rfl info80s) hd ⟨x, tag', s', hs, rfl, h.setRow ht h0 hB _⟩
/-- What a function that takes the nodes begins with: their block, and the result's. -/
structure Ent (w0 : World) (B : Nat) (W : World) (tag : Nat → Nat) (t d r : Int) (x : NV) (s : St) (ok : Bool) (gw gs : Nat) (W1 : World) : Prop where
  nw : Nw w0 B W tag W1 tag x s
  bw : W1.heap[gw]? = some (nblk t d r x s.top ok)
  bs : W1.heap[gs]? = some zblk
  w : W.heap.size ≤ gw
  s_ : W.heap.size ≤ gs
  ne : gw ≠ gs
  tw : tag gw = 0
  ts : tag gs = 0
  b0 : B ≤ W.heap.size
theorem Ent.start {w0 : World} {B : Nat} {W : World} {tag : Nat → Nat} {x : NV} {s : St} (h : Nw w0 B W tag W tag x s) (t d r : Int) (ok : Bool) : Ent w0 B W tag t d r x s ok W.heap.size (W.heap.size + 1) ((W.alloc (nblk t d r x s.top ok)).alloc zblk) := by
  have hb : Below (W.alloc (nblk t d r x s.top ok)).heap.size (W.alloc (nblk t d r x s.top ok)) ((W.alloc (nblk t d r x s.top ok)).alloc zblk) := below_alloc (Below.refl _ _) _
  refine ⟨(h.alloc _).alloc _, blk_below (blk_new W _) hb, ?_, Nat.le_refl _, Nat.le_succ _, by omega, h.fresh _ (Nat.le_refl _), h.fresh _ (Nat.le_succ _), h.base⟩
  have := blk_new (W.alloc (nblk t d r x s.top ok)) zblk
  simpa using this
set_option maxHeartbeats 1000000 in
theorem comes_down (w0 : World) (B : Nat) (W : World) (tag : Nat → Nat) (x : NV) (s : St) (t d r : Int) (n i : Nat) (h : Nw w0 B W tag W tag x s) (hd : Bd t n i s) (hi : i < 90) (hn : 2 ≤ n ∧ n ≤ 5) (k : Int) (hk : 0 ≤ k ∧ k ≤ 70000) (p : Pap) (j : Nat) (hjl : j < s.reqs.length) (hjj : k % (s.reqs.length : Int) = (j : Int)) (hp : s.reqs.getD j z116 = p) (hu : s.isup p.f1 = false) : Calls Try.prog 61 #[.agg #[.int .i64 t, .int .i64 d, .int .i64 r, x.c, x.l, x.u, x.v, x.d, x.r, x.g, x.b, .int .u64 s.top, .bool true], .int .i64 k, .bool true] W (Pst w0 B W tag t d r n s) := by
  obtain ⟨A1, A2, A3, A4, A5, A6, A7, A8, c1, c2, c3, c4, c5, c6, c7, c8, hx⟩ := h.open
  obtain ⟨raw, vc, vl, vu, vv, vd, vr, vg, vb⟩ := x
  injection hx with hx0 hx1 hx2 hx3 hx4 hx5 hx6 hx7 hx8
  subst hx1 hx2 hx3 hx4 hx5 hx6 hx7 hx8
  clear hx0
  have hu80 := Try.underlying80
  have hu116 := Try.underlying116
  have hpo : Okp n i p := hd.rq p (by rw [← hp]; simp [hjl])
  obtain ⟨p0, p1, p2, p3, p4⟩ := p
  obtain ⟨q1, rfl⟩ := Int.eq_ofNat_of_zero_le (show 0 ≤ p1 from hpo.to_.1)
  have hq1 : q1 < s.up.length := by have := hpo.to_.2; simp only at this; rw [hd.lu]; omega
  have hrl := hd.rl
  have HH := Lib.hid h
  have HU := Lib.hid hu
  have HP := Lib.hid hp
  have HJ := Lib.hid hjj
  have HD := Lib.hid hd
  have HO := Lib.hid hpo
  clear h hd hpo hu hp hjj
  go_enter Try.func61, Try.ntmps61
  go_upto_region 1 with (fail)
  refine wp_gen (fun W1 => Ent w0 B W tag t d r _ s true W.heap.size (W.heap.size + 1) W1) (Ent.start HH.out t d r true) ?_
  intro W1 hE
  generalize W.heap.size + 1 = gs at hE ⊢
  generalize W.heap.size = gw at hE ⊢
  obtain ⟨gr, cr, er, _, lr, tr, hr⟩ := hE.nw.row_r (by omega)
  obtain ⟨gu, cu, eu, _, lu, tu, hu2⟩ := hE.nw.row_u (by omega)
  obtain ⟨⟨x0, x1, x2, x3, x4⟩, hxf⟩ := hr j hjl
  obtain ⟨y0, y1⟩ := hu2 q1 hq1
  have hu := HU.out
  unfold St.isup at hu
  simp only [Int.toNat_natCast] at hu
  rw [hu] at y0
  rw [HP.out] at x0 x1 x2 x3 x4
  injection er with er _ _
  injection eu with eu _ _
  subst er eu
  obtain ⟨z0, z1, z2, z3, z4, z5, z6, z7, z8, z9, z10, z11, z12⟩ := nblk_cells hE.bw
  obtain ⟨s0, s1, s2, s3, s4, s5, s6, s7, s8, s9, s10, s11, s12⟩ := nblk_cells hE.bs
  have zf := fun o => blk_frozen hE.bw o
  have sf := fun o => blk_frozen hE.bs o
  have lw := blk_lt hE.bw
  have ls := blk_lt hE.bs
  have HE := Lib.hid hE
  have hjl2 : (j : Int) < (s.reqs.length : Int) := by omega
  have hj0 : (0 : Int) ≤ (j : Int) := by omega
  have hq2 : (q1 : Int) < (s.up.length : Int) := by omega
  have hq0 : (0 : Int) ≤ (q1 : Int) := by omega
  have hll : (s.reqs.length : Int) ≤ 450 := by omega
  have hl0 : (0 : Int) < (s.reqs.length : Int) := by omega
  clear hE hr hu2 hu
  go_wp2_with fail
  have hne : s.reqs ≠ [] := by intro e; rw [e] at hl0; simp at hl0
  have htm : Int.tmod k (s.reqs.length : Int) = (j : Int) := by rw [Int.tmod_eq_emod_of_nonneg hk.1]; exact HJ.out
  have hwj : IntKind.i64.wrap (j : Int) = (j : Int) := by simp [IntKind.wrap, IntKind.bits, IntKind.signed]; omega
  go_region
  clear htm hwj
  go_upto_region 4 with (fail)
  refine wp_gen (fun W2 => Nw w0 B W tag W2 tag _ s ∧ W2.heap[gw]? = some (nblk t d r _ s.top true) ∧ W2.heap[gs]? = some zblk) ⟨(HE.out.nw.alloc _).drew, blk_drew (blk_below HE.out.bw (below_alloc (Below.refl _ _) _)), blk_drew (blk_below HE.out.bs (below_alloc (Below.refl _ _) _))⟩ ?_
  rintro W2 ⟨h2, hbw, hbs⟩
  have H2 := Lib.hid h2
  have HBW := Lib.hid hbw
  have HBS := Lib.hid hbs
  have HI := Lib.hid info80s
  clear h2 hbw hbs
  refine reg_ret 37 (gw := gw) (gs := gs) (by rfl) (by rfl) (by rfl) (by rfl) (by rfl) (by rfl) (by rfl) (by rfl) (by rfl) HBW.out HBS.out (by rfl) (by rfl) (by simp [Value.oneCell']) ?_
  go_wp2
  exact fin_ret (by rfl) (by rfl) (by rfl) HBS.out .none_ H2.out HE.out.ts HE.out.s_ (Nat.le_trans HH.out.base HE.out.s_)
end Go.Proofs.Ytgfblogneggpmaa.One
namespace Go.Proofs.Ytgfblogneggpmaa.One
open Go.RowKit Go.Proofs.Ytgfblogneggpmaa.Fn Go.Proofs.YtgfblogneggpmaaW.PrintWords Go.Proofs.YtgfblogneggpmaaW.PrintLast Go.Proofs.YtgfblogneggpmaaW.PrintMore Go.Proofs.Ytgfblogneggpmaa.Vote Go.Proofs.Ytgfblogneggpmaa.Clk Go.Proofs.Ytgfblogneggpmaa.Thr
set_option linter.unusedVariables false
set_option linter.unusedSimpArgs false
set_option maxRecDepth 100000
theorem info116 : (Try.prog.info? 116).map (fun i => (i.zero, i.size, i.bytes)) = some (some (.agg #[.int .i64 0, .int .i64 0, .int .u64 0, .int .i64 0, .int .i64 0]), 5, 40) := by kernel_rfl
theorem set_same {α : Type} (l : List α) (j : Nat) (z : α) : l.set j (l.getD j z) = l := by
  apply List.ext_getElem?
  intro i
  by_cases h : i = j
  · subst h
    by_cases h2 : i < l.length
    · simp [h2]
    · simp [h2]
  · rw [List.getElem?_set_ne (fun e => h e.symm)]
theorem nblk_set12 {W : World} {t d r : Int} {x : NV} {top : Int} {ok : Bool} {g : Nat} (h : W.heap[g]? = some (nblk t d r x top ok)) (b : Bool) : (W.setCell ⟨g, 12, none⟩ (.bool b)).heap[g]? = some (nblk t d r x top b) := by
  have := blk_set h 12 (.bool b)
  exact this
/-- Amid the walk of a request: what stands in memory, with a paper's block and a vote's. -/
structure Mid (w0 : World) (B : Nat) (W : World) (tag : Nat → Nat) (t d r : Int) (x : NV) (s : St) (gw gs : Nat) (p : Pap) (v : S38) (gp gb : Nat) (W3 : World) : Prop where
  nw : Nw w0 B W tag W3 tag x s
  bw : W3.heap[gw]? = some (nblk t d r x s.top true)
  bs : W3.heap[gs]? = some zblk
  bp : W3.heap[gp]? = some (.cells #[.int .i64 p.f0, .int .i64 p.f1, .int .u64 p.f2, .int .i64 p.f3, .int .i64 p.f4] 116 (0, 0))
  bb : W3.heap[gb]? = some (.cells #[.int .u64 v.f0, .int .i64 v.f1, .int .i64 v.f2, .int .i64 v.f3] 38 (0, 0))
  ws : gw ≠ gs
  wp_ : gw ≠ gp
  wb : gw ≠ gb
  tw : tag gw = 0
  ts : tag gs = 0
  tp : tag gp = 0
  tb : tag gb = 0
  hw : W.heap.size ≤ gw
  hs : W.heap.size ≤ gs
  b0 : B ≤ W.heap.size
section
variable {w0 : World} {B : Nat} {W : World} {tag : Nat → Nat} {t d r : Int} {x : NV} {s : St} {gw gs : Nat} {p : Pap} {v : S38} {W1 w1 : World}
theorem Mid.late (hE : Ent w0 B W tag t d r x s true gw gs W1) (hb : Below ((W1.alloc (.cells #[.int .i64 p.f0, .int .i64 p.f1, .int .u64 p.f2, .int .i64 p.f3, .int .i64 p.f4] 116)).drew.drew).heap.size ((W1.alloc (.cells #[.int .i64 p.f0, .int .i64 p.f1, .int .u64 p.f2, .int .i64 p.f3, .int .i64 p.f4] 116)).drew.drew) w1) :
    Mid w0 B W tag t d r x s gw gs p v W1.heap.size w1.heap.size (w1.alloc (.cells #[.int .u64 v.f0, .int .i64 v.f1, .int .i64 v.f2, .int .i64 v.f3] 38)) := by
  have lw := blk_lt hE.bw
  have hz : W1.heap.size ≤ w1.heap.size := by have := hb.size; simp at this; omega
  have ha : Below w1.heap.size w1 (w1.alloc (.cells #[.int .u64 v.f0, .int .i64 v.f1, .int .i64 v.f2, .int .i64 v.f3] 38)) := below_alloc (Below.refl _ _) _
  have step : ∀ {g : Nat} {o : Obj}, W1.heap[g]? = some o → (w1.alloc (.cells #[.int .u64 v.f0, .int .i64 v.f1, .int .i64 v.f2, .int .i64 v.f3] 38)).heap[g]? = some o := fun h => blk_below (blk_below (blk_drew (blk_drew (blk_below h (below_alloc (Below.refl _ _) _)))) hb) ha
  exact ⟨((hE.nw.alloc _).drew.drew.below hb).alloc _, step hE.bw, step hE.bs, blk_below (blk_below (blk_drew (blk_drew (blk_new W1 _))) hb) ha, blk_new w1 _, hE.ne, by omega, by omega, hE.tw, hE.ts, hE.nw.fresh _ (Nat.le_refl _), hE.nw.fresh _ hz, hE.w, hE.s_, hE.b0⟩
theorem Mid.early (hE : Ent w0 B W tag t d r x s true gw gs W1) (hb : Below (((W1.alloc (.cells #[.int .i64 p.f0, .int .i64 p.f1, .int .u64 p.f2, .int .i64 p.f3, .int .i64 p.f4] 116)).alloc (.cells #[.int .u64 0, .int .i64 0, .int .i64 0, .int .i64 0] 38)).drew.drew).heap.size (((W1.alloc (.cells #[.int .i64 p.f0, .int .i64 p.f1, .int .u64 p.f2, .int .i64 p.f3, .int .i64 p.f4] 116)).alloc (.cells #[.int .u64 0, .int .i64 0, .int .i64 0, .int .i64 0] 38)).drew.drew) w1) :
    Mid w0 B W tag t d r x s gw gs p v W1.heap.size (W1.heap.size + 1) ((((w1.setCell ⟨W1.heap.size + 1, 0, none⟩ (.int .u64 v.f0)).setCell ⟨W1.heap.size + 1, 1, none⟩ (.int .i64 v.f1)).setCell ⟨W1.heap.size + 1, 2, none⟩ (.int .i64 v.f2)).setCell ⟨W1.heap.size + 1, 3, none⟩ (.int .i64 v.f3)) := by
  have lw := blk_lt hE.bw
  have ls := blk_lt hE.bs
  have hB : B ≤ W1.heap.size := hE.nw.base
  have h0 : W.heap.size ≤ W1.heap.size := hE.nw.size
  have ht : tag (W1.heap.size + 1) = 0 := hE.nw.fresh _ (by omega)
  have ha : ∀ (w : World) (o : Obj), Below w.heap.size w (w.alloc o) := fun w o => below_alloc (Below.refl _ _) o
  have step : ∀ {g : Nat} {o : Obj}, W1.heap[g]? = some o → w1.heap[g]? = some o := fun h => blk_below (blk_drew (blk_drew (blk_below (blk_below h (ha _ _)) (ha _ _)))) hb
  have hbp : w1.heap[W1.heap.size]? = some (.cells #[.int .i64 p.f0, .int .i64 p.f1, .int .u64 p.f2, .int .i64 p.f3, .int .i64 p.f4] 116 (0, 0)) := blk_below (blk_drew (blk_drew (blk_below (blk_new W1 _) (ha _ _)))) hb
  have hbb : w1.heap[W1.heap.size + 1]? = some (.cells #[.int .u64 0, .int .i64 0, .int .i64 0, .int .i64 0] 38 (0, 0)) := by
    have h1 := blk_new (W1.alloc (.cells #[.int .i64 p.f0, .int .i64 p.f1, .int .u64 p.f2, .int .i64 p.f3, .int .i64 p.f4] 116)) (.cells #[.int .u64 0, .int .i64 0, .int .i64 0, .int .i64 0] 38)
    have h2 := blk_below (blk_drew (blk_drew h1)) hb
    simpa using h2
  have far : ∀ {w : World} {g : Nat} {c : Array Value} {e : Nat}, g ≠ W1.heap.size + 1 → w.heap[g]? = some (.cells c e (0, 0)) → ∀ (j : Nat) (u : Value), (w.setCell ⟨W1.heap.size + 1, j, none⟩ u).heap[g]? = some (.cells c e (0, 0)) := fun hne h j u => blk_far h hne u
  refine ⟨((((((((hE.nw.alloc _).alloc _).drew.drew).below hb).set0 ht (by omega) (by omega) 0 _).set0 ht (by omega) (by omega) 1 _).set0 ht (by omega) (by omega) 2 _).set0 ht (by omega) (by omega) 3 _), ?_, ?_, ?_, ?_, hE.ne, by omega, by omega, hE.tw, hE.ts, hE.nw.fresh _ (Nat.le_refl _), ht, hE.w, hE.s_, hE.b0⟩
  · exact far (by omega) (far (by omega) (far (by omega) (far (by omega) (step hE.bw) 0 _) 1 _) 2 _) 3 _
  · exact far (by omega) (far (by omega) (far (by omega) (far (by omega) (step hE.bs) 0 _) 1 _) 2 _) 3 _
  · exact far (by omega) (far (by omega) (far (by omega) (far (by omega) hbp 0 _) 1 _) 2 _) 3 _
  · exact blk_set (blk_set (blk_set (blk_set hbb 0 _) 1 _) 2 _) 3 _
variable {gp gb : Nat} {W3 : World}
theorem Mid.ok12 (h : Mid w0 B W tag t d r x s gw gs p v gp gb W3) : Mid w0 B W tag t d r x s gw gs p v gp gb (W3.setCell ⟨gw, 12, none⟩ (.bool true)) :=
  { h with
    nw := h.nw.set0 h.tw h.hw (Nat.le_trans h.b0 h.hw) 12 _
    bw := nblk_set12 h.bw true
    bs := blk_far h.bs (fun e => h.ws e.symm) _
    bp := blk_far h.bp (fun e => h.wp_ e.symm) _
    bb := blk_far h.bb (fun e => h.wb e.symm) _ }
theorem Mid.vote (h : Mid w0 B W tag t d r x s gw gs p v gp gb W3) {g n c : Nat} (hx : x.v = .slice (some ⟨g, 0, none⟩) n c) (hg : tag g = 4) (j : Nat) (hj : j < n) (y : S38) : Mid w0 B W tag t d r x { s with votes := s.votes.set j y } gw gs p v gp gb (st4 W3 g j y) := by
  have far : ∀ {k : Nat} {c : Array Value} {e : Nat}, tag k = 0 → W3.heap[k]? = some (.cells c e (0, 0)) → (st4 W3 g j y).heap[k]? = some (.cells c e (0, 0)) := fun ht hb => by
    rename_i k _ _
    have hne : k ≠ g := fun e => by rw [e, hg] at ht; cases ht
    exact blk_far (blk_far (blk_far (blk_far hb hne _) hne _) hne _) hne _
  exact { h with nw := h.nw.set_v hx j hj y, bw := far h.tw h.bw, bs := far h.ts h.bs, bp := far h.tp h.bp, bb := far h.tb h.bb }
/-- A grant more. -/
theorem Mid.app (h : Mid w0 B W tag t d r x s gw gs p v gp gb W3) {wn : World} {vn : Value} {q : Pap} (hR : k116.R 116 wn B (fun k => tag k = 7 ∨ W3.heap.size ≤ k) vn (s.grs ++ [q])) (hB : Below B w0 wn) (hG : W3.grownBy wn x.g.ownBlock) :
    (wn.cell? ⟨gw, 9, none⟩ = some x.g ∧ wn.frozen? ⟨gw, 9, none⟩ = false) ∧ Nw w0 B W tag (wn.setCell ⟨gw, 9, none⟩ vn) (ri tag W3.heap.size wn.heap.size 7) { x with g := vn } { s with grs := s.grs ++ [q] } ∧ (wn.setCell ⟨gw, 9, none⟩ vn).heap[gw]? = some (nblk t d r { x with g := vn } s.top true) ∧ (wn.setCell ⟨gw, 9, none⟩ vn).heap[gs]? = some zblk ∧ ri tag W3.heap.size wn.heap.size 7 gs = 0 := by
  obtain ⟨b1, b2⟩ := Nw.stay (by decide) h.nw.g.1 hG h.bw h.tw
  obtain ⟨b3, b4⟩ := Nw.stay (by decide) h.nw.g.1 hG h.bs h.ts
  refine ⟨⟨(blk_cell b1 9).trans rfl, blk_frozen b1 9⟩, (h.nw.app_g hR hB hG).set0 b2 h.hw (Nat.le_trans h.b0 h.hw) 9 _, ?_, blk_far b3 (fun e => h.ws e.symm) _, b4⟩
  have := blk_set b1 9 vn
  exact this
end
set_option maxHeartbeats 2000000 in
theorem comes_bar (w0 : World) (B : Nat) (W : World) (tag : Nat → Nat) (x : NV) (s : St) (t d r : Int) (n i : Nat) (h : Nw w0 B W tag W tag x s) (hd : Bd t n i s) (hi : i < 90) (hn : 2 ≤ n ∧ n ≤ 5) (hm : mayt t d r) (k : Int) (hk : 0 ≤ k ∧ k ≤ 70000) (p : Pap) (j : Nat) (hjl : j < s.reqs.length) (hjj : k % (s.reqs.length : Int) = (j : Int)) (hp : s.reqs.getD j z116 = p) (hu : s.isup p.f1 = true) (hb : bars (s.vo p.f1).f0 (s.vo p.f1).f1 (s.vo p.f1).f2 (s.vo p.f1).f3 p.f0 p.f2 (s.clk p.f1) = true) : Calls Try.prog 61 #[.agg #[.int .i64 t, .int .i64 d, .int .i64 r, x.c, x.l, x.u, x.v, x.d, x.r, x.g, x.b, .int .u64 s.top, .bool true], .int .i64 k, .bool true] W (Pst w0 B W tag t d r n s) := by
  obtain ⟨A1, A2, A3, A4, A5, A6, A7, A8, c1, c2, c3, c4, c5, c6, c7, c8, hx⟩ := h.open
  obtain ⟨raw, vc, vl, vu, vv, vd, vr, vg, vb⟩ := x
  injection hx with hx0 hx1 hx2 hx3 hx4 hx5 hx6 hx7 hx8
  subst hx1 hx2 hx3 hx4 hx5 hx6 hx7 hx8
  clear hx0
  have hu80 := Try.underlying80
  have hu116 := Try.underlying116
  have hu38 := Try.underlying38
  have hu23 := Try.underlying23
  have hpm : p ∈ s.reqs := by rw [← hp]; simp [hjl]
  have hpo : Okp n i p := hd.rq p hpm
  obtain ⟨p0, p1, p2, p3, p4⟩ := p
  obtain ⟨q1, rfl⟩ := Int.eq_ofNat_of_zero_le (show 0 ≤ p1 from hpo.to_.1)
  have hq1 : q1 < s.up.length := by have := hpo.to_.2; simp only at this; rw [hd.lu]; omega
  have hq1v : q1 < s.votes.length := by have := hpo.to_.2; simp only at this; rw [hd.lv]; omega
  have hq1c : q1 < s.clock.length := by have := hpo.to_.2; simp only at this; rw [hd.lc]; omega
  have hrl := hd.rl
  have hgl := hd.gl
  have hvo := hd.vo (q1 : Int) hpo.to_
  have hck := hd.ck (q1 : Int) hpo.to_
  simp only at hb
  have hf0 : 0 ≤ p0 ∧ p0 < 64 := ⟨hpo.fr.1, by have := hpo.fr.2; simp only at this; omega⟩
  have hma : maya t d r (s.vo (q1 : Int)).f1 (s.vo (q1 : Int)).f2 (s.vo (q1 : Int)).f3 p0 (s.clk (q1 : Int)) := by
    obtain ⟨m1, m2, m3, m4, m5, m6, m7⟩ := hm
    obtain ⟨o1, o2, o3, o4⟩ := hvo
    refine ⟨⟨m1, m2, m3, m4, m5, m6, m7⟩, ⟨?_, by omega, by omega, by omega, by omega⟩, hf0, by omega, by omega⟩
    rcases o1 with o1 | o1
    · exact .inl o1
    · unfold isn at o1
      exact .inr (by omega)
  have hask := ask_ok (E := (s.vo (q1 : Int)).f0) (epoch := p2) hma
  rw [hb] at hask
  simp only [if_true] at hask
  have HASK := Lib.hid hask
  have HH := Lib.hid h
  have HU := Lib.hid hu
  have HP := Lib.hid hp
  have HJ := Lib.hid hjj
  have HD := Lib.hid hd
  have HO := Lib.hid hpo
  have HB := Lib.hid hb
  have HPM := Lib.hid hpm
  clear h hd hpo hu hp hjj hask hma hb hvo hck hf0 hpm
  go_enter Try.func61, Try.ntmps61
  go_upto_region 1 with (fail)
  refine wp_gen (fun W1 => Ent w0 B W tag t d r _ s true W.heap.size (W.heap.size + 1) W1) (Ent.start HH.out t d r true) ?_
  intro W1 hE
  generalize W.heap.size + 1 = gs at hE ⊢
  generalize W.heap.size = gw at hE ⊢
  obtain ⟨gr, cr, er, _, lr, tr, hr⟩ := hE.nw.row_r (by omega)
  obtain ⟨gu, cu, eu, _, lu, tu, hu2⟩ := hE.nw.row_u (by omega)
  obtain ⟨gv, cv, ev, _, lv, tv, hv⟩ := hE.nw.row_v (by omega)
  obtain ⟨gc, cc, ec, _, lc, tc, hc⟩ := hE.nw.row_c (by omega)
  obtain ⟨⟨x0, x1, x2, x3, x4⟩, hxf⟩ := hr j hjl
  obtain ⟨y0, y1⟩ := hu2 q1 hq1
  obtain ⟨⟨v0, v1, v2, v3⟩, vf⟩ := hv q1 hq1v
  obtain ⟨t0_, t1_⟩ := hc q1 hq1c
  have ev0 : s.votes.getD q1 z38 = s.vo (q1 : Int) := by unfold St.vo; rw [Int.toNat_natCast]
  have ec0 : s.clock.getD q1 0 = s.clk (q1 : Int) := by unfold St.clk; rw [Int.toNat_natCast]
  have hu := HU.out
  unfold St.isup at hu
  simp only [Int.toNat_natCast] at hu
  rw [hu] at y0
  rw [HP.out] at x0 x1 x2 x3 x4
  rw [ev0] at v0 v1 v2 v3
  rw [ec0] at t0_
  injection er with er _ er3
  injection eu with eu _ eu3
  injection ev with ev _ ev3
  injection ec with ec _ ec3
  subst er eu ev ec er3 eu3 ev3 ec3
  obtain ⟨z0, z1, z2, z3, z4, z5, z6, z7, z8, z9, z10, z11, z12⟩ := nblk_cells hE.bw
  have zf := fun o => blk_frozen hE.bw o
  have lw := blk_lt hE.bw
  have HE := Lib.hid hE
  have hjl2 : (j : Int) < (s.reqs.length : Int) := by omega
  have hj0 : (0 : Int) ≤ (j : Int) := by omega
  have hq2 : (q1 : Int) < (s.up.length : Int) := by omega
  have hq3 : (q1 : Int) < (s.votes.length : Int) := by omega
  have hq4 : (q1 : Int) < (s.clock.length : Int) := by omega
  have hq0 : (0 : Int) ≤ (q1 : Int) := by omega
  have hll : (s.reqs.length : Int) ≤ 450 := by omega
  have hl0 : (0 : Int) < (s.reqs.length : Int) := by omega
  clear hE hr hu2 hu hv hc ev0 ec0
  obtain ⟨vE, hvE⟩ : ∃ y, y = s.vo (q1 : Int) := ⟨_, rfl⟩
  obtain ⟨vC, hvC⟩ : ∃ y, y = s.clk (q1 : Int) := ⟨_, rfl⟩
  have HVE := Lib.hid hvE
  have HVC := Lib.hid hvC
  rw [← hvE] at v0 v1 v2 v3
  rw [← hvC] at t0_
  have hask2 := HASK.out
  rw [← hvE, ← hvC] at hask2
  clear hvE hvC
  obtain ⟨e0, e1, e2, e3⟩ := vE
  simp only at hask2
  have HASK2 := Lib.hid hask2
  clear hask2
  go_wp2_with fail
  have hne : s.reqs ≠ [] := by intro e; rw [e] at hl0; simp at hl0
  have htm : Int.tmod k (s.reqs.length : Int) = (j : Int) := by rw [Int.tmod_eq_emod_of_nonneg hk.1]; exact HJ.out
  have hwj : IntKind.i64.wrap (j : Int) = (j : Int) := by simp [IntKind.wrap, IntKind.bits, IntKind.signed]; omega
  go_region
  clear htm hwj
  go_upto_region 5 with (fail)
  go_cut [8, 9, 10] (fun s8 s9 s10 wx => s9 = .bool false ∧ s10 = .int .i64 0 ∧ ∃ gb : Nat, s8 = .pointer (some ⟨gb, 0, none⟩) ∧ Mid w0 B W tag t d r ⟨raw, .slice (some ⟨gc, 0, none⟩) s.clock.length c1, .slice A2 s.life.length c2, .slice (some ⟨gu, 0, none⟩) s.up.length c3, .slice (some ⟨gv, 0, none⟩) s.votes.length c4, .slice A5 s.leads.length c5, .slice (some ⟨gr, 0, none⟩) s.reqs.length c6, .slice A7 s.grs.length c7, .slice A8 s.beats.length c8⟩ s gw gs ⟨p0, (q1 : Int), p2, p3, p4⟩ ⟨e0, e1, e2, e3⟩ W1.heap.size gb wx)
  case first =>
    have gw1 : gw < W1.heap.size + 1 := by omega
    have gv1 : gv < W1.heap.size + 1 := by omega
    have gc1 : gc < W1.heap.size + 1 := by omega
    clear x0 x1 x2 x3 x4 hxf y0 y1 z4 z5 z7 z8 z9 z10 z11 z12 zf t1_ vf hne hjl2 hj0 hll hl0 hrl hjl
    have gw2 : gw < W1.heap.size + 1 + 1 := by omega
    have gv2 : gv < W1.heap.size + 1 + 1 := by omega
    have gc2 : gc < W1.heap.size + 1 + 1 := by omega
    have gwn0 : W1.heap.size + 1 ≠ gw := by omega
    have gwn1 : gw ≠ W1.heap.size + 1 := by omega
    have gwn2 : W1.heap.size ≠ gw := by omega
    have gwn3 : gw ≠ W1.heap.size := by omega
    have gvn0 : W1.heap.size + 1 ≠ gv := by omega
    have gvn1 : gv ≠ W1.heap.size + 1 := by omega
    have gvn2 : W1.heap.size ≠ gv := by omega
    have gvn3 : gv ≠ W1.heap.size := by omega
    have gcn0 : W1.heap.size + 1 ≠ gc := by omega
    have gcn1 : gc ≠ W1.heap.size + 1 := by omega
    have gcn2 : W1.heap.size ≠ gc := by omega
    have gcn3 : gc ≠ W1.heap.size := by omega
    have gp1 : W1.heap.size < W1.heap.size + 1 := by omega
    have gp2 : W1.heap.size < W1.heap.size + 1 + 1 := by omega
    go_region_held3 (fun w' => w'.cell? ⟨gw, 0, none⟩ = some (.int .i64 t) ∧ w'.cell? ⟨gw, 1, none⟩ = some (.int .i64 d) ∧ w'.cell? ⟨gw, 2, none⟩ = some (.int .i64 r) ∧ w'.cell? ⟨gw, 3, none⟩ = some (.slice (some ⟨gc, 0, none⟩) s.clock.length c1) ∧ w'.cell? ⟨gw, 6, none⟩ = some (.slice (some ⟨gv, 0, none⟩) s.votes.length c4) ∧ w'.cell? ⟨gv, q1 * 4, none⟩ = some (.int .u64 e0) ∧ w'.cell? ⟨gv, q1 * 4 + 1, none⟩ = some (.int .i64 e1) ∧ w'.cell? ⟨gv, q1 * 4 + 2, none⟩ = some (.int .i64 e2) ∧ w'.cell? ⟨gv, q1 * 4 + 3, none⟩ = some (.int .i64 e3) ∧ w'.cell? ⟨gc, q1, none⟩ = some (.int .i64 vC) ∧ w'.cell? ⟨W1.heap.size, 0, none⟩ = some (.int .i64 p0) ∧ w'.cell? ⟨W1.heap.size, 1, none⟩ = some (.int .i64 (q1 : Int)) ∧ w'.cell? ⟨W1.heap.size, 2, none⟩ = some (.int .u64 p2)) (go_keep)
      (first | (go_at_call 18
                refine (vote_Ask.calls _ _ _ _ _ _ _ _ _ _ _ _ _ _ _ _ _ HASK2.out).mono ?_
                rintro e w1 ⟨rfl, hb⟩
                obtain ⟨hcc, hff⟩ := bcell hb
                have HB2 := Lib.hid hb
                clear hb))
    all_goals (go_wp2; go_meet; case rel => exact ⟨rfl, rfl, _, rfl, by first | exact Mid.late HE.out HB2.out | exact Mid.early HE.out HB2.out⟩)
  case rest =>
    obtain ⟨rfl, rfl, gb, rfl, hM⟩ := hcut
    generalize W1.heap.size = gp at hM ⊢
    clear x0 x1 x2 x3 x4 hxf y0 y1 z0 z1 z2 z3 z4 z5 z6 z7 z8 z9 z10 z11 z12 zf t1_ vf hne hjl2 hj0 hll hl0 hrl hjl
    obtain ⟨z0, z1, z2, z3, z4, z5, z6, z7, z8, z9, z10, z11, z12⟩ := nblk_cells hM.bw
    have zf := fun o => blk_frozen hM.bw o
    have HM := Lib.hid hM
    clear hM z0 z1 z2 z3 z4 z5 z6 z7 z8 z9 z10 z11 v0 v1 v2 v3 t0_
    go_upto_region 7 with (fail)
    refine wp_gen (fun W4 => Mid w0 B W tag t d r _ s gw gs ⟨p0, (q1 : Int), p2, p3, p4⟩ ⟨e0, e1, e2, e3⟩ gp gb W4) HM.out.ok12 ?_
    intro W4 hM
    clear z12 zf
    obtain ⟨z0, z1, z2, z3, z4, z5, z6, z7, z8, z9, z10, z11, z12⟩ := nblk_cells hM.bw
    have hp1 : W4.cell? ⟨gp, 1, none⟩ = some (.int .i64 (q1 : Int)) := (blk_cell hM.bp 1).trans rfl
    have hb0 : W4.cell? ⟨gb, 0, none⟩ = some (.int .u64 (⟨e0, e1, e2, e3⟩ : S38).f0) := (blk_cell hM.bb 0).trans rfl
    have hb1 : W4.cell? ⟨gb, 1, none⟩ = some (.int .i64 (⟨e0, e1, e2, e3⟩ : S38).f1) := (blk_cell hM.bb 1).trans rfl
    have hb2 : W4.cell? ⟨gb, 2, none⟩ = some (.int .i64 (⟨e0, e1, e2, e3⟩ : S38).f2) := (blk_cell hM.bb 2).trans rfl
    have hb3 : W4.cell? ⟨gb, 3, none⟩ = some (.int .i64 (⟨e0, e1, e2, e3⟩ : S38).f3) := (blk_cell hM.bb 3).trans rfl
    simp only at hb0 hb1 hb2 hb3
    obtain ⟨gv', cv', ev, _, _, tv', hv⟩ := hM.nw.row_v (by omega)
    injection ev with ev ev2 ev3
    injection ev with ev
    injection ev with ev
    subst ev ev3
    obtain ⟨⟨v0, v1, v2, v3⟩, vf⟩ := hv q1 (by omega)
    have vf0 := vf 0
    have vf1 := vf 1
    have vf2 := vf 2
    have vf3 := vf 3
    rw [Nat.add_zero] at vf0
    have HM2 := Lib.hid hM
    have HTV := Lib.hid tv'
    clear hM hv z0 z1 z2 z3 z4 z5 z7 z8 z9 z10 z11 z12 vf ev2
    go_upto_region 8 with (fail)
    refine wp_gen (fun W5 => Mid w0 B W tag t d r _ { s with votes := s.votes.set q1 ⟨e0, e1, e2, e3⟩ } gw gs ⟨p0, (q1 : Int), p2, p3, p4⟩ ⟨e0, e1, e2, e3⟩ gp gb W5) (HM2.out.vote rfl HTV.out q1 (by omega) ⟨e0, e1, e2, e3⟩) ?_
    intro W5 hM
    have hv5 := HVE.out
    have hs5 : { s with votes := s.votes.set q1 ⟨e0, e1, e2, e3⟩ } = s := by
      rw [hv5]
      unfold St.vo
      rw [Int.toNat_natCast, set_same]
    rw [hs5] at hM
    have HM5 := Lib.hid hM
    clear hM hv5 hs5
    go_upto_region 17 with (fail)
    refine reg_ret 141 (gw := gw) (gs := gs) (by rfl) (by rfl) (by rfl) (by rfl) (by rfl) (by rfl) (by rfl) (by rfl) (by rfl) HM5.out.bw HM5.out.bs (by rfl) (by rfl) (by simp [Value.oneCell']) ?_
    go_wp2
    exact fin_ret (by rfl) (by rfl) (by rfl) HM5.out.bs .none_ HM5.out.nw HM5.out.ts HM5.out.hs (Nat.le_trans HM5.out.b0 HM5.out.hs)
set_option maxHeartbeats 2000000 in
theorem comes_yes (w0 : World) (B : Nat) (W : World) (tag : Nat → Nat) (x : NV) (s : St) (t d r : Int) (n i : Nat) (h : Nw w0 B W tag W tag x s) (hd : Bd t n i s) (hi : i < 90) (hn : 2 ≤ n ∧ n ≤ 5) (hm : mayt t d r) (k : Int) (hk : 0 ≤ k ∧ k ≤ 70000) (p : Pap) (j : Nat) (hjl : j < s.reqs.length) (hjj : k % (s.reqs.length : Int) = (j : Int)) (hp : s.reqs.getD j z116 = p) (hu : s.isup p.f1 = true) (hb : bars (s.vo p.f1).f0 (s.vo p.f1).f1 (s.vo p.f1).f2 (s.vo p.f1).f3 p.f0 p.f2 (s.clk p.f1) = false) : Calls Try.prog 61 #[.agg #[.int .i64 t, .int .i64 d, .int .i64 r, x.c, x.l, x.u, x.v, x.d, x.r, x.g, x.b, .int .u64 s.top, .bool true], .int .i64 k, .bool true] W (Pst w0 B W tag t d r n s) := by
  obtain ⟨A1, A2, A3, A4, A5, A6, A7, A8, c1, c2, c3, c4, c5, c6, c7, c8, hx⟩ := h.open
  obtain ⟨raw, vc, vl, vu, vv, vd, vr, vg, vb⟩ := x
  injection hx with hx0 hx1 hx2 hx3 hx4 hx5 hx6 hx7 hx8
  subst hx1 hx2 hx3 hx4 hx5 hx6 hx7 hx8
  clear hx0
  have hu80 := Try.underlying80
  have hu116 := Try.underlying116
  have hu38 := Try.underlying38
  have hu23 := Try.underlying23
  have hpm : p ∈ s.reqs := by rw [← hp]; simp [hjl]
  have hpo : Okp n i p := hd.rq p hpm
  obtain ⟨p0, p1, p2, p3, p4⟩ := p
  obtain ⟨q1, rfl⟩ := Int.eq_ofNat_of_zero_le (show 0 ≤ p1 from hpo.to_.1)
  have hq1 : q1 < s.up.length := by have := hpo.to_.2; simp only at this; rw [hd.lu]; omega
  have hq1v : q1 < s.votes.length := by have := hpo.to_.2; simp only at this; rw [hd.lv]; omega
  have hq1c : q1 < s.clock.length := by have := hpo.to_.2; simp only at this; rw [hd.lc]; omega
  have hrl := hd.rl
  have hgl := hd.gl
  have hvo := hd.vo (q1 : Int) hpo.to_
  have hck := hd.ck (q1 : Int) hpo.to_
  simp only at hb
  have hf0 : 0 ≤ p0 ∧ p0 < 64 := ⟨hpo.fr.1, by have := hpo.fr.2; simp only at this; omega⟩
  have hma : maya t d r (s.vo (q1 : Int)).f1 (s.vo (q1 : Int)).f2 (s.vo (q1 : Int)).f3 p0 (s.clk (q1 : Int)) := by
    obtain ⟨m1, m2, m3, m4, m5, m6, m7⟩ := hm
    obtain ⟨o1, o2, o3, o4⟩ := hvo
    refine ⟨⟨m1, m2, m3, m4, m5, m6, m7⟩, ⟨?_, by omega, by omega, by omega, by omega⟩, hf0, by omega, by omega⟩
    rcases o1 with o1 | o1
    · exact .inl o1
    · unfold isn at o1
      exact .inr (by omega)
  have hask := ask_ok (E := (s.vo (q1 : Int)).f0) (epoch := p2) hma
  rw [hb] at hask
  simp only [Bool.false_eq_true, if_false] at hask
  rw [w64_id _ (by have := hm.2.1; have := hm.1; omega) (by have := hm.2.1; omega)] at hask
  have HASK := Lib.hid hask
  have HH := Lib.hid h
  have HU := Lib.hid hu
  have HP := Lib.hid hp
  have HJ := Lib.hid hjj
  have HD := Lib.hid hd
  have HO := Lib.hid hpo
  have HB := Lib.hid hb
  have HPM := Lib.hid hpm
  clear h hd hpo hu hp hjj hask hma hb hvo hck hf0 hpm
  go_enter Try.func61, Try.ntmps61
  go_upto_region 1 with (fail)
  refine wp_gen (fun W1 => Ent w0 B W tag t d r _ s true W.heap.size (W.heap.size + 1) W1) (Ent.start HH.out t d r true) ?_
  intro W1 hE
  generalize W.heap.size + 1 = gs at hE ⊢
  generalize W.heap.size = gw at hE ⊢
  obtain ⟨gr, cr, er, _, lr, tr, hr⟩ := hE.nw.row_r (by omega)
  obtain ⟨gu, cu, eu, _, lu, tu, hu2⟩ := hE.nw.row_u (by omega)
  obtain ⟨gv, cv, ev, _, lv, tv, hv⟩ := hE.nw.row_v (by omega)
  obtain ⟨gc, cc, ec, _, lc, tc, hc⟩ := hE.nw.row_c (by omega)
  obtain ⟨⟨x0, x1, x2, x3, x4⟩, hxf⟩ := hr j hjl
  obtain ⟨y0, y1⟩ := hu2 q1 hq1
  obtain ⟨⟨v0, v1, v2, v3⟩, vf⟩ := hv q1 hq1v
  obtain ⟨t0_, t1_⟩ := hc q1 hq1c
  have ev0 : s.votes.getD q1 z38 = s.vo (q1 : Int) := by unfold St.vo; rw [Int.toNat_natCast]
  have ec0 : s.clock.getD q1 0 = s.clk (q1 : Int) := by unfold St.clk; rw [Int.toNat_natCast]
  have hu := HU.out
  unfold St.isup at hu
  simp only [Int.toNat_natCast] at hu
  rw [hu] at y0
  rw [HP.out] at x0 x1 x2 x3 x4
  rw [ev0] at v0 v1 v2 v3
  rw [ec0] at t0_
  injection er with er _ er3
  injection eu with eu _ eu3
  injection ev with ev _ ev3
  injection ec with ec _ ec3
  subst er eu ev ec er3 eu3 ev3 ec3
  obtain ⟨z0, z1, z2, z3, z4, z5, z6, z7, z8, z9, z10, z11, z12⟩ := nblk_cells hE.bw
  have zf := fun o => blk_frozen hE.bw o
  have lw := blk_lt hE.bw
  have HE := Lib.hid hE
  have hjl2 : (j : Int) < (s.reqs.length : Int) := by omega
  have hj0 : (0 : Int) ≤ (j : Int) := by omega
  have hq2 : (q1 : Int) < (s.up.length : Int) := by omega
  have hq3 : (q1 : Int) < (s.votes.length : Int) := by omega
  have hq4 : (q1 : Int) < (s.clock.length : Int) := by omega
  have hq0 : (0 : Int) ≤ (q1 : Int) := by omega
  have hll : (s.reqs.length : Int) ≤ 450 := by omega
  have hl0 : (0 : Int) < (s.reqs.length : Int) := by omega
  clear hE hr hu2 hu hv hc ev0 ec0
  obtain ⟨vE, hvE⟩ : ∃ y, y = s.vo (q1 : Int) := ⟨_, rfl⟩
  obtain ⟨vC, hvC⟩ : ∃ y, y = s.clk (q1 : Int) := ⟨_, rfl⟩
  have HVE := Lib.hid hvE
  have HVC := Lib.hid hvC
  rw [← hvE] at v0 v1 v2 v3
  rw [← hvC] at t0_
  have hask2 := HASK.out
  rw [← hvE, ← hvC] at hask2
  clear hvE hvC
  obtain ⟨e0, e1, e2, e3⟩ := vE
  simp only at hask2
  have HASK2 := Lib.hid hask2
  clear hask2
  go_wp2_with fail
  have hne : s.reqs ≠ [] := by intro e; rw [e] at hl0; simp at hl0
  have htm : Int.tmod k (s.reqs.length : Int) = (j : Int) := by rw [Int.tmod_eq_emod_of_nonneg hk.1]; exact HJ.out
  have hwj : IntKind.i64.wrap (j : Int) = (j : Int) := by simp [IntKind.wrap, IntKind.bits, IntKind.signed]; omega
  go_region
  clear htm hwj
  go_upto_region 5 with (fail)
  go_cut [8, 9, 10] (fun s8 s9 s10 wx => s9 = .bool true ∧ s10 = .int .i64 0 ∧ ∃ gb : Nat, s8 = .pointer (some ⟨gb, 0, none⟩) ∧ Mid w0 B W tag t d r ⟨raw, .slice (some ⟨gc, 0, none⟩) s.clock.length c1, .slice A2 s.life.length c2, .slice (some ⟨gu, 0, none⟩) s.up.length c3, .slice (some ⟨gv, 0, none⟩) s.votes.length c4, .slice A5 s.leads.length c5, .slice (some ⟨gr, 0, none⟩) s.reqs.length c6, .slice A7 s.grs.length c7, .slice A8 s.beats.length c8⟩ s gw gs ⟨p0, (q1 : Int), p2, p3, p4⟩ ⟨p2, p0, vC + t, e3⟩ W1.heap.size gb wx)
  case first =>
    have gw1 : gw < W1.heap.size + 1 := by omega
    have gv1 : gv < W1.heap.size + 1 := by omega
    have gc1 : gc < W1.heap.size + 1 := by omega
    clear x0 x1 x2 x3 x4 hxf y0 y1 z4 z5 z7 z8 z9 z10 z11 z12 zf t1_ vf hne hjl2 hj0 hll hl0 hrl hjl
    have gw2 : gw < W1.heap.size + 1 + 1 := by omega
    have gv2 : gv < W1.heap.size + 1 + 1 := by omega
    have gc2 : gc < W1.heap.size + 1 + 1 := by omega
    have gwn0 : W1.heap.size + 1 ≠ gw := by omega
    have gwn1 : gw ≠ W1.heap.size + 1 := by omega
    have gwn2 : W1.heap.size ≠ gw := by omega
    have gwn3 : gw ≠ W1.heap.size := by omega
    have gvn0 : W1.heap.size + 1 ≠ gv := by omega
    have gvn1 : gv ≠ W1.heap.size + 1 := by omega
    have gvn2 : W1.heap.size ≠ gv := by omega
    have gvn3 : gv ≠ W1.heap.size := by omega
    have gcn0 : W1.heap.size + 1 ≠ gc := by omega
    have gcn1 : gc ≠ W1.heap.size + 1 := by omega
    have gcn2 : W1.heap.size ≠ gc := by omega
    have gcn3 : gc ≠ W1.heap.size := by omega
    have gp1 : W1.heap.size < W1.heap.size + 1 := by omega
    have gp2 : W1.heap.size < W1.heap.size + 1 + 1 := by omega
    go_region_held3 (fun w' => w'.cell? ⟨gw, 0, none⟩ = some (.int .i64 t) ∧ w'.cell? ⟨gw, 1, none⟩ = some (.int .i64 d) ∧ w'.cell? ⟨gw, 2, none⟩ = some (.int .i64 r) ∧ w'.cell? ⟨gw, 3, none⟩ = some (.slice (some ⟨gc, 0, none⟩) s.clock.length c1) ∧ w'.cell? ⟨gw, 6, none⟩ = some (.slice (some ⟨gv, 0, none⟩) s.votes.length c4) ∧ w'.cell? ⟨gv, q1 * 4, none⟩ = some (.int .u64 e0) ∧ w'.cell? ⟨gv, q1 * 4 + 1, none⟩ = some (.int .i64 e1) ∧ w'.cell? ⟨gv, q1 * 4 + 2, none⟩ = some (.int .i64 e2) ∧ w'.cell? ⟨gv, q1 * 4 + 3, none⟩ = some (.int .i64 e3) ∧ w'.cell? ⟨gc, q1, none⟩ = some (.int .i64 vC) ∧ w'.cell? ⟨W1.heap.size, 0, none⟩ = some (.int .i64 p0) ∧ w'.cell? ⟨W1.heap.size, 1, none⟩ = some (.int .i64 (q1 : Int)) ∧ w'.cell? ⟨W1.heap.size, 2, none⟩ = some (.int .u64 p2)) (go_keep)
      (first | (go_at_call 18
                refine (vote_Ask.calls _ _ _ _ _ _ _ _ _ _ _ _ _ _ _ _ _ HASK2.out).mono ?_
                rintro e w1 ⟨rfl, hb⟩
                obtain ⟨hcc, hff⟩ := bcell hb
                have HB2 := Lib.hid hb
                clear hb))
    all_goals (go_wp2; go_meet; case rel => exact ⟨rfl, rfl, _, rfl, by first | exact Mid.late HE.out HB2.out | exact Mid.early HE.out HB2.out⟩)
  case rest =>
    obtain ⟨rfl, rfl, gb, rfl, hM⟩ := hcut
    generalize W1.heap.size = gp at hM ⊢
    clear x0 x1 x2 x3 x4 hxf y0 y1 z0 z1 z2 z3 z4 z5 z6 z7 z8 z9 z10 z11 z12 zf t1_ vf hne hjl2 hj0 hll hl0 hrl hjl
    obtain ⟨z0, z1, z2, z3, z4, z5, z6, z7, z8, z9, z10, z11, z12⟩ := nblk_cells hM.bw
    have zf := fun o => blk_frozen hM.bw o
    have HM := Lib.hid hM
    clear hM z0 z1 z2 z3 z4 z5 z6 z7 z8 z9 z10 z11 v0 v1 v2 v3 t0_
    go_upto_region 7 with (fail)
    refine wp_gen (fun W4 => Mid w0 B W tag t d r _ s gw gs ⟨p0, (q1 : Int), p2, p3, p4⟩ ⟨p2, p0, vC + t, e3⟩ gp gb W4) HM.out.ok12 ?_
    intro W4 hM
    clear z12 zf
    obtain ⟨z0, z1, z2, z3, z4, z5, z6, z7, z8, z9, z10, z11, z12⟩ := nblk_cells hM.bw
    have hp1 : W4.cell? ⟨gp, 1, none⟩ = some (.int .i64 (q1 : Int)) := (blk_cell hM.bp 1).trans rfl
    have hb0 : W4.cell? ⟨gb, 0, none⟩ = some (.int .u64 (⟨p2, p0, vC + t, e3⟩ : S38).f0) := (blk_cell hM.bb 0).trans rfl
    have hb1 : W4.cell? ⟨gb, 1, none⟩ = some (.int .i64 (⟨p2, p0, vC + t, e3⟩ : S38).f1) := (blk_cell hM.bb 1).trans rfl
    have hb2 : W4.cell? ⟨gb, 2, none⟩ = some (.int .i64 (⟨p2, p0, vC + t, e3⟩ : S38).f2) := (blk_cell hM.bb 2).trans rfl
    have hb3 : W4.cell? ⟨gb, 3, none⟩ = some (.int .i64 (⟨p2, p0, vC + t, e3⟩ : S38).f3) := (blk_cell hM.bb 3).trans rfl
    simp only at hb0 hb1 hb2 hb3
    obtain ⟨gv', cv', ev, _, _, tv', hv⟩ := hM.nw.row_v (by omega)
    injection ev with ev ev2 ev3
    injection ev with ev
    injection ev with ev
    subst ev ev3
    obtain ⟨⟨v0, v1, v2, v3⟩, vf⟩ := hv q1 (by omega)
    have vf0 := vf 0
    have vf1 := vf 1
    have vf2 := vf 2
    have vf3 := vf 3
    rw [Nat.add_zero] at vf0
    have HM2 := Lib.hid hM
    have HTV := Lib.hid tv'
    clear hM hv z0 z1 z2 z3 z4 z5 z7 z8 z9 z10 z11 z12 vf ev2
    go_upto_region 8 with (fail)
    refine wp_gen (fun W5 => Mid w0 B W tag t d r _ { s with votes := s.votes.set q1 ⟨p2, p0, vC + t, e3⟩ } gw gs ⟨p0, (q1 : Int), p2, p3, p4⟩ ⟨p2, p0, vC + t, e3⟩ gp gb W5) (HM2.out.vote rfl HTV.out q1 (by omega) ⟨p2, p0, vC + t, e3⟩) ?_
    intro W5 hM
    obtain ⟨z0, z1, z2, z3, z4, z5, z6, z7, z8, z9, z10, z11, z12⟩ := nblk_cells hM.bw
    have zf := fun o => blk_frozen hM.bw o
    have hp0 : W5.cell? ⟨gp, 0, none⟩ = some (.int .i64 p0) := (blk_cell hM.bp 0).trans rfl
    have hp1 : W5.cell? ⟨gp, 1, none⟩ = some (.int .i64 (q1 : Int)) := (blk_cell hM.bp 1).trans rfl
    have hp2 : W5.cell? ⟨gp, 2, none⟩ = some (.int .u64 p2) := (blk_cell hM.bp 2).trans rfl
    have hp3 : W5.cell? ⟨gp, 3, none⟩ = some (.int .i64 p3) := (blk_cell hM.bp 3).trans rfl
    have hp4 : W5.cell? ⟨gp, 4, none⟩ = some (.int .i64 p4) := (blk_cell hM.bp 4).trans rfl
    have HM5 := Lib.hid hM
    clear hM z0 z1 z2 z3 z4 z5 z6 z7 z8 z10 z11 z12
    go_upto_region 9 with (fail)
    go_cut [] (fun wx => ∃ (An : Option Addr) (cn : Nat) (tag' : Nat → Nat), Nw w0 B W tag wx tag' ⟨raw, .slice (some ⟨gc, 0, none⟩) s.clock.length c1, .slice A2 s.life.length c2, .slice (some ⟨gu, 0, none⟩) s.up.length c3, .slice (some ⟨gv, 0, none⟩) s.votes.length c4, .slice A5 s.leads.length c5, .slice (some ⟨gr, 0, none⟩) s.reqs.length c6, .slice An (s.grs.length + 1) cn, .slice A8 s.beats.length c8⟩ { s with votes := s.votes.set q1 ⟨p2, p0, vC + t, e3⟩, grs := s.grs ++ [⟨p0, (q1 : Int), p2, p3, p4⟩] } ∧ wx.heap[gw]? = some (nblk t d r ⟨raw, .slice (some ⟨gc, 0, none⟩) s.clock.length c1, .slice A2 s.life.length c2, .slice (some ⟨gu, 0, none⟩) s.up.length c3, .slice (some ⟨gv, 0, none⟩) s.votes.length c4, .slice A5 s.leads.length c5, .slice (some ⟨gr, 0, none⟩) s.reqs.length c6, .slice An (s.grs.length + 1) cn, .slice A8 s.beats.length c8⟩ s.top true) ∧ wx.heap[gs]? = some zblk ∧ tag' gs = 0)
    case first =>
      go_wp2_with ((with_reducible refine gate_builtin (b := .append) (xs := #[.tmp 76, .tmp 78]) rfl ?_)
                   at_builtin
                   refine Kd.R_append k116 (w0 := w0) (W := W5) B rfl (.tmp 76) (.tmp 78) 77 116 (.agg #[.int .i64 0, .int .i64 0, .int .u64 0, .int .i64 0, .int .i64 0]) 40 rfl Try.underlying77 info116 rfl (by decide) (by omega) (.slice A7 s.grs.length c7) s.grs ⟨p0, (q1 : Int), p2, p3, p4⟩ [.int .i64 p0, .int .i64 (q1 : Int), .int .u64 p2, .int .i64 p3, .int .i64 p4] (fun k => tag k = 7 ∨ W5.heap.size ≤ k) (fun _ => False) rfl rfl (k116_mkM _ _ _ ⟨p0, (q1 : Int), p2, p3, p4⟩) (fun _ hk => hk.elim) (fun k hk => .inr hk) (Kd.R_mono HM5.out.nw.g (fun k hk => .inl hk)) HM5.out.nw.bel HM5.out.nw.base (by omega) ?_
                   intro vn wn hR hBn hG hat
                   obtain ⟨An, cn, hvn⟩ := Kd.R_slice hR
                   rw [List.length_append, List.length_singleton] at hvn
                   subst hvn
                   obtain ⟨⟨hc9, hf9⟩, hF⟩ := HM5.out.app hR hBn hG
                   have HF := Lib.hid hF
                   clear hF hR hBn hG hat)
      go_meet
      case rel => exact ⟨An, cn, _, HF.out⟩
    case rest =>
      obtain ⟨An, cn, tag', h6, hbw, hbs, ht6⟩ := hcut
      have e6 : { s with votes := s.votes.set q1 ⟨p2, p0, vC + t, e3⟩, grs := s.grs ++ [⟨p0, (q1 : Int), p2, p3, p4⟩] } = s.grant t ⟨p0, (q1 : Int), p2, p3, p4⟩ := by
        have h3 := HVE.out
        have h4 := HVC.out
        have h5 : e3 = (s.vo (q1 : Int)).f3 := by rw [← h3]
        unfold St.grant
        simp only [Int.toNat_natCast]
        rw [h4, h5]
      rw [e6] at h6
      have H6 := Lib.hid h6
      have HBW := Lib.hid hbw
      have HBS := Lib.hid hbs
      have HT6 := Lib.hid ht6
      clear h6 hbw hbs ht6 e6
      go_upto_region 17 with (fail)
      refine reg_ret 141 (gw := gw) (gs := gs) (by rfl) (by rfl) (by rfl) (by rfl) (by rfl) (by rfl) (by rfl) (by rfl) (by rfl) HBW.out HBS.out (by rfl) (by rfl) (by simp [Value.oneCell']) ?_
      go_wp2
      exact fin_ret (by rfl) (by rfl) (by rfl) HBS.out (.grant _ HPM.out HU.out HB.out) H6.out HT6.out HM5.out.hs (Nat.le_trans HM5.out.b0 HM5.out.hs)
end Go.Proofs.Ytgfblogneggpmaa.One
namespace Go.Proofs.Ytgfblogneggpmaa.One
open Go.RowKit Go.Proofs.Ytgfblogneggpmaa.Fn Go.Proofs.YtgfblogneggpmaaW.PrintWords Go.Proofs.YtgfblogneggpmaaW.PrintLast Go.Proofs.YtgfblogneggpmaaW.PrintMore Go.Proofs.Ytgfblogneggpmaa.Vote Go.Proofs.Ytgfblogneggpmaa.Clk Go.Proofs.Ytgfblogneggpmaa.Thr
set_option linter.unusedVariables false
set_option linter.unusedSimpArgs false
set_option maxRecDepth 100000
/-- Amid the walk of a grant: the nodes' block, the result's, the paper's. -/
structure Md (w0 : World) (B : Nat) (W : World) (tag : Nat → Nat) (t d r : Int) (x : NV) (s : St) (gw gs : Nat) (p : Pap) (gp : Nat) (W3 : World) (tag3 : Nat → Nat) : Prop where
  nw : Nw w0 B W tag W3 tag3 x s
  bw : W3.heap[gw]? = some (nblk t d r x s.top true)
  bs : W3.heap[gs]? = some zblk
  bp : W3.heap[gp]? = some (.cells #[.int .i64 p.f0, .int .i64 p.f1, .int .u64 p.f2, .int .i64 p.f3, .int .i64 p.f4] 116 (0, 0))
  ts : tag3 gs = 0
  tw : tag3 gw = 0
  tp : tag3 gp = 0
  hs : W.heap.size ≤ gs
  b0 : B ≤ W.heap.size
section
variable {w0 : World} {B : Nat} {W : World} {tag tag3 : Nat → Nat} {t d r : Int} {x : NV} {s : St} {gw gs gp : Nat} {p : Pap} {W1 W3 w1 : World}
theorem Md.below (h : Md w0 B W tag t d r x s gw gs p gp W3 tag3) (hb : Below W3.heap.size W3 w1) : Md w0 B W tag t d r x s gw gs p gp w1 tag3 :=
  { h with nw := h.nw.below hb, bw := blk_below h.bw hb, bs := blk_below h.bs hb, bp := blk_below h.bp hb }
theorem Md.drew (h : Md w0 B W tag t d r x s gw gs p gp W3 tag3) : Md w0 B W tag t d r x s gw gs p gp W3.drew tag3 := h.below (below_drew (Below.refl _ _))
theorem Md.alloc (h : Md w0 B W tag t d r x s gw gs p gp W3 tag3) (o : Obj) : Md w0 B W tag t d r x s gw gs p gp (W3.alloc o) tag3 := h.below (below_alloc (Below.refl _ _) o)
theorem Md.start (hE : Ent w0 B W tag t d r x s true gw gs W1) (p : Pap) : Md w0 B W tag t d r x s gw gs p W1.heap.size (W1.alloc (.cells #[.int .i64 p.f0, .int .i64 p.f1, .int .u64 p.f2, .int .i64 p.f3, .int .i64 p.f4] 116)).drew tag :=
  have hb : Below W1.heap.size W1 (W1.alloc (.cells #[.int .i64 p.f0, .int .i64 p.f1, .int .u64 p.f2, .int .i64 p.f3, .int .i64 p.f4] 116)) := below_alloc (Below.refl _ _) _
  ⟨(hE.nw.alloc _).drew, blk_drew (blk_below hE.bw hb), blk_drew (blk_below hE.bs hb), blk_drew (blk_new W1 _), hE.ts, hE.tw, hE.nw.fresh _ (Nat.le_refl _), hE.s_, hE.b0⟩
/-- Behind the call: what it made is of kind 9. -/
theorem Md.called (h : Md w0 B W tag t d r x s gw gs p gp W3 tag3) (hb : Below W3.heap.size W3 w1) : Md w0 B W tag t d r x s gw gs p gp w1 (ri tag3 W3.heap.size w1.heap.size 9) := by
  have h1 := h.below hb
  have old : ∀ {k : Nat} {o : Obj}, W3.heap[k]? = some o → tag3 k = 0 → ri tag3 W3.heap.size w1.heap.size 9 k = 0 := fun hk ht => by
    unfold ri
    rw [if_neg (fun q => by have := blk_lt hk; omega)]
    exact ht
  exact { h1 with nw := h.nw.retag h1.nw hb.size 9, ts := old h.bs h.ts, tw := old h.bw h.tw, tp := old h.bp h.tp }
theorem called_V {v : Value} {l : List Int} (h : Kd.V (Kd.int .i64) 2 w1 W3.heap.size (fun k => tag3 k = 9 ∨ W3.heap.size ≤ k) v l) : Kd.V (Kd.int .i64) 2 w1 B (fun k => ri tag3 W3.heap.size w1.heap.size 9 k = 9) v l := by
  have h2 : Kd.V (Kd.int .i64) 2 w1 W3.heap.size (fun k => ri tag3 W3.heap.size w1.heap.size 9 k = 9) v l := by
    refine Kd.V_mono (Kd.V_bound h) (fun k hk => ?_)
    unfold ri
    by_cases e : W3.heap.size ≤ k
    · rw [if_pos ⟨e, hk.2⟩]
    · rw [if_neg (fun q => e q.1)]
      omega
  exact h2
/-- .. and with the block of a lead. -/
structure Mg (w0 : World) (B : Nat) (W : World) (tag : Nat → Nat) (t d r : Int) (x : NV) (s : St) (gw gs : Nat) (p : Pap) (gp : Nat) (e : Int) (A : Option Addr) (n c : Nat) (l : List Int) (gb : Nat) (W3 : World) (tag3 : Nat → Nat) : Prop where
  md : Md w0 B W tag t d r x s gw gs p gp W3 tag3
  bb : W3.heap[gb]? = some (.cells #[.int .u64 e, .slice A n c] 52 (0, 0))
  tb : tag3 gb = 0
  v : Kd.V (Kd.int .i64) 2 W3 B (fun k => tag3 k = 9) (.slice A n c) l
variable {e : Int} {A : Option Addr} {n c : Nat} {l : List Int} {gb : Nat}
theorem Mg.late (h : Md w0 B W tag t d r x s gw gs p gp W3 tag3) (hb : Below W3.heap.size W3 w1) (hv : Kd.V (Kd.int .i64) 2 w1 W3.heap.size (fun k => tag3 k = 9 ∨ W3.heap.size ≤ k) (.slice A n c) l) :
    Mg w0 B W tag t d r x s gw gs p gp e A n c l w1.heap.size (w1.alloc (.cells #[.int .u64 e, .slice A n c] 52)) (ri tag3 W3.heap.size w1.heap.size 9) :=
  have h1 := h.called hb
  ⟨h1.alloc _, blk_new w1 _, h1.nw.fresh _ (Nat.le_refl _), Kd.V_alloc (called_V hv) _⟩
theorem Mg.early {Wa : World} (hWa : Wa.heap.size = gb) (h : Md w0 B W tag t d r x s gw gs p gp Wa tag3) (hb : Below ((Wa.alloc (.cells #[.int .u64 0, .slice none 0 0] 52)).drew).heap.size ((Wa.alloc (.cells #[.int .u64 0, .slice none 0 0] 52)).drew) w1) (hv : Kd.V (Kd.int .i64) 2 w1 ((Wa.alloc (.cells #[.int .u64 0, .slice none 0 0] 52)).drew).heap.size (fun k => tag3 k = 9 ∨ ((Wa.alloc (.cells #[.int .u64 0, .slice none 0 0] 52)).drew).heap.size ≤ k) (.slice A n c) l) :
    Mg w0 B W tag t d r x s gw gs p gp e A n c l gb ((w1.setCell ⟨gb, 0, none⟩ (.int .u64 e)).setCell ⟨gb, 1, none⟩ (.slice A n c)) (ri tag3 ((Wa.alloc (.cells #[.int .u64 0, .slice none 0 0] 52)).drew).heap.size w1.heap.size 9) := by
  have h1 := ((h.alloc (.cells #[.int .u64 0, .slice none 0 0] 52)).drew).called hb
  have hz : ((Wa.alloc (.cells #[.int .u64 0, .slice none 0 0] 52)).drew).heap.size = gb + 1 := by simp [hWa]
  have tb : tag3 gb = 0 := h.nw.fresh _ (by omega)
  have tb2 : ri tag3 ((Wa.alloc (.cells #[.int .u64 0, .slice none 0 0] 52)).drew).heap.size w1.heap.size 9 gb = 0 := by
    unfold ri
    rw [if_neg (by omega)]
    exact tb
  have hbb : w1.heap[gb]? = some (.cells #[.int .u64 0, .slice none 0 0] 52 (0, 0)) := by
    have h2 := blk_below (blk_drew (blk_new Wa (.cells #[.int .u64 0, .slice none 0 0] 52))) hb
    rw [hWa] at h2
    exact h2
  have hv2 := called_V (B := B) hv
  have lw := blk_lt h.bw
  have ls := blk_lt h.bs
  have lp := blk_lt h.bp
  have hB : B ≤ gb := by rw [← hWa]; exact h.nw.base
  have h0 : W.heap.size ≤ gb := by rw [← hWa]; exact h.nw.size
  generalize hT : ri tag3 ((Wa.alloc (.cells #[.int .u64 0, .slice none 0 0] 52)).drew).heap.size w1.heap.size 9 = T at *
  have hne : ∀ k, T k = 9 → k ≠ gb := fun k hk q => by rw [q, tb2] at hk; cases hk
  have far : ∀ {g : Nat} {c' : Array Value} {e' : Nat}, g < gb → w1.heap[g]? = some (.cells c' e' (0, 0)) → ((w1.setCell ⟨gb, 0, none⟩ (.int .u64 e)).setCell ⟨gb, 1, none⟩ (.slice A n c)).heap[g]? = some (.cells c' e' (0, 0)) := fun hl hg => blk_far (blk_far hg (fun q => by simp only at q; omega) _) (fun q => by simp only at q; omega) _
  refine ⟨{ h1 with nw := (h1.nw.set0 tb2 h0 hB 0 _).set0 tb2 h0 hB 1 _, bw := far (by omega) h1.bw, bs := far (by omega) h1.bs, bp := far (by omega) h1.bp }, blk_set (blk_set hbb 0 _) 1 _, tb2, ?_⟩
  exact Kd.V_far (p := ⟨gb, 1, none⟩) (Kd.V_far (p := ⟨gb, 0, none⟩) hv2 hne _) hne _
theorem Mg.note (h : Mg w0 B W tag t d r x s gw gs p gp e A n c l gb W3 tag3) {g m c' : Nat} (hx : x.d = .slice (some ⟨g, 0, none⟩) m c') (j : Nat) (hj : j < m) : Md w0 B W tag t d r { x with raw := x.raw.set j (e, A, n, c) } { s with leads := s.leads.set j ⟨e, l⟩ } gw gs p gp (st2 W3 g j e (.slice A n c)) tag3 := by
  have hg : tag3 g = 5 := h.md.nw.d.1 g (by rw [hx]; simp [Value.ownBlock])
  have far : ∀ {k : Nat} {c : Array Value} {e' : Nat} (y : Value), tag3 k = 0 → W3.heap[k]? = some (.cells c e' (0, 0)) → (st2 W3 g j e y).heap[k]? = some (.cells c e' (0, 0)) := fun y ht hb => by
    rename_i k _ _
    have hne : k ≠ g := fun q => by rw [q, hg] at ht; cases ht
    exact blk_far (blk_far hb hne _) hne _
  exact { h.md with nw := h.md.nw.set_d hx j hj e h.v, bw := far _ h.md.tw h.md.bw, bs := far _ h.md.ts h.md.bs, bp := far _ h.md.tp h.md.bp }
end
set_option maxHeartbeats 2000000 in
theorem come_down (w0 : World) (B : Nat) (W : World) (tag : Nat → Nat) (x : NV) (s : St) (t d r : Int) (n i : Nat) (h : Nw w0 B W tag W tag x s) (hd : Bd t n i s) (hi : i < 90) (hn : 2 ≤ n ∧ n ≤ 5) (k : Int) (hk : 0 ≤ k ∧ k ≤ 70000) (p : Pap) (j : Nat) (hjl : j < s.grs.length) (hjj : k % (s.grs.length : Int) = (j : Int)) (hp : s.grs.getD j z116 = p) (hu : s.isup p.f0 = false) : Calls Try.prog 61 #[.agg #[.int .i64 t, .int .i64 d, .int .i64 r, x.c, x.l, x.u, x.v, x.d, x.r, x.g, x.b, .int .u64 s.top, .bool true], .int .i64 k, .bool false] W (Pst w0 B W tag t d r n s) := by
  obtain ⟨A1, A2, A3, A4, A5, A6, A7, A8, c1, c2, c3, c4, c5, c6, c7, c8, hx⟩ := h.open
  obtain ⟨raw, vc, vl, vu, vv, vd, vr, vg, vb⟩ := x
  injection hx with hx0 hx1 hx2 hx3 hx4 hx5 hx6 hx7 hx8
  subst hx1 hx2 hx3 hx4 hx5 hx6 hx7 hx8
  clear hx0
  have hu80 := Try.underlying80
  have hu116 := Try.underlying116
  have hu52 := Try.underlying52
  have hpm : p ∈ s.grs := by rw [← hp]; simp [hjl]
  have hpo : Okp n i p := hd.gr p hpm
  obtain ⟨p0, p1, p2, p3, p4⟩ := p
  obtain ⟨q0, rfl⟩ := Int.eq_ofNat_of_zero_le (show 0 ≤ p0 from hpo.fr.1)
  obtain ⟨q1, rfl⟩ := Int.eq_ofNat_of_zero_le (show 0 ≤ p1 from hpo.to_.1)
  have hq0n : q0 < n := by have := hpo.fr.2; simp only at this; omega
  have hq1n : q1 < n := by have := hpo.to_.2; simp only at this; omega
  have hgl := hd.gl
  have hlu : n ≤ s.up.length := Nat.le_of_eq hd.lu.symm
  have hll : n ≤ s.life.length := Nat.le_of_eq hd.ll.symm
  have hlld : n ≤ s.leads.length := Nat.le_of_eq hd.lld.symm
  have HH := Lib.hid h
  have HP := Lib.hid hp
  have HJ := Lib.hid hjj
  have HD := Lib.hid hd
  have HO := Lib.hid hpo
  have HPM := Lib.hid hpm
  have HU := Lib.hid hu
  clear h hd hpo hp hjj hpm hu
  go_enter Try.func61, Try.ntmps61
  go_upto_region 1 with (fail)
  refine wp_gen (fun W1 => Ent w0 B W tag t d r _ s true W.heap.size (W.heap.size + 1) W1) (Ent.start HH.out t d r true) ?_
  intro W1 hE
  generalize W.heap.size + 1 = gs at hE ⊢
  generalize W.heap.size = gw at hE ⊢
  obtain ⟨gr, cr, er, _, lr, tr, hr⟩ := hE.nw.row_g (by omega)
  obtain ⟨⟨x0, x1, x2, x3, x4⟩, hxf⟩ := hr j hjl
  rw [HP.out] at x0 x1 x2 x3 x4
  injection er with er _ er3
  subst er er3
  obtain ⟨z0, z1, z2, z3, z4, z5, z6, z7, z8, z9, z10, z11, z12⟩ := nblk_cells hE.bw
  have lw := blk_lt hE.bw
  have HE := Lib.hid hE
  have hjl2 : (j : Int) < (s.grs.length : Int) := by omega
  have hj0 : (0 : Int) ≤ (j : Int) := by omega
  have hll9 : (s.grs.length : Int) ≤ 450 := by omega
  have hl0 : (0 : Int) < (s.grs.length : Int) := by omega
  clear hE hr z0 z1 z2 z3 z4 z5 z6 z7 z8 z10 z11 z12
  go_upto_region 11 with (fail)
  have hne : s.grs ≠ [] := by intro e; rw [e] at hl0; simp at hl0
  have htm : Int.tmod k (s.grs.length : Int) = (j : Int) := by rw [Int.tmod_eq_emod_of_nonneg hk.1]; exact HJ.out
  have hwj : IntKind.i64.wrap (j : Int) = (j : Int) := by simp [IntKind.wrap, IntKind.bits, IntKind.signed]; omega
  go_region
  clear htm hwj x0 x1 x2 x3 x4 hxf z9 hne hjl2 hj0 hll9 hl0
  go_upto_region 12 with (fail)
  refine wp_gen (fun W2 => Md w0 B W tag t d r _ s gw gs ⟨(q0 : Int), (q1 : Int), p2, p3, p4⟩ W1.heap.size W2 tag) (Md.start HE.out ⟨(q0 : Int), (q1 : Int), p2, p3, p4⟩) ?_
  intro W2 hM
  generalize W1.heap.size = gp at hM ⊢
  obtain ⟨gu, cu, eu, _, lu, tu, hu2⟩ := hM.nw.row_u (by omega)
  obtain ⟨gl, cl, el, _, ll, tl, hl2⟩ := hM.nw.row_l (by omega)
  obtain ⟨y0, y1⟩ := hu2 q0 (by omega)
  obtain ⟨l0, l1⟩ := hl2 q0 (by omega)
  injection eu with eu _ eu3
  subst eu eu3
  injection el with el _ el3
  subst el el3
  obtain ⟨z0, z1, z2, z3, z4, z5, z6, z7, z8, z9, z10, z11, z12⟩ := nblk_cells hM.bw
  have hp0 : W2.cell? ⟨gp, 0, none⟩ = some (.int .i64 (q0 : Int)) := (blk_cell hM.bp 0).trans rfl
  have hp4 : W2.cell? ⟨gp, 4, none⟩ = some (.int .i64 p4) := (blk_cell hM.bp 4).trans rfl
  have HM := Lib.hid hM
  have hq2 : (q0 : Int) < (s.up.length : Int) := by omega
  have hq3 : (q0 : Int) < (s.life.length : Int) := by omega
  have hq0 : (0 : Int) ≤ (q0 : Int) := by omega
  have hu := HU.out
  unfold St.isup at hu
  simp only [Int.toNat_natCast] at hu
  rw [hu] at y0
  clear hu
  clear hM hu2 hl2 z0 z1 z2 z3 z6 z7 z8 z9 z10 z11 z12
  go_region
  go_upto_region 13 with (fail)
  refine reg_ret 116 (gw := gw) (gs := gs) (by rfl) (by rfl) (by rfl) (by rfl) (by rfl) (by rfl) (by rfl) (by rfl) (by rfl) HM.out.drew.bw HM.out.drew.bs (by rfl) (by rfl) (by simp [Value.oneCell']) ?_
  go_wp2
  exact fin_ret (by rfl) (by rfl) (by rfl) HM.out.drew.bs .none_ HM.out.drew.nw HM.out.ts HM.out.hs (Nat.le_trans HM.out.b0 HM.out.hs)
set_option maxHeartbeats 2000000 in
theorem come_life (w0 : World) (B : Nat) (W : World) (tag : Nat → Nat) (x : NV) (s : St) (t d r : Int) (n i : Nat) (h : Nw w0 B W tag W tag x s) (hd : Bd t n i s) (hi : i < 90) (hn : 2 ≤ n ∧ n ≤ 5) (k : Int) (hk : 0 ≤ k ∧ k ≤ 70000) (p : Pap) (j : Nat) (hjl : j < s.grs.length) (hjj : k % (s.grs.length : Int) = (j : Int)) (hp : s.grs.getD j z116 = p) (hu : s.isup p.f0 = true) (hl : s.lf p.f0 ≠ p.f4) : Calls Try.prog 61 #[.agg #[.int .i64 t, .int .i64 d, .int .i64 r, x.c, x.l, x.u, x.v, x.d, x.r, x.g, x.b, .int .u64 s.top, .bool true], .int .i64 k, .bool false] W (Pst w0 B W tag t d r n s) := by
  obtain ⟨A1, A2, A3, A4, A5, A6, A7, A8, c1, c2, c3, c4, c5, c6, c7, c8, hx⟩ := h.open
  obtain ⟨raw, vc, vl, vu, vv, vd, vr, vg, vb⟩ := x
  injection hx with hx0 hx1 hx2 hx3 hx4 hx5 hx6 hx7 hx8
  subst hx1 hx2 hx3 hx4 hx5 hx6 hx7 hx8
  clear hx0
  have hu80 := Try.underlying80
  have hu116 := Try.underlying116
  have hu52 := Try.underlying52
  have hpm : p ∈ s.grs := by rw [← hp]; simp [hjl]
  have hpo : Okp n i p := hd.gr p hpm
  obtain ⟨p0, p1, p2, p3, p4⟩ := p
  obtain ⟨q0, rfl⟩ := Int.eq_ofNat_of_zero_le (show 0 ≤ p0 from hpo.fr.1)
  obtain ⟨q1, rfl⟩ := Int.eq_ofNat_of_zero_le (show 0 ≤ p1 from hpo.to_.1)
  have hq0n : q0 < n := by have := hpo.fr.2; simp only at this; omega
  have hq1n : q1 < n := by have := hpo.to_.2; simp only at this; omega
  have hgl := hd.gl
  have hlu : n ≤ s.up.length := Nat.le_of_eq hd.lu.symm
  have hll : n ≤ s.life.length := Nat.le_of_eq hd.ll.symm
  have hlld : n ≤ s.leads.length := Nat.le_of_eq hd.lld.symm
  have HH := Lib.hid h
  have HP := Lib.hid hp
  have HJ := Lib.hid hjj
  have HD := Lib.hid hd
  have HO := Lib.hid hpo
  have HPM := Lib.hid hpm
  have HU := Lib.hid hu
  have HL := Lib.hid hl
  clear h hd hpo hp hjj hpm hu hl
  go_enter Try.func61, Try.ntmps61
  go_upto_region 1 with (fail)
  refine wp_gen (fun W1 => Ent w0 B W tag t d r _ s true W.heap.size (W.heap.size + 1) W1) (Ent.start HH.out t d r true) ?_
  intro W1 hE
  generalize W.heap.size + 1 = gs at hE ⊢
  generalize W.heap.size = gw at hE ⊢
  obtain ⟨gr, cr, er, _, lr, tr, hr⟩ := hE.nw.row_g (by omega)
  obtain ⟨⟨x0, x1, x2, x3, x4⟩, hxf⟩ := hr j hjl
  rw [HP.out] at x0 x1 x2 x3 x4
  injection er with er _ er3
  subst er er3
  obtain ⟨z0, z1, z2, z3, z4, z5, z6, z7, z8, z9, z10, z11, z12⟩ := nblk_cells hE.bw
  have lw := blk_lt hE.bw
  have HE := Lib.hid hE
  have hjl2 : (j : Int) < (s.grs.length : Int) := by omega
  have hj0 : (0 : Int) ≤ (j : Int) := by omega
  have hll9 : (s.grs.length : Int) ≤ 450 := by omega
  have hl0 : (0 : Int) < (s.grs.length : Int) := by omega
  clear hE hr z0 z1 z2 z3 z4 z5 z6 z7 z8 z10 z11 z12
  go_upto_region 11 with (fail)
  have hne : s.grs ≠ [] := by intro e; rw [e] at hl0; simp at hl0
  have htm : Int.tmod k (s.grs.length : Int) = (j : Int) := by rw [Int.tmod_eq_emod_of_nonneg hk.1]; exact HJ.out
  have hwj : IntKind.i64.wrap (j : Int) = (j : Int) := by simp [IntKind.wrap, IntKind.bits, IntKind.signed]; omega
  go_region
  clear htm hwj x0 x1 x2 x3 x4 hxf z9 hne hjl2 hj0 hll9 hl0
  go_upto_region 12 with (fail)
  refine wp_gen (fun W2 => Md w0 B W tag t d r _ s gw gs ⟨(q0 : Int), (q1 : Int), p2, p3, p4⟩ W1.heap.size W2 tag) (Md.start HE.out ⟨(q0 : Int), (q1 : Int), p2, p3, p4⟩) ?_
  intro W2 hM
  generalize W1.heap.size = gp at hM ⊢
  obtain ⟨gu, cu, eu, _, lu, tu, hu2⟩ := hM.nw.row_u (by omega)
  obtain ⟨gl, cl, el, _, ll, tl, hl2⟩ := hM.nw.row_l (by omega)
  obtain ⟨y0, y1⟩ := hu2 q0 (by omega)
  obtain ⟨l0, l1⟩ := hl2 q0 (by omega)
  injection eu with eu _ eu3
  subst eu eu3
  injection el with el _ el3
  subst el el3
  obtain ⟨z0, z1, z2, z3, z4, z5, z6, z7, z8, z9, z10, z11, z12⟩ := nblk_cells hM.bw
  have hp0 : W2.cell? ⟨gp, 0, none⟩ = some (.int .i64 (q0 : Int)) := (blk_cell hM.bp 0).trans rfl
  have hp4 : W2.cell? ⟨gp, 4, none⟩ = some (.int .i64 p4) := (blk_cell hM.bp 4).trans rfl
  have HM := Lib.hid hM
  have hq2 : (q0 : Int) < (s.up.length : Int) := by omega
  have hq3 : (q0 : Int) < (s.life.length : Int) := by omega
  have hq0 : (0 : Int) ≤ (q0 : Int) := by omega
  have hu := HU.out
  unfold St.isup at hu
  simp only [Int.toNat_natCast] at hu
  rw [hu] at y0
  have hlne : (s.lf (q0 : Int) == p4) = false := beq_eq_false_iff_ne.2 HL.out
  have hlne2 : (s.lf (q0 : Int) != p4) = true := bne_iff_ne.2 HL.out
  have el0 : s.life.getD q0 0 = s.lf (q0 : Int) := by unfold St.lf; rw [Int.toNat_natCast]
  rw [el0] at l0
  clear hu el0
  clear hM hu2 hl2 z0 z1 z2 z3 z6 z7 z8 z9 z10 z11 z12
  go_region
  go_upto_region 13 with (fail)
  refine reg_ret 116 (gw := gw) (gs := gs) (by rfl) (by rfl) (by rfl) (by rfl) (by rfl) (by rfl) (by rfl) (by rfl) (by rfl) HM.out.drew.bw HM.out.drew.bs (by rfl) (by rfl) (by simp [Value.oneCell']) ?_
  go_wp2
  exact fin_ret (by rfl) (by rfl) (by rfl) HM.out.drew.bs .none_ HM.out.drew.nw HM.out.ts HM.out.hs (Nat.le_trans HM.out.b0 HM.out.hs)
set_option maxHeartbeats 2000000 in
theorem come_stale (w0 : World) (B : Nat) (W : World) (tag : Nat → Nat) (x : NV) (s : St) (t d r : Int) (n i : Nat) (h : Nw w0 B W tag W tag x s) (hd : Bd t n i s) (hi : i < 90) (hn : 2 ≤ n ∧ n ≤ 5) (k : Int) (hk : 0 ≤ k ∧ k ≤ 70000) (p : Pap) (j : Nat) (hjl : j < s.grs.length) (hjj : k % (s.grs.length : Int) = (j : Int)) (hp : s.grs.getD j z116 = p) (hu : s.isup p.f0 = true) (hl : s.lf p.f0 = p.f4) (hep : p.f2 ≠ (s.ld p.f0).f0) : Calls Try.prog 61 #[.agg #[.int .i64 t, .int .i64 d, .int .i64 r, x.c, x.l, x.u, x.v, x.d, x.r, x.g, x.b, .int .u64 s.top, .bool true], .int .i64 k, .bool false] W (Pst w0 B W tag t d r n s) := by
  obtain ⟨A1, A2, A3, A4, A5, A6, A7, A8, c1, c2, c3, c4, c5, c6, c7, c8, hx⟩ := h.open
  obtain ⟨raw, vc, vl, vu, vv, vd, vr, vg, vb⟩ := x
  injection hx with hx0 hx1 hx2 hx3 hx4 hx5 hx6 hx7 hx8
  subst hx1 hx2 hx3 hx4 hx5 hx6 hx7 hx8
  clear hx0
  have hu80 := Try.underlying80
  have hu116 := Try.underlying116
  have hu52 := Try.underlying52
  have hpm : p ∈ s.grs := by rw [← hp]; simp [hjl]
  have hpo : Okp n i p := hd.gr p hpm
  obtain ⟨p0, p1, p2, p3, p4⟩ := p
  obtain ⟨q0, rfl⟩ := Int.eq_ofNat_of_zero_le (show 0 ≤ p0 from hpo.fr.1)
  obtain ⟨q1, rfl⟩ := Int.eq_ofNat_of_zero_le (show 0 ≤ p1 from hpo.to_.1)
  have hq0n : q0 < n := by have := hpo.fr.2; simp only at this; omega
  have hq1n : q1 < n := by have := hpo.to_.2; simp only at this; omega
  have hgl := hd.gl
  have hlu : n ≤ s.up.length := Nat.le_of_eq hd.lu.symm
  have hll : n ≤ s.life.length := Nat.le_of_eq hd.ll.symm
  have hlld : n ≤ s.leads.length := Nat.le_of_eq hd.lld.symm
  have HH := Lib.hid h
  have HP := Lib.hid hp
  have HJ := Lib.hid hjj
  have HD := Lib.hid hd
  have HO := Lib.hid hpo
  have HPM := Lib.hid hpm
  have hld := hd.ld (q0 : Int) hpo.fr
  have htp := hd.tp
  have hok : leadok (s.ld (q0 : Int)).f1 = true := leadok_of (by rw [hld.2.1]; omega) (by rw [hld.2.1]; omega) (fun y hy => by have := hld.2.2 y hy; omega)
  have hgr := granted_eq 1 (Nat.le_refl _) (s.ld (q0 : Int)).f0 (s.ld (q0 : Int)).f1 (q1 : Int) p2 p3
  rw [if_pos ⟨hok, by omega, by rw [hld.2.1]; omega, by have := hpo.asked; simp only at this; omega, by have := hpo.asked; simp only at this; omega⟩, if_neg hep] at hgr
  have HGR := Lib.hid hgr
  have HU := Lib.hid hu
  have HL := Lib.hid hl
  have HEP := Lib.hid hep
  clear h hd hpo hp hjj hpm hu hl hep hld hok hgr htp
  go_enter Try.func61, Try.ntmps61
  go_upto_region 1 with (fail)
  refine wp_gen (fun W1 => Ent w0 B W tag t d r _ s true W.heap.size (W.heap.size + 1) W1) (Ent.start HH.out t d r true) ?_
  intro W1 hE
  generalize W.heap.size + 1 = gs at hE ⊢
  generalize W.heap.size = gw at hE ⊢
  obtain ⟨gr, cr, er, _, lr, tr, hr⟩ := hE.nw.row_g (by omega)
  obtain ⟨⟨x0, x1, x2, x3, x4⟩, hxf⟩ := hr j hjl
  rw [HP.out] at x0 x1 x2 x3 x4
  injection er with er _ er3
  subst er er3
  obtain ⟨z0, z1, z2, z3, z4, z5, z6, z7, z8, z9, z10, z11, z12⟩ := nblk_cells hE.bw
  have lw := blk_lt hE.bw
  have HE := Lib.hid hE
  have hjl2 : (j : Int) < (s.grs.length : Int) := by omega
  have hj0 : (0 : Int) ≤ (j : Int) := by omega
  have hll9 : (s.grs.length : Int) ≤ 450 := by omega
  have hl0 : (0 : Int) < (s.grs.length : Int) := by omega
  clear hE hr z0 z1 z2 z3 z4 z5 z6 z7 z8 z10 z11 z12
  go_upto_region 11 with (fail)
  have hne : s.grs ≠ [] := by intro e; rw [e] at hl0; simp at hl0
  have htm : Int.tmod k (s.grs.length : Int) = (j : Int) := by rw [Int.tmod_eq_emod_of_nonneg hk.1]; exact HJ.out
  have hwj : IntKind.i64.wrap (j : Int) = (j : Int) := by simp [IntKind.wrap, IntKind.bits, IntKind.signed]; omega
  go_region
  clear htm hwj x0 x1 x2 x3 x4 hxf z9 hne hjl2 hj0 hll9 hl0
  go_upto_region 12 with (fail)
  refine wp_gen (fun W2 => Md w0 B W tag t d r _ s gw gs ⟨(q0 : Int), (q1 : Int), p2, p3, p4⟩ W1.heap.size W2 tag) (Md.start HE.out ⟨(q0 : Int), (q1 : Int), p2, p3, p4⟩) ?_
  intro W2 hM
  generalize W1.heap.size = gp at hM ⊢
  obtain ⟨gu, cu, eu, _, lu, tu, hu2⟩ := hM.nw.row_u (by omega)
  obtain ⟨gl, cl, el, _, ll, tl, hl2⟩ := hM.nw.row_l (by omega)
  obtain ⟨y0, y1⟩ := hu2 q0 (by omega)
  obtain ⟨l0, l1⟩ := hl2 q0 (by omega)
  injection eu with eu _ eu3
  subst eu eu3
  injection el with el _ el3
  subst el el3
  obtain ⟨z0, z1, z2, z3, z4, z5, z6, z7, z8, z9, z10, z11, z12⟩ := nblk_cells hM.bw
  have hp0 : W2.cell? ⟨gp, 0, none⟩ = some (.int .i64 (q0 : Int)) := (blk_cell hM.bp 0).trans rfl
  have hp4 : W2.cell? ⟨gp, 4, none⟩ = some (.int .i64 p4) := (blk_cell hM.bp 4).trans rfl
  have HM := Lib.hid hM
  have hq2 : (q0 : Int) < (s.up.length : Int) := by omega
  have hq3 : (q0 : Int) < (s.life.length : Int) := by omega
  have hq0 : (0 : Int) ≤ (q0 : Int) := by omega
  have hu := HU.out
  unfold St.isup at hu
  simp only [Int.toNat_natCast] at hu
  rw [hu] at y0
  have el0 : s.life.getD q0 0 = p4 := by have := HL.out; unfold St.lf at this; rw [Int.toNat_natCast] at this; exact this
  rw [el0] at l0
  clear hu el0
  clear hM hu2 hl2 z0 z1 z2 z3 z6 z7 z8 z9 z10 z11 z12
  go_region
  go_upto_region 14 with (fail)
  refine wp_gen (fun W3 => Md w0 B W tag t d r _ s gw gs ⟨(q0 : Int), (q1 : Int), p2, p3, p4⟩ gp W3 tag) HM.out.drew ?_
  intro W3 hM
  clear y0 y1 l0 l1 hp0 hp4 z4 z5 lu tu ll tl
  obtain ⟨gd, cd, ed, _, ld, td, hd2⟩ := hM.nw.row_d (by omega)
  obtain ⟨Ad, nd, ⟨d0, d1⟩, dv, df⟩ := hd2 q0 (by omega)
  injection ed with ed _ ed3
  subst ed ed3
  have eld : s.leads.getD q0 z52 = s.ld (q0 : Int) := by unfold St.ld; rw [Int.toNat_natCast]
  rw [eld] at d0 d1 dv
  have hgr2 := HGR.out
  obtain ⟨L, hL⟩ : ∃ L, L = s.ld (q0 : Int) := ⟨_, rfl⟩
  have HLD := Lib.hid hL
  rw [← hL] at d0 d1 dv hgr2
  clear eld hL
  obtain ⟨le, ll⟩ := L
  simp only at d0 d1 dv hgr2
  obtain ⟨z0, z1, z2, z3, z4, z5, z6, z7, z8, z9, z10, z11, z12⟩ := nblk_cells hM.bw
  have hp0 : W3.cell? ⟨gp, 0, none⟩ = some (.int .i64 (q0 : Int)) := (blk_cell hM.bp 0).trans rfl
  have hp1 : W3.cell? ⟨gp, 1, none⟩ = some (.int .i64 (q1 : Int)) := (blk_cell hM.bp 1).trans rfl
  have hp2 : W3.cell? ⟨gp, 2, none⟩ = some (.int .u64 p2) := (blk_cell hM.bp 2).trans rfl
  have hp3 : W3.cell? ⟨gp, 3, none⟩ = some (.int .i64 p3) := (blk_cell hM.bp 3).trans rfl
  have lw3 := blk_lt hM.bw
  have lp3 := blk_lt hM.bp
  have HM3 := Lib.hid hM
  have HV := Lib.hid dv
  have HGR2 := Lib.hid hgr2
  have hq4 : (q0 : Int) < (s.leads.length : Int) := by omega
  have gw1 : gw < W3.heap.size + 1 := by omega
  have gd1 : gd < W3.heap.size + 1 := by omega
  have gp1 : gp < W3.heap.size + 1 := by omega
  have gwn0 : W3.heap.size ≠ gw := by omega
  have gwn1 : gw ≠ W3.heap.size := by omega
  have gdn0 : W3.heap.size ≠ gd := by omega
  have gdn1 : gd ≠ W3.heap.size := by omega
  have gpn0 : W3.heap.size ≠ gp := by omega
  have gpn1 : gp ≠ W3.heap.size := by omega
  have gs1 : W3.heap.size < W3.heap.size + 1 := by omega
  clear hM hd2 dv hgr2 z0 z1 z2 z3 z4 z5 z6 z8 z9 z10 z11 z12 df hq2 hq3 lw lr
  go_region_held3 (fun w' => w'.cell? ⟨gw, 7, none⟩ = some (.slice (some ⟨gd, 0, none⟩) s.leads.length c5) ∧ w'.cell? ⟨gd, q0 * 2, none⟩ = some (.int .u64 le) ∧ w'.cell? ⟨gd, q0 * 2 + 1, none⟩ = some (.slice Ad ll.length nd) ∧ w'.cell? ⟨gp, 0, none⟩ = some (.int .i64 (q0 : Int)) ∧ w'.cell? ⟨gp, 1, none⟩ = some (.int .i64 (q1 : Int)) ∧ w'.cell? ⟨gp, 2, none⟩ = some (.int .u64 p2) ∧ w'.cell? ⟨gp, 3, none⟩ = some (.int .i64 p3)) (go_keep)
    (first | (go_at_call 22
              refine (lead_Granted.calls 1 le (fun k => tag k = 9) Ad nd ll _ _ _ _ _ _ _ (Kd.V_below HV.out (by first | exact below_drew (Below.refl _ _) | exact below_drew (below_alloc (Below.refl _ _) _) | exact below_alloc (below_drew (Below.refl _ _)) _)) HGR2.out).mono ?_
              rintro e w1 ⟨vr, rfl, hv, hb⟩
              obtain ⟨hcc, hff⟩ := bcell hb
              have hbT : Below W3.heap.size W3 w1 := by first | exact (below_drew (Below.refl _ _)).trans (hb.mono (by simp)) | exact (below_drew (below_alloc (Below.refl _ _) _)).trans (hb.mono (by simp)) | exact (below_alloc (below_drew (Below.refl _ _)) _).trans (hb.mono (by simp))
              have k0 := ((bcell hbT).1 gw 7 lw3).trans z7
              have k1 := ((bcell hbT).1 gd (q0 * 2) ld).trans d0
              have k2 := ((bcell hbT).1 gd (q0 * 2 + 1) ld).trans d1
              have k3 := ((bcell hbT).1 gp 0 lp3).trans hp0
              have k4 := ((bcell hbT).1 gp 1 lp3).trans hp1
              have k5 := ((bcell hbT).1 gp 2 lp3).trans hp2
              have k6 := ((bcell hbT).1 gp 3 lp3).trans hp3
              have HB2 := Lib.hid hb
              clear hbT
              obtain ⟨Ar, cr, rfl⟩ := Kd.V_slice hv
              have HV2 := Lib.hid hv
              clear hb hv))
  all_goals go_upto_region 15 with (fail)
  all_goals clear hcc hff k0 k1 k2 k3 k4 k5 k6 gw1 gd1 gp1 gwn0 gwn1 gdn0 gdn1 gpn0 gpn1 gs1 z7 d0 d1 hp0 hp1 hp2 hp3 ld lw3 lp3
  all_goals (first
    | (refine wp_gen (fun W4 => ∃ tag4, Mg w0 B W tag t d r _ s gw gs ⟨(q0 : Int), (q1 : Int), p2, p3, p4⟩ gp le Ar (List.length ll) cr ll w1.heap.size W4 tag4) ⟨_, Mg.late HM3.out.drew HB2.out HV2.out⟩ ?_
       rintro W4 ⟨tag4, hM⟩
       generalize w1.heap.size = gb at hM ⊢)
    | (refine wp_gen (fun W4 => ∃ tag4, Mg w0 B W tag t d r _ s gw gs ⟨(q0 : Int), (q1 : Int), p2, p3, p4⟩ gp le Ar (List.length ll) cr ll W3.heap.size W4 tag4) ⟨_, Mg.early (Wa := W3) rfl HM3.out HB2.out HV2.out⟩ ?_
       rintro W4 ⟨tag4, hM⟩
       generalize W3.heap.size = gb at hM ⊢))
  all_goals
    have HM5 := Lib.hid hM.md
    clear hM
    go_upto_region 17 with (fail)
    refine reg_ret 141 (gw := gw) (gs := gs) (by rfl) (by rfl) (by rfl) (by rfl) (by rfl) (by rfl) (by rfl) (by rfl) (by rfl) HM5.out.bw HM5.out.bs (by rfl) (by rfl) (by simp [Value.oneCell']) ?_
    go_wp2
    exact fin_ret (by rfl) (by rfl) (by rfl) HM5.out.bs .none_ HM5.out.nw HM5.out.ts HM5.out.hs (Nat.le_trans HM5.out.b0 HM5.out.hs)
set_option maxHeartbeats 2000000 in
theorem come_got (w0 : World) (B : Nat) (W : World) (tag : Nat → Nat) (x : NV) (s : St) (t d r : Int) (n i : Nat) (h : Nw w0 B W tag W tag x s) (hd : Bd t n i s) (hi : i < 90) (hn : 2 ≤ n ∧ n ≤ 5) (k : Int) (hk : 0 ≤ k ∧ k ≤ 70000) (p : Pap) (j : Nat) (hjl : j < s.grs.length) (hjj : k % (s.grs.length : Int) = (j : Int)) (hp : s.grs.getD j z116 = p) (hu : s.isup p.f0 = true) (hl : s.lf p.f0 = p.f4) (hep : p.f2 = (s.ld p.f0).f0) : Calls Try.prog 61 #[.agg #[.int .i64 t, .int .i64 d, .int .i64 r, x.c, x.l, x.u, x.v, x.d, x.r, x.g, x.b, .int .u64 s.top, .bool true], .int .i64 k, .bool false] W (Pst w0 B W tag t d r n s) := by
  obtain ⟨A1, A2, A3, A4, A5, A6, A7, A8, c1, c2, c3, c4, c5, c6, c7, c8, hx⟩ := h.open
  obtain ⟨raw, vc, vl, vu, vv, vd, vr, vg, vb⟩ := x
  injection hx with hx0 hx1 hx2 hx3 hx4 hx5 hx6 hx7 hx8
  subst hx1 hx2 hx3 hx4 hx5 hx6 hx7 hx8
  clear hx0
  have hu80 := Try.underlying80
  have hu116 := Try.underlying116
  have hu52 := Try.underlying52
  have hpm : p ∈ s.grs := by rw [← hp]; simp [hjl]
  have hpo : Okp n i p := hd.gr p hpm
  obtain ⟨p0, p1, p2, p3, p4⟩ := p
  obtain ⟨q0, rfl⟩ := Int.eq_ofNat_of_zero_le (show 0 ≤ p0 from hpo.fr.1)
  obtain ⟨q1, rfl⟩ := Int.eq_ofNat_of_zero_le (show 0 ≤ p1 from hpo.to_.1)
  have hq0n : q0 < n := by have := hpo.fr.2; simp only at this; omega
  have hq1n : q1 < n := by have := hpo.to_.2; simp only at this; omega
  have hgl := hd.gl
  have hlu : n ≤ s.up.length := Nat.le_of_eq hd.lu.symm
  have hll : n ≤ s.life.length := Nat.le_of_eq hd.ll.symm
  have hlld : n ≤ s.leads.length := Nat.le_of_eq hd.lld.symm
  have HH := Lib.hid h
  have HP := Lib.hid hp
  have HJ := Lib.hid hjj
  have HD := Lib.hid hd
  have HO := Lib.hid hpo
  have HPM := Lib.hid hpm
  have hld := hd.ld (q0 : Int) hpo.fr
  have htp := hd.tp
  have hok : leadok (s.ld (q0 : Int)).f1 = true := leadok_of (by rw [hld.2.1]; omega) (by rw [hld.2.1]; omega) (fun y hy => by have := hld.2.2 y hy; omega)
  have hgr := granted_eq 1 (Nat.le_refl _) (s.ld (q0 : Int)).f0 (s.ld (q0 : Int)).f1 (q1 : Int) p2 p3
  rw [if_pos ⟨hok, by omega, by rw [hld.2.1]; omega, by have := hpo.asked; simp only at this; omega, by have := hpo.asked; simp only at this; omega⟩, if_pos hep, Int.toNat_natCast] at hgr
  have HGR := Lib.hid hgr
  have HU := Lib.hid hu
  have HL := Lib.hid hl
  have HEP := Lib.hid hep
  clear h hd hpo hp hjj hpm hu hl hep hld hok hgr htp
  go_enter Try.func61, Try.ntmps61
  go_upto_region 1 with (fail)
  refine wp_gen (fun W1 => Ent w0 B W tag t d r _ s true W.heap.size (W.heap.size + 1) W1) (Ent.start HH.out t d r true) ?_
  intro W1 hE
  generalize W.heap.size + 1 = gs at hE ⊢
  generalize W.heap.size = gw at hE ⊢
  obtain ⟨gr, cr, er, _, lr, tr, hr⟩ := hE.nw.row_g (by omega)
  obtain ⟨⟨x0, x1, x2, x3, x4⟩, hxf⟩ := hr j hjl
  rw [HP.out] at x0 x1 x2 x3 x4
  injection er with er _ er3
  subst er er3
  obtain ⟨z0, z1, z2, z3, z4, z5, z6, z7, z8, z9, z10, z11, z12⟩ := nblk_cells hE.bw
  have lw := blk_lt hE.bw
  have HE := Lib.hid hE
  have hjl2 : (j : Int) < (s.grs.length : Int) := by omega
  have hj0 : (0 : Int) ≤ (j : Int) := by omega
  have hll9 : (s.grs.length : Int) ≤ 450 := by omega
  have hl0 : (0 : Int) < (s.grs.length : Int) := by omega
  clear hE hr z0 z1 z2 z3 z4 z5 z6 z7 z8 z10 z11 z12
  go_upto_region 11 with (fail)
  have hne : s.grs ≠ [] := by intro e; rw [e] at hl0; simp at hl0
  have htm : Int.tmod k (s.grs.length : Int) = (j : Int) := by rw [Int.tmod_eq_emod_of_nonneg hk.1]; exact HJ.out
  have hwj : IntKind.i64.wrap (j : Int) = (j : Int) := by simp [IntKind.wrap, IntKind.bits, IntKind.signed]; omega
  go_region
  clear htm hwj x0 x1 x2 x3 x4 hxf z9 hne hjl2 hj0 hll9 hl0
  go_upto_region 12 with (fail)
  refine wp_gen (fun W2 => Md w0 B W tag t d r _ s gw gs ⟨(q0 : Int), (q1 : Int), p2, p3, p4⟩ W1.heap.size W2 tag) (Md.start HE.out ⟨(q0 : Int), (q1 : Int), p2, p3, p4⟩) ?_
  intro W2 hM
  generalize W1.heap.size = gp at hM ⊢
  obtain ⟨gu, cu, eu, _, lu, tu, hu2⟩ := hM.nw.row_u (by omega)
  obtain ⟨gl, cl, el, _, ll, tl, hl2⟩ := hM.nw.row_l (by omega)
  obtain ⟨y0, y1⟩ := hu2 q0 (by omega)
  obtain ⟨l0, l1⟩ := hl2 q0 (by omega)
  injection eu with eu _ eu3
  subst eu eu3
  injection el with el _ el3
  subst el el3
  obtain ⟨z0, z1, z2, z3, z4, z5, z6, z7, z8, z9, z10, z11, z12⟩ := nblk_cells hM.bw
  have hp0 : W2.cell? ⟨gp, 0, none⟩ = some (.int .i64 (q0 : Int)) := (blk_cell hM.bp 0).trans rfl
  have hp4 : W2.cell? ⟨gp, 4, none⟩ = some (.int .i64 p4) := (blk_cell hM.bp 4).trans rfl
  have HM := Lib.hid hM
  have hq2 : (q0 : Int) < (s.up.length : Int) := by omega
  have hq3 : (q0 : Int) < (s.life.length : Int) := by omega
  have hq0 : (0 : Int) ≤ (q0 : Int) := by omega
  have hu := HU.out
  unfold St.isup at hu
  simp only [Int.toNat_natCast] at hu
  rw [hu] at y0
  have el0 : s.life.getD q0 0 = p4 := by have := HL.out; unfold St.lf at this; rw [Int.toNat_natCast] at this; exact this
  rw [el0] at l0
  clear hu el0
  clear hM hu2 hl2 z0 z1 z2 z3 z6 z7 z8 z9 z10 z11 z12
  go_region
  go_upto_region 14 with (fail)
  refine wp_gen (fun W3 => Md w0 B W tag t d r _ s gw gs ⟨(q0 : Int), (q1 : Int), p2, p3, p4⟩ gp W3 tag) HM.out.drew ?_
  intro W3 hM
  clear y0 y1 l0 l1 hp0 hp4 z4 z5 lu tu ll tl
  obtain ⟨gd, cd, ed, _, ld, td, hd2⟩ := hM.nw.row_d (by omega)
  obtain ⟨Ad, nd, ⟨d0, d1⟩, dv, df⟩ := hd2 q0 (by omega)
  injection ed with ed _ ed3
  subst ed ed3
  have eld : s.leads.getD q0 z52 = s.ld (q0 : Int) := by unfold St.ld; rw [Int.toNat_natCast]
  rw [eld] at d0 d1 dv
  have hgr2 := HGR.out
  obtain ⟨L, hL⟩ : ∃ L, L = s.ld (q0 : Int) := ⟨_, rfl⟩
  have HLD := Lib.hid hL
  rw [← hL] at d0 d1 dv hgr2
  clear eld hL
  obtain ⟨le, ll⟩ := L
  simp only at d0 d1 dv hgr2
  obtain ⟨z0, z1, z2, z3, z4, z5, z6, z7, z8, z9, z10, z11, z12⟩ := nblk_cells hM.bw
  have hp0 : W3.cell? ⟨gp, 0, none⟩ = some (.int .i64 (q0 : Int)) := (blk_cell hM.bp 0).trans rfl
  have hp1 : W3.cell? ⟨gp, 1, none⟩ = some (.int .i64 (q1 : Int)) := (blk_cell hM.bp 1).trans rfl
  have hp2 : W3.cell? ⟨gp, 2, none⟩ = some (.int .u64 p2) := (blk_cell hM.bp 2).trans rfl
  have hp3 : W3.cell? ⟨gp, 3, none⟩ = some (.int .i64 p3) := (blk_cell hM.bp 3).trans rfl
  have lw3 := blk_lt hM.bw
  have lp3 := blk_lt hM.bp
  have HM3 := Lib.hid hM
  have HV := Lib.hid dv
  have HGR2 := Lib.hid hgr2
  have hq4 : (q0 : Int) < (s.leads.length : Int) := by omega
  have gw1 : gw < W3.heap.size + 1 := by omega
  have gd1 : gd < W3.heap.size + 1 := by omega
  have gp1 : gp < W3.heap.size + 1 := by omega
  have gwn0 : W3.heap.size ≠ gw := by omega
  have gwn1 : gw ≠ W3.heap.size := by omega
  have gdn0 : W3.heap.size ≠ gd := by omega
  have gdn1 : gd ≠ W3.heap.size := by omega
  have gpn0 : W3.heap.size ≠ gp := by omega
  have gpn1 : gp ≠ W3.heap.size := by omega
  have gs1 : W3.heap.size < W3.heap.size + 1 := by omega
  clear hM hd2 dv hgr2 z0 z1 z2 z3 z4 z5 z6 z8 z9 z10 z11 z12 df hq2 hq3 lw lr
  go_region_held3 (fun w' => w'.cell? ⟨gw, 7, none⟩ = some (.slice (some ⟨gd, 0, none⟩) s.leads.length c5) ∧ w'.cell? ⟨gd, q0 * 2, none⟩ = some (.int .u64 le) ∧ w'.cell? ⟨gd, q0 * 2 + 1, none⟩ = some (.slice Ad ll.length nd) ∧ w'.cell? ⟨gp, 0, none⟩ = some (.int .i64 (q0 : Int)) ∧ w'.cell? ⟨gp, 1, none⟩ = some (.int .i64 (q1 : Int)) ∧ w'.cell? ⟨gp, 2, none⟩ = some (.int .u64 p2) ∧ w'.cell? ⟨gp, 3, none⟩ = some (.int .i64 p3)) (go_keep)
    (first | (go_at_call 22
              refine (lead_Granted.calls 1 le (fun k => tag k = 9) Ad nd ll _ _ _ _ _ _ _ (Kd.V_below HV.out (by first | exact below_drew (Below.refl _ _) | exact below_drew (below_alloc (Below.refl _ _) _) | exact below_alloc (below_drew (Below.refl _ _)) _)) HGR2.out).mono ?_
              rintro e w1 ⟨vr, rfl, hv, hb⟩
              obtain ⟨hcc, hff⟩ := bcell hb
              have hbT : Below W3.heap.size W3 w1 := by first | exact (below_drew (Below.refl _ _)).trans (hb.mono (by simp)) | exact (below_drew (below_alloc (Below.refl _ _) _)).trans (hb.mono (by simp)) | exact (below_alloc (below_drew (Below.refl _ _)) _).trans (hb.mono (by simp))
              have k0 := ((bcell hbT).1 gw 7 lw3).trans z7
              have k1 := ((bcell hbT).1 gd (q0 * 2) ld).trans d0
              have k2 := ((bcell hbT).1 gd (q0 * 2 + 1) ld).trans d1
              have k3 := ((bcell hbT).1 gp 0 lp3).trans hp0
              have k4 := ((bcell hbT).1 gp 1 lp3).trans hp1
              have k5 := ((bcell hbT).1 gp 2 lp3).trans hp2
              have k6 := ((bcell hbT).1 gp 3 lp3).trans hp3
              have HB2 := Lib.hid hb
              clear hbT
              obtain ⟨Ar, cr, rfl⟩ := Kd.V_slice hv
              have HV2 := Lib.hid hv
              clear hb hv))
  all_goals go_upto_region 15 with (fail)
  all_goals clear hcc hff k0 k1 k2 k3 k4 k5 k6 gw1 gd1 gp1 gwn0 gwn1 gdn0 gdn1 gpn0 gpn1 gs1 z7 d0 d1 hp0 hp1 hp2 hp3 ld lw3 lp3
  all_goals (first
    | (refine wp_gen (fun W4 => ∃ tag4, Mg w0 B W tag t d r _ s gw gs ⟨(q0 : Int), (q1 : Int), p2, p3, p4⟩ gp le Ar (List.length (gra ll q1 p3)) cr (gra ll q1 p3) w1.heap.size W4 tag4) ⟨_, Mg.late HM3.out.drew HB2.out HV2.out⟩ ?_
       rintro W4 ⟨tag4, hM⟩
       generalize w1.heap.size = gb at hM ⊢)
    | (refine wp_gen (fun W4 => ∃ tag4, Mg w0 B W tag t d r _ s gw gs ⟨(q0 : Int), (q1 : Int), p2, p3, p4⟩ gp le Ar (List.length (gra ll q1 p3)) cr (gra ll q1 p3) W3.heap.size W4 tag4) ⟨_, Mg.early (Wa := W3) rfl HM3.out HB2.out HV2.out⟩ ?_
       rintro W4 ⟨tag4, hM⟩
       generalize W3.heap.size = gb at hM ⊢))
  all_goals
    obtain ⟨z0, z1, z2, z3, z4, z5, z6, z7, z8, z9, z10, z11, z12⟩ := nblk_cells hM.md.bw
    have hp0 : W4.cell? ⟨gp, 0, none⟩ = some (.int .i64 (q0 : Int)) := (blk_cell hM.md.bp 0).trans rfl
    have hb0 : W4.cell? ⟨gb, 0, none⟩ = some (.int .u64 le) := (blk_cell hM.bb 0).trans rfl
    have hb1 : W4.cell? ⟨gb, 1, none⟩ = some (.slice Ar (List.length (gra ll q1 p3)) cr) := (blk_cell hM.bb 1).trans rfl
    obtain ⟨gd', cd', ed, _, _, td', hd2⟩ := hM.md.nw.row_d (by omega)
    injection ed with ed _ ed3
    injection ed with ed
    injection ed with ed
    subst ed ed3
    obtain ⟨Ad', nd', ⟨d0, d1⟩, _, df⟩ := hd2 q0 (by omega)
    have df0 := df 0
    have df1 := df 1
    rw [Nat.add_zero] at df0
    have HM4 := Lib.hid hM
    clear hM hd2 df z0 z1 z2 z3 z4 z5 z6 z8 z9 z10 z11 z12
    go_upto_region 17 with (fail)
    refine wp_gen (fun W5 => Md w0 B W tag t d r _ { s with leads := s.leads.set q0 ⟨le, gra ll q1 p3⟩ } gw gs ⟨(q0 : Int), (q1 : Int), p2, p3, p4⟩ gp W5 tag4) (HM4.out.note rfl q0 (by omega)) ?_
    intro W5 hM
    have e6 : { s with leads := s.leads.set q0 ⟨le, gra ll q1 p3⟩ } = s.got ⟨(q0 : Int), (q1 : Int), p2, p3, p4⟩ := by
      unfold St.got
      simp only [Int.toNat_natCast]
      rw [← HLD.out]
    rw [e6] at hM
    have HM5 := Lib.hid hM
    clear hM e6
    refine reg_ret 141 (gw := gw) (gs := gs) (by rfl) (by rfl) (by rfl) (by rfl) (by rfl) (by rfl) (by rfl) (by rfl) (by rfl) HM5.out.bw HM5.out.bs (by rfl) (by rfl) (by simp [Value.oneCell']) ?_
    go_wp2
    exact fin_ret (by rfl) (by rfl) (by rfl) HM5.out.bs (.got _ HPM.out HL.out) HM5.out.nw HM5.out.ts HM5.out.hs (Nat.le_trans HM5.out.b0 HM5.out.hs)
end Go.Proofs.Ytgfblogneggpmaa.One
namespace Go.Proofs.Ytgfblogneggpmaa.One
open Go.RowKit Go.Proofs.Ytgfblogneggpmaa.Fn Go.Proofs.YtgfblogneggpmaaW.PrintWords Go.Proofs.YtgfblogneggpmaaW.PrintLast Go.Proofs.YtgfblogneggpmaaW.PrintMore Go.Proofs.Ytgfblogneggpmaa.Vote Go.Proofs.Ytgfblogneggpmaa.Clk Go.Proofs.Ytgfblogneggpmaa.Thr
set_option linter.unusedVariables false
set_option linter.unusedSimpArgs false
set_option maxRecDepth 100000
set_option maxHeartbeats 1000000 in
theorem comes_none (w0 : World) (B : Nat) (W : World) (tag : Nat → Nat) (x : NV) (s : St) (t d r : Int) (n : Nat) (h : Nw w0 B W tag W tag x s) (k : Int) (b : Bool) (he : (if b then s.reqs.length else s.grs.length) = 0) : Calls Try.prog 61 #[.agg #[.int .i64 t, .int .i64 d, .int .i64 r, x.c, x.l, x.u, x.v, x.d, x.r, x.g, x.b, .int .u64 s.top, .bool true], .int .i64 k, .bool b] W (Pst w0 B W tag t d r n s) := by
  obtain ⟨A1, A2, A3, A4, A5, A6, A7, A8, c1, c2, c3, c4, c5, c6, c7, c8, hx⟩ := h.open
  obtain ⟨raw, vc, vl, vu, vv, vd, vr, vg, vb⟩ := x
  injection hx with hx0 hx1 hx2 hx3 hx4 hx5 hx6 hx7 hx8
  subst hx1 hx2 hx3 hx4 hx5 hx6 hx7 hx8
  clear hx0
  have hu80 := Try.underlying80
  have HH := Lib.hid h
  clear h
  cases b with
  | true =>
    have he : s.reqs.length = 0 := by simpa using he
    have h2 := HH.out
    rw [he] at h2 ⊢
    clear HH he
    have HH := Lib.hid h2
    clear h2
    go_enter Try.func61, Try.ntmps61
    go_upto_region 1 with (fail)
    refine wp_gen (fun W1 => Ent w0 B W tag t d r _ s true W.heap.size (W.heap.size + 1) W1) (Ent.start HH.out t d r true) ?_
    intro W1 hE
    generalize W.heap.size + 1 = gs at hE ⊢
    generalize W.heap.size = gw at hE ⊢
    obtain ⟨z0, z1, z2, z3, z4, z5, z6, z7, z8, z9, z10, z11, z12⟩ := nblk_cells hE.bw
    have HE := Lib.hid hE
    clear hE z0 z1 z2 z3 z4 z5 z6 z7 z9 z10 z11 z12
    go_upto_region 17 with (fail)
    refine reg_ret 141 (gw := gw) (gs := gs) (by rfl) (by rfl) (by rfl) (by rfl) (by rfl) (by rfl) (by rfl) (by rfl) (by rfl) HE.out.bw HE.out.bs (by rfl) (by rfl) (by simp [Value.oneCell']) ?_
    go_wp2
    exact fin_ret (by rfl) (by rfl) (by rfl) HE.out.bs .none_ HE.out.nw HE.out.ts HE.out.s_ (Nat.le_trans HE.out.b0 HE.out.s_)
  | false =>
    have he : s.grs.length = 0 := by simpa using he
    have h2 := HH.out
    rw [he] at h2 ⊢
    clear HH he
    have HH := Lib.hid h2
    clear h2
    go_enter Try.func61, Try.ntmps61
    go_upto_region 1 with (fail)
    refine wp_gen (fun W1 => Ent w0 B W tag t d r _ s true W.heap.size (W.heap.size + 1) W1) (Ent.start HH.out t d r true) ?_
    intro W1 hE
    generalize W.heap.size + 1 = gs at hE ⊢
    generalize W.heap.size = gw at hE ⊢
    obtain ⟨z0, z1, z2, z3, z4, z5, z6, z7, z8, z9, z10, z11, z12⟩ := nblk_cells hE.bw
    have HE := Lib.hid hE
    clear hE z0 z1 z2 z3 z4 z5 z6 z7 z8 z10 z11 z12
    go_upto_region 17 with (fail)
    refine reg_ret 141 (gw := gw) (gs := gs) (by rfl) (by rfl) (by rfl) (by rfl) (by rfl) (by rfl) (by rfl) (by rfl) (by rfl) HE.out.bw HE.out.bs (by rfl) (by rfl) (by simp [Value.oneCell']) ?_
    go_wp2
    exact fin_ret (by rfl) (by rfl) (by rfl) HE.out.bs .none_ HE.out.nw HE.out.ts HE.out.s_ (Nat.le_trans HE.out.b0 HE.out.s_)
end Go.Proofs.Ytgfblogneggpmaa.One
namespace Go.Proofs.Ytgfblogneggpmaa.One
open Go.RowKit Go.Proofs.Ytgfblogneggpmaa.Fn Go.Proofs.YtgfblogneggpmaaW.PrintWords Go.Proofs.YtgfblogneggpmaaW.PrintLast Go.Proofs.YtgfblogneggpmaaW.PrintMore Go.Proofs.Ytgfblogneggpmaa.Vote Go.Proofs.Ytgfblogneggpmaa.Clk Go.Proofs.Ytgfblogneggpmaa.Thr
set_option linter.unusedVariables false
set_option linter.unusedSimpArgs false
set_option maxRecDepth 100000
theorem info116b : (Try.prog.info? 116).map (fun i => (i.zero, i.size, i.bytes)) = some (some (.agg #[.int .i64 0, .int .i64 0, .int .u64 0, .int .i64 0, .int .i64 0]), 5, 40) := by kernel_rfl
/-- What a function leaves that makes the nodes s'. -/
def Ps2 (w0 : World) (B : Nat) (W : World) (tag : Nat → Nat) (t d r : Int) (s' : St) (e : Ending) (w' : World) : Prop :=
  ∃ x' tag', e = .returned (.agg #[.int .i64 t, .int .i64 d, .int .i64 r, x'.c, x'.l, x'.u, x'.v, x'.d, x'.r, x'.g, x'.b, .int .u64 s'.top, .bool true]) ∧ Nw w0 B W tag w' tag' x' s'
theorem fin_ret2 {fn : Func} {a : Act} {w0 : World} {B : Nat} {W W2 : World} {tag tag' : Nat → Nat} {t d r : Int} {x : NV} {s' : St} {gs : Nat} (hf : fn.results = #[.cell 6 80]) (hd : a.defers = []) (hp : a.tmps.getD 6 undef = .pointer (some ⟨gs, 0, none⟩)) (hz : W2.heap[gs]? = some zblk) (h : Nw w0 B W tag W2 tag' x s') (ht : tag' gs = 0) (h0 : W.heap.size ≤ gs) (hB : B ≤ gs) :
    bodyPost Try.prog fn (Ps2 w0 B W tag t d r s') .ret a (W2.setRow gs #[.int .i64 t, .int .i64 d, .int .i64 r, x.c, x.l, x.u, x.v, x.d, x.r, x.g, x.b, .int .u64 s'.top, .bool true]) :=
  bodyPost_ret (results_cell_row hf _ _ gs 80 _ (0, 0) _ hp (setRow_heap W2 gs _ _ 80 (0, 0) hz) Try.underlying80 rfl info80s) hd ⟨x, tag', rfl, h.setRow ht h0 hB _⟩
/-- The nodes' block, and the result's. -/
structure Lq (w0 : World) (B : Nat) (W : World) (tag : Nat → Nat) (t d r : Int) (x : NV) (s : St) (gw gs : Nat) (W3 : World) (tag3 : Nat → Nat) : Prop where
  nw : Nw w0 B W tag W3 tag3 x s
  bw : W3.heap[gw]? = some (nblk t d r x s.top true)
  bs : W3.heap[gs]? = some zblk
  ws : gw ≠ gs
  ts : tag3 gs = 0
  tw : tag3 gw = 0
  hw : W.heap.size ≤ gw
  hs : W.heap.size ≤ gs
  b0 : B ≤ W.heap.size
section
variable {w0 : World} {B : Nat} {W : World} {tag tag3 : Nat → Nat} {t d r : Int} {x : NV} {s : St} {gw gs gp : Nat} {W1 W3 w1 : World}
theorem Lq.below (h : Lq w0 B W tag t d r x s gw gs W3 tag3) (hb : Below W3.heap.size W3 w1) : Lq w0 B W tag t d r x s gw gs w1 tag3 :=
  { h with nw := h.nw.below hb, bw := blk_below h.bw hb, bs := blk_below h.bs hb }
theorem Lq.drew (h : Lq w0 B W tag t d r x s gw gs W3 tag3) : Lq w0 B W tag t d r x s gw gs W3.drew tag3 := h.below (below_drew (Below.refl _ _))
theorem Lq.alloc (h : Lq w0 B W tag t d r x s gw gs W3 tag3) (o : Obj) : Lq w0 B W tag t d r x s gw gs (W3.alloc o) tag3 := h.below (below_alloc (Below.refl _ _) o)
theorem Lq.start (hE : Ent w0 B W tag t d r x s true gw gs W1) : Lq w0 B W tag t d r x s gw gs W1 tag := ⟨hE.nw, hE.bw, hE.bs, hE.ne, hE.ts, hE.tw, hE.w, hE.s_, hE.b0⟩
/-- A request more. -/
theorem Lq.app (h : Lq w0 B W tag t d r x s gw gs W3 tag3) {wn : World} {vn : Value} {l : List S116} (hR : k116.R 116 wn B (fun k => tag3 k = 6 ∨ W3.heap.size ≤ k) vn l) (hB : Below B w0 wn) (hG : W3.grownBy wn x.r.ownBlock) :
    Lq w0 B W tag t d r { x with r := vn } { s with reqs := l } gw gs (wn.setCell ⟨gw, 8, none⟩ vn) (ri tag3 W3.heap.size wn.heap.size 6) ∧ wn.heap[gw]? = some (nblk t d r x s.top true) ∧ Nw w0 B W tag wn (ri tag3 W3.heap.size wn.heap.size 6) { x with r := vn } { s with reqs := l } := by
  obtain ⟨b1, b2⟩ := Nw.stay (by decide) h.nw.r.1 hG h.bw h.tw
  obtain ⟨b3, b4⟩ := Nw.stay (by decide) h.nw.r.1 hG h.bs h.ts
  have hN := h.nw.app_r hR hB hG
  refine ⟨⟨hN.set0 b2 h.hw (Nat.le_trans h.b0 h.hw) 8 _, ?_, blk_far b3 (fun e => h.ws e.symm) _, h.ws, b4, b2, h.hw, h.hs, h.b0⟩, b1, hN⟩
  have := blk_set b1 8 vn
  exact this
/-- Behind the call: what it made is of kind 9. -/
theorem Lq.called (h : Lq w0 B W tag t d r x s gw gs W3 tag3) (hb : Below W3.heap.size W3 w1) : Lq w0 B W tag t d r x s gw gs w1 (ri tag3 W3.heap.size w1.heap.size 9) := by
  have h1 := h.below hb
  have old : ∀ {k : Nat} {o : Obj}, W3.heap[k]? = some o → tag3 k = 0 → ri tag3 W3.heap.size w1.heap.size 9 k = 0 := fun hk ht => by
    unfold ri
    rw [if_neg (fun q => by have := blk_lt hk; omega)]
    exact ht
  exact { h1 with nw := h.nw.retag h1.nw hb.size 9, ts := old h.bs h.ts, tw := old h.bw h.tw }
/-- .. and with the block of a lead. -/
structure Lg (w0 : World) (B : Nat) (W : World) (tag : Nat → Nat) (t d r : Int) (x : NV) (s : St) (gw gs : Nat) (e : Int) (A : Option Addr) (n c : Nat) (l : List Int) (gb : Nat) (W3 : World) (tag3 : Nat → Nat) : Prop where
  md : Lq w0 B W tag t d r x s gw gs W3 tag3
  bb : W3.heap[gb]? = some (.cells #[.int .u64 e, .slice A n c] 52 (0, 0))
  tb : tag3 gb = 0
  v : Kd.V (Kd.int .i64) 2 W3 B (fun k => tag3 k = 9) (.slice A n c) l
variable {e : Int} {A : Option Addr} {n c : Nat} {l : List Int} {gb : Nat}
theorem Lg.late (h : Lq w0 B W tag t d r x s gw gs W3 tag3) (hb : Below W3.heap.size W3 w1) (hv : Kd.V (Kd.int .i64) 2 w1 W3.heap.size (fun k => tag3 k = 9 ∨ W3.heap.size ≤ k) (.slice A n c) l) :
    Lg w0 B W tag t d r x s gw gs e A n c l w1.heap.size (w1.alloc (.cells #[.int .u64 e, .slice A n c] 52)) (ri tag3 W3.heap.size w1.heap.size 9) :=
  have h1 := h.called hb
  ⟨h1.alloc _, blk_new w1 _, h1.nw.fresh _ (Nat.le_refl _), Kd.V_alloc (called_V hv) _⟩
theorem Lg.early {Wa : World} (hWa : Wa.heap.size = gb) (h : Lq w0 B W tag t d r x s gw gs Wa tag3) (hb : Below ((Wa.alloc (.cells #[.int .u64 0, .slice none 0 0] 52)).drew).heap.size ((Wa.alloc (.cells #[.int .u64 0, .slice none 0 0] 52)).drew) w1) (hv : Kd.V (Kd.int .i64) 2 w1 ((Wa.alloc (.cells #[.int .u64 0, .slice none 0 0] 52)).drew).heap.size (fun k => tag3 k = 9 ∨ ((Wa.alloc (.cells #[.int .u64 0, .slice none 0 0] 52)).drew).heap.size ≤ k) (.slice A n c) l) :
    Lg w0 B W tag t d r x s gw gs e A n c l gb ((w1.setCell ⟨gb, 0, none⟩ (.int .u64 e)).setCell ⟨gb, 1, none⟩ (.slice A n c)) (ri tag3 ((Wa.alloc (.cells #[.int .u64 0, .slice none 0 0] 52)).drew).heap.size w1.heap.size 9) := by
  have h1 := ((h.alloc (.cells #[.int .u64 0, .slice none 0 0] 52)).drew).called hb
  have hz : ((Wa.alloc (.cells #[.int .u64 0, .slice none 0 0] 52)).drew).heap.size = gb + 1 := by simp [hWa]
  have tb : tag3 gb = 0 := h.nw.fresh _ (by omega)
  have tb2 : ri tag3 ((Wa.alloc (.cells #[.int .u64 0, .slice none 0 0] 52)).drew).heap.size w1.heap.size 9 gb = 0 := by
    unfold ri
    rw [if_neg (by omega)]
    exact tb
  have hbb : w1.heap[gb]? = some (.cells #[.int .u64 0, .slice none 0 0] 52 (0, 0)) := by
    have h2 := blk_below (blk_drew (blk_new Wa (.cells #[.int .u64 0, .slice none 0 0] 52))) hb
    rw [hWa] at h2
    exact h2
  have hv2 := called_V (B := B) hv
  have lw := blk_lt h.bw
  have ls := blk_lt h.bs
  have hB : B ≤ gb := by rw [← hWa]; exact h.nw.base
  have h0 : W.heap.size ≤ gb := by rw [← hWa]; exact h.nw.size
  generalize hT : ri tag3 ((Wa.alloc (.cells #[.int .u64 0, .slice none 0 0] 52)).drew).heap.size w1.heap.size 9 = T at *
  have hne : ∀ k, T k = 9 → k ≠ gb := fun k hk q => by rw [q, tb2] at hk; cases hk
  have far : ∀ {g : Nat} {c' : Array Value} {e' : Nat}, g < gb → w1.heap[g]? = some (.cells c' e' (0, 0)) → ((w1.setCell ⟨gb, 0, none⟩ (.int .u64 e)).setCell ⟨gb, 1, none⟩ (.slice A n c)).heap[g]? = some (.cells c' e' (0, 0)) := fun hl hg => blk_far (blk_far hg (fun q => by simp only at q; omega) _) (fun q => by simp only at q; omega) _
  refine ⟨{ h1 with nw := (h1.nw.set0 tb2 h0 hB 0 _).set0 tb2 h0 hB 1 _, bw := far (by omega) h1.bw, bs := far (by omega) h1.bs }, blk_set (blk_set hbb 0 _) 1 _, tb2, ?_⟩
  exact Kd.V_far (p := ⟨gb, 1, none⟩) (Kd.V_far (p := ⟨gb, 0, none⟩) hv2 hne _) hne _
theorem Lg.note (h : Lg w0 B W tag t d r x s gw gs e A n c l gb W3 tag3) {g m c' : Nat} (hx : x.d = .slice (some ⟨g, 0, none⟩) m c') (j : Nat) (hj : j < m) : Lq w0 B W tag t d r { x with raw := x.raw.set j (e, A, n, c) } { s with leads := s.leads.set j ⟨e, l⟩ } gw gs (st2 W3 g j e (.slice A n c)) tag3 := by
  have hg : tag3 g = 5 := h.md.nw.d.1 g (by rw [hx]; simp [Value.ownBlock])
  have far : ∀ {k : Nat} {c : Array Value} {e' : Nat} (y : Value), tag3 k = 0 → W3.heap[k]? = some (.cells c e' (0, 0)) → (st2 W3 g j e y).heap[k]? = some (.cells c e' (0, 0)) := fun y ht hb => by
    rename_i k _ _
    have hne : k ≠ g := fun q => by rw [q, hg] at ht; cases ht
    exact blk_far (blk_far hb hne _) hne _
  exact { h.md with nw := h.md.nw.set_d hx j hj e h.v, bw := far _ h.md.tw h.md.bw, bs := far _ h.md.ts h.md.bs }
theorem Lq.top (h : Lq w0 B W tag t d r x s gw gs W3 tag3) (y : Int) : Lq w0 B W tag t d r x { s with top := y } gw gs (W3.setCell ⟨gw, 11, none⟩ (.int .u64 y)) tag3 := by
  have h1 := h.nw.set0 h.tw h.hw (Nat.le_trans h.b0 h.hw) 11 (.int .u64 y)
  refine ⟨⟨h1.c, h1.l, h1.u, h1.v, h1.d, h1.r, h1.g, h1.b, h1.dl, h1.dv, h1.bel, h1.base, h1.fresh, h1.size, h1.tg, h1.kp⟩, ?_, blk_far h.bs (fun e => h.ws e.symm) _, h.ws, h.ts, h.tw, h.hw, h.hs, h.b0⟩
  have := blk_set h.bw 11 (.int .u64 y)
  exact this
theorem Lg.ok12 (h : Lg w0 B W tag t d r x s gw gs e A n c l gb W3 tag3) (hne : gw ≠ gb) : Lg w0 B W tag t d r x s gw gs e A n c l gb (W3.setCell ⟨gw, 12, none⟩ (.bool true)) tag3 := by
  have hb : (W3.setCell ⟨gw, 12, none⟩ (.bool true)).heap[gw]? = some (nblk t d r x s.top true) := by
    have := blk_set h.md.bw 12 (.bool true)
    exact this
  exact ⟨{ h.md with nw := h.md.nw.set0 h.md.tw h.md.hw (Nat.le_trans h.md.b0 h.md.hw) 12 _, bw := hb, bs := blk_far h.md.bs (fun e => h.md.ws e.symm) _ }, blk_far h.bb (fun q => hne q.symm) _, h.tb, Kd.V_far (p := ⟨gw, 12, none⟩) h.v (fun k hk q => by simp only at q; rw [q, h.md.tw] at hk; cases hk) _⟩
end
/-- The first m requests. -/
def papm (s : St) (a : Int) (m : Nat) : List S116 := (List.range m).map fun (k : Nat) => ⟨a, (k : Int), (s.ld a).f0, s.clk a, s.lf a⟩
theorem papm_succ (s : St) (a : Int) (m : Nat) : papm s a (m + 1) = papm s a m ++ [⟨a, (m : Int), (s.ld a).f0, s.clk a, s.lf a⟩] := by simp [papm, List.range_succ]
theorem papm_len (s : St) (a : Int) (m : Nat) : (papm s a m).length = m := by simp [papm]
theorem none_length (n : Nat) : (none_ n).length = n := by simp [none_]
set_option maxHeartbeats 2000000 in
theorem asks_again (w0 : World) (B : Nat) (W : World) (tag : Nat → Nat) (x : NV) (s : St) (t d r : Int) (n i : Nat) (h : Nw w0 B W tag W tag x s) (hd : Bd t n i s) (hi : i < 90) (hn : 2 ≤ n ∧ n ≤ 5) (q0 : Nat) (ha : q0 < n) (he : (s.ld (q0 : Int)).f0 ≠ 0) : Calls Try.prog 60 #[.agg #[.int .i64 t, .int .i64 d, .int .i64 r, x.c, x.l, x.u, x.v, x.d, x.r, x.g, x.b, .int .u64 s.top, .bool true], .int .i64 (q0 : Int), .bool false] W (Ps2 w0 B W tag t d r (s.ask n (q0 : Int))) := by
  obtain ⟨A1, A2, A3, A4, A5, A6, A7, A8, c1, c2, c3, c4, c5, c6, c7, c8, hx⟩ := h.open
  obtain ⟨raw, vc, vl, vu, vv, vd, vr, vg, vb⟩ := x
  injection hx with hx0 hx1 hx2 hx3 hx4 hx5 hx6 hx7 hx8
  subst hx1 hx2 hx3 hx4 hx5 hx6 hx7 hx8
  clear hx0
  have hu80 := Try.underlying80
  have hu116 := Try.underlying116
  have hu52 := Try.underlying52
  have hlc : n ≤ s.clock.length := Nat.le_of_eq hd.lc.symm
  have hlc2 : s.clock.length ≤ n := Nat.le_of_eq hd.lc
  have hll : n ≤ s.life.length := Nat.le_of_eq hd.ll.symm
  have hlld : n ≤ s.leads.length := Nat.le_of_eq hd.lld.symm
  have hrl := hd.rl
  have HH := Lib.hid h
  have HLC := Lib.hid hd.lc
  have HEP := Lib.hid he
  clear h hd he
  go_enter Try.func60, Try.ntmps60
  go_upto_region 1 with (fail)
  refine wp_gen (fun W1 => Ent w0 B W tag t d r _ s true W.heap.size (W.heap.size + 1) W1) (Ent.start HH.out t d r true) ?_
  intro W1 hE
  generalize W.heap.size + 1 = gs at hE ⊢
  generalize W.heap.size = gw at hE ⊢
  obtain ⟨gd, cd, ed, _, ld, td, hd2⟩ := hE.nw.row_d (by omega)
  obtain ⟨Ad, nd, ⟨d0, d1⟩, dv, df⟩ := hd2 q0 (by omega)
  injection ed with ed ed2 ed3
  clear ed2
  subst ed ed3
  have eld : s.leads.getD q0 z52 = s.ld (q0 : Int) := by unfold St.ld; rw [Int.toNat_natCast]
  rw [eld] at d0 d1
  have hep0 : ((s.ld (q0 : Int)).f0 == 0) = false := beq_eq_false_iff_ne.2 HEP.out
  obtain ⟨z0, z1, z2, z3, z4, z5, z6, z7, z8, z9, z10, z11, z12⟩ := nblk_cells hE.bw
  have HE := Lib.hid hE
  have hq2 : (q0 : Int) < (s.leads.length : Int) := by omega
  have hq0 : (0 : Int) ≤ (q0 : Int) := by omega
  clear hE hd2 df dv eld z0 z1 z2 z3 z4 z5 z6 z8 z9 z10 z11 z12
  go_upto_region 6 with (fail)
  clear d0 d1 z7 hep0
  refine wp_gen (fun W2 => Lq w0 B W tag t d r ⟨raw, .slice A1 s.clock.length c1, .slice A2 s.life.length c2, .slice A3 s.up.length c3, .slice A4 s.votes.length c4, .slice (some ⟨gd, 0, none⟩) s.leads.length c5, .slice A6 s.reqs.length c6, .slice A7 s.grs.length c7, .slice A8 s.beats.length c8⟩ s gw gs W2 tag) (Lq.start HE.out) ?_
  intro W2 hL
  have HL := Lib.hid hL
  clear hL
  go_wp2_with fail
  go_loopg [9] (s.clock.length) (fun gg v9 wr => ∃ m : Nat, v9 = .int .i64 (m : Int) ∧ Aside0 (m ≤ s.clock.length) ∧ Aside0 (s.clock.length ≤ gg + m) ∧ ∃ (RL : List S116) (Ar : Option Addr) (cr : Nat) (tg : Nat → Nat), Aside0 (RL = s.reqs ++ papm s (q0 : Int) m) ∧ Aside0 (Lq w0 B W tag t d r ⟨raw, .slice A1 s.clock.length c1, .slice A2 s.life.length c2, .slice A3 s.up.length c3, .slice A4 s.votes.length c4, .slice (some ⟨gd, 0, none⟩) s.leads.length c5, .slice Ar RL.length cr, .slice A7 s.grs.length c7, .slice A8 s.beats.length c8⟩ { s with reqs := RL } gw gs wr tg))
  case atStart => exact ⟨0, rfl, ⟨Nat.zero_le _⟩, ⟨by omega⟩, s.reqs, A6, c6, tag, ⟨by simp [papm]⟩, ⟨HL.out⟩⟩
  case round =>
    obtain ⟨m, rfl, a1, a2, RL, Ar, cr, tg, a4, a3⟩ := hrel
    obtain ⟨z0, z1, z2, z3, z4, z5, z6, z7, z8, z9, z10, z11, z12⟩ := nblk_cells a3.out.bw
    by_cases hm : m < s.clock.length
    · have hmi : (m : Int) < (s.clock.length : Int) := by omega
      have hm0 : (0 : Int) ≤ (m : Int) := by omega
      obtain ⟨gc, cc, ec, _, lc, tc, hc⟩ := a3.out.nw.row_c (show 0 < s.clock.length by omega)
      obtain ⟨gl, cl, el, _, ll, tl, hl2⟩ := a3.out.nw.row_l (show 0 < s.life.length by omega)
      obtain ⟨gd', cd', ed, _, ld', td', hd2⟩ := a3.out.nw.row_d (show 0 < s.leads.length by omega)
      obtain ⟨y0, y1⟩ := hc q0 (show q0 < s.clock.length by omega)
      obtain ⟨l0, l1⟩ := hl2 q0 (show q0 < s.life.length by omega)
      obtain ⟨Ad', nd', ⟨d0, d1⟩, dv, df⟩ := hd2 q0 (show q0 < s.leads.length by omega)
      injection ec with ec ec2 ec3
      clear ec2
      injection el with el el2 el3
      clear el2
      injection ed with ed ed2 ed3
      clear ed2
      injection ed with ed
      injection ed with ed
      subst ec ec3 el el3 ed ed3
      have eld : s.leads.getD q0 z52 = s.ld (q0 : Int) := by unfold St.ld; rw [Int.toNat_natCast]
      have elf : s.life.getD q0 0 = s.lf (q0 : Int) := by unfold St.lf; rw [Int.toNat_natCast]
      have eck : s.clock.getD q0 0 = s.clk (q0 : Int) := by unfold St.clk; rw [Int.toNat_natCast]
      dsimp only at y0 l0 d0
      rw [eck] at y0
      rw [elf] at l0
      rw [eld] at d0
      have hlen : RL.length ≤ 1000 := by rw [a4.out, List.length_append, papm_len]; omega
      have gcw : gc ≠ gw := fun e => by rw [e, a3.out.tw] at tc; cases tc
      have glw : gl ≠ gw := fun e => by rw [e, a3.out.tw] at tl; cases tl
      have gdw : gd ≠ gw := fun e => by rw [e, a3.out.tw] at td'; cases td'
      have gcw2 : gw ≠ gc := fun e => gcw e.symm
      have glw2 : gw ≠ gl := fun e => glw e.symm
      have gdw2 : gw ≠ gd := fun e => gdw e.symm
      have lw := blk_lt a3.out.bw
      have gwn0 : wr.heap.size ≠ gw := by omega
      have gwn1 : gw ≠ wr.heap.size := by omega
      have gdn0 : wr.heap.size ≠ gd := by omega
      have gdn1 : gd ≠ wr.heap.size := by omega
      have gcn0 : wr.heap.size ≠ gc := by omega
      have gcn1 : gc ≠ wr.heap.size := by omega
      have gln0 : wr.heap.size ≠ gl := by omega
      have gln1 : gl ≠ wr.heap.size := by omega
      have hq3 : (q0 : Int) < (s.clock.length : Int) := by omega
      have hq4 : (q0 : Int) < (s.life.length : Int) := by omega
      obtain ⟨E0, hE0⟩ : ∃ y, y = (s.ld (q0 : Int)).f0 := ⟨_, rfl⟩
      obtain ⟨E1, hE1⟩ : ∃ y, y = s.clk (q0 : Int) := ⟨_, rfl⟩
      obtain ⟨E2, hE2⟩ : ∃ y, y = s.lf (q0 : Int) := ⟨_, rfl⟩
      have HE0 := Lib.hid hE0
      have HE1 := Lib.hid hE1
      have HE2 := Lib.hid hE2
      rw [← hE0] at d0
      rw [← hE1] at y0
      rw [← hE2] at l0
      clear hc hl2 hd2 dv df d1 y1 l1 z0 z1 z2 z5 z6 z9 z10 z11 z12 eld elf eck hE0 hE1 hE2
      go_upto_region 9 with (fail)
      refine wp_region_held_drew (S := (fun w' => w'.cell? ⟨gw, 3, none⟩ = some (.slice (some ⟨gc, 0, none⟩) s.clock.length c1) ∧ w'.cell? ⟨gw, 4, none⟩ = some (.slice (some ⟨gl, 0, none⟩) s.life.length c2) ∧ w'.cell? ⟨gw, 7, none⟩ = some (.slice (some ⟨gd, 0, none⟩) s.leads.length c5) ∧ w'.cell? ⟨gc, q0, none⟩ = some (.int .i64 E1) ∧ w'.cell? ⟨gl, q0, none⟩ = some (.int .i64 E2) ∧ w'.cell? ⟨gd, q0 * 2, none⟩ = some (.int .u64 E0))) (by kernel_rfl) (by first | go_keep | (refine ⟨?_, ?_, ?_, ?_, ?_, ?_⟩ <;> first | assumption | go_keep) | assumption) (fun hHeld => ?_)
      refine wpAnyH_take (i := 0) (v := ?_) rfl (by kernel_rfl) (by kernel_rfl) (by kernel_rfl) (fun _ _ _ h => h) (Or.inl ⟨by rfl, ?_⟩) (by assumption) ?_
      rotate_left
      · intro w hSw; (try dsimp only at hSw); go_simp; (try with_reducible rfl)
      simp only [Act.put, List.setIfInBounds_toArray, List.set_cons_zero, List.set_cons_succ]
      refine wpAnyH_take (i := 2) (v := ?_) rfl (by kernel_rfl) (by kernel_rfl) (by kernel_rfl) (fun _ _ _ h => h) (Or.inl ⟨by rfl, ?_⟩) (by assumption) ?_
      rotate_left
      · intro w hSw; (try dsimp only at hSw); go_simp; (try with_reducible rfl)
      simp only [Act.put, List.setIfInBounds_toArray, List.set_cons_zero, List.set_cons_succ]
      refine wpAnyH_take (i := 3) (v := ?_) rfl (by kernel_rfl) (by kernel_rfl) (by kernel_rfl) (fun _ _ _ h => h) (Or.inl ⟨by rfl, ?_⟩) (by assumption) ?_
      rotate_left
      · intro w hSw; (try dsimp only at hSw); go_simp; (try with_reducible rfl)
      simp only [Act.put, List.setIfInBounds_toArray, List.set_cons_zero, List.set_cons_succ]
      refine wpAnyH_take (i := 4) (v := ?_) rfl (by kernel_rfl) (by kernel_rfl) (by kernel_rfl) (fun _ _ _ h => h) (Or.inl ⟨by rfl, ?_⟩) (by assumption) ?_
      rotate_left
      · intro w hSw; (try dsimp only at hSw); go_simp; (try with_reducible rfl)
      simp only [Act.put, List.setIfInBounds_toArray, List.set_cons_zero, List.set_cons_succ]
      refine wpAnyH_take (i := 5) (v := ?_) rfl (by kernel_rfl) (by kernel_rfl) (by kernel_rfl) (fun _ _ _ h => h) (Or.inl ⟨by rfl, ?_⟩) (by assumption) ?_
      rotate_left
      · intro w hSw; (try dsimp only at hSw); go_simp; (try with_reducible rfl)
      simp only [Act.put, List.setIfInBounds_toArray, List.set_cons_zero, List.set_cons_succ]
      refine wpAnyH_take (i := 6) (v := ?_) rfl (by kernel_rfl) (by kernel_rfl) (by kernel_rfl) (fun _ _ _ h => h) (Or.inl ⟨by rfl, ?_⟩) (by assumption) ?_
      rotate_left
      · intro w hSw; (try dsimp only at hSw); go_simp; (try with_reducible rfl)
      simp only [Act.put, List.setIfInBounds_toArray, List.set_cons_zero, List.set_cons_succ]
      refine wpAnyH_take (i := 7) (v := ?_) rfl (by kernel_rfl) (by kernel_rfl) (by kernel_rfl) (fun _ _ _ h => h) (Or.inl ⟨by rfl, ?_⟩) (by assumption) ?_
      rotate_left
      · intro w hSw; (try dsimp only at hSw); go_simp; (try with_reducible rfl)
      simp only [Act.put, List.setIfInBounds_toArray, List.set_cons_zero, List.set_cons_succ]
      refine wpAnyH_take (i := 8) (v := ?_) rfl (by kernel_rfl) (by kernel_rfl) (by kernel_rfl) (fun _ _ _ h => h) (Or.inl ⟨by rfl, ?_⟩) (by assumption) ?_
      rotate_left
      · intro w hSw; (try dsimp only at hSw); go_simp; (try with_reducible rfl)
      simp only [Act.put, List.setIfInBounds_toArray, List.set_cons_zero, List.set_cons_succ]
      refine wpAnyH_take (i := 9) (v := ?_) rfl (by kernel_rfl) (by kernel_rfl) (by kernel_rfl) (fun _ _ _ h => h) (Or.inl ⟨by rfl, ?_⟩) (by assumption) ?_
      rotate_left
      · intro w hSw; (try dsimp only at hSw); go_simp; (try with_reducible rfl)
      simp only [Act.put, List.setIfInBounds_toArray, List.set_cons_zero, List.set_cons_succ]
      refine wpAnyH_take (i := 10) (v := ?_) rfl (by kernel_rfl) (by kernel_rfl) (by kernel_rfl) (fun _ _ _ h => h) (Or.inl ⟨by rfl, ?_⟩) (by assumption) ?_
      rotate_left
      · intro w hSw; (try dsimp only at hSw); go_simp; (try with_reducible rfl)
      simp only [Act.put, List.setIfInBounds_toArray, List.set_cons_zero, List.set_cons_succ]
      refine wpAnyH_take (i := 11) (v := ?_) rfl (by kernel_rfl) (by kernel_rfl) (by kernel_rfl) (fun _ _ _ h => h) (Or.inl ⟨by rfl, ?_⟩) (by assumption) ?_
      rotate_left
      · intro w hSw; (try dsimp only at hSw); go_simp; (try with_reducible rfl)
      simp only [Act.put, List.setIfInBounds_toArray, List.set_cons_zero, List.set_cons_succ]
      refine wpAnyH_take (i := 12) (v := ?_) rfl (by kernel_rfl) (by kernel_rfl) (by kernel_rfl) (fun _ _ _ h => h) (Or.inl ⟨by rfl, ?_⟩) (by assumption) ?_
      rotate_left
      · intro w hSw; (try dsimp only at hSw); go_simp; (try with_reducible rfl)
      simp only [Act.put, List.setIfInBounds_toArray, List.set_cons_zero, List.set_cons_succ]
      refine wpAnyH_take (i := 13) (v := ?_) rfl (by kernel_rfl) (by kernel_rfl) (by kernel_rfl) (fun _ _ _ h => h) (Or.inl ⟨by rfl, ?_⟩) (by assumption) ?_
      rotate_left
      · intro w hSw; (try dsimp only at hSw); go_simp; (try with_reducible rfl)
      simp only [Act.put, List.setIfInBounds_toArray, List.set_cons_zero, List.set_cons_succ]
      refine wpAnyH_take (i := 14) (v := ?_) rfl (by kernel_rfl) (by kernel_rfl) (by kernel_rfl) (fun _ _ _ h => h) (Or.inl ⟨by rfl, ?_⟩) (by assumption) ?_
      rotate_left
      · intro w hSw; (try dsimp only at hSw); go_simp; (try with_reducible rfl)
      simp only [Act.put, List.setIfInBounds_toArray, List.set_cons_zero, List.set_cons_succ]
      refine wpAnyH_take (i := 15) (v := ?_) rfl (by kernel_rfl) (by kernel_rfl) (by kernel_rfl) (fun _ _ _ h => h) (Or.inl ⟨by rfl, ?_⟩) (by assumption) ?_
      rotate_left
      · intro w hSw; (try dsimp only at hSw); go_simp; (try with_reducible rfl)
      simp only [Act.put, List.setIfInBounds_toArray, List.set_cons_zero, List.set_cons_succ]
      refine wpAnyH_take (i := 16) (v := ?_) rfl (by kernel_rfl) (by kernel_rfl) (by kernel_rfl) (fun _ _ _ h => h) (Or.inl ⟨by rfl, ?_⟩) (by assumption) ?_
      rotate_left
      · intro w hSw; (try dsimp only at hSw); go_simp; (try with_reducible rfl)
      simp only [Act.put, List.setIfInBounds_toArray, List.set_cons_zero, List.set_cons_succ]
      refine wpAnyH_take (i := 17) (v := ?_) rfl (by kernel_rfl) (by kernel_rfl) (by kernel_rfl) (fun _ _ _ h => h) (Or.inl ⟨by rfl, ?_⟩) (by assumption) ?_
      rotate_left
      · intro w hSw; (try dsimp only at hSw); go_simp; (try with_reducible rfl)
      simp only [Act.put, List.setIfInBounds_toArray, List.set_cons_zero, List.set_cons_succ]
      refine wpAnyH_take (i := 18) (v := ?_) rfl (by kernel_rfl) (by kernel_rfl) (by kernel_rfl) (fun _ _ _ h => h) (Or.inl ⟨by rfl, ?_⟩) (by assumption) ?_
      rotate_left
      · intro w hSw; (try dsimp only at hSw); go_simp; (try with_reducible rfl)
      simp only [Act.put, List.setIfInBounds_toArray, List.set_cons_zero, List.set_cons_succ]
      refine wpAnyH_take (i := 19) (v := ?_) rfl (by kernel_rfl) (by kernel_rfl) (by kernel_rfl) (fun _ _ _ h => h) (Or.inl ⟨by rfl, ?_⟩) (by assumption) ?_
      rotate_left
      · intro w hSw; (try dsimp only at hSw); go_simp; (try with_reducible rfl)
      simp only [Act.put, List.setIfInBounds_toArray, List.set_cons_zero, List.set_cons_succ]
      refine wpAnyH_take (i := 20) (v := ?_) rfl (by kernel_rfl) (by kernel_rfl) (by kernel_rfl) (fun _ _ _ h => h) (Or.inl ⟨by rfl, ?_⟩) (by assumption) ?_
      rotate_left
      · intro w hSw; (try dsimp only at hSw); go_simp; (try with_reducible rfl)
      simp only [Act.put, List.setIfInBounds_toArray, List.set_cons_zero, List.set_cons_succ]
      refine wpAnyH_ready (rs := [1, 21]) (by kernel_rfl) (by simp) ?_
      refine AllReadyH.cons (by rfl) (fun K hK => ?_) (AllReadyH.cons (by rfl) (fun K hK => ?_) AllReadyH.nil)
      go_simp
      refine hK.out _ _ (by first | go_keep | (refine ⟨?_, ?_, ?_, ?_, ?_, ?_⟩ <;> first | assumption | go_keep) | assumption) (fun hHeld => ?_)
      clear hK K
      (try simp only [Act.put, List.setIfInBounds_toArray, List.set_cons_zero, List.set_cons_succ])
      refine wpAnyH_ready (rs := [21]) (by kernel_rfl) (by simp) ?_
      refine AllReadyH.cons (by rfl) (fun K hK => ?_) AllReadyH.nil
      go_simp
      refine hK.out _ _ (by first | go_keep | (refine ⟨?_, ?_, ?_, ?_, ?_, ?_⟩ <;> first | assumption | go_keep) | assumption) (fun hHeld => ?_)
      clear hK K
      (try simp only [Act.put, List.setIfInBounds_toArray, List.set_cons_zero, List.set_cons_succ])
      refine wpAnyH_ready (rs := [22]) (by kernel_rfl) (by simp) ?_
      refine AllReadyH.cons (by rfl) (fun K hK => ?_) AllReadyH.nil
      refine Kd.R_append_step k116 (w0 := w0) (W := wr.drew) B (by rfl) (.tmp 55) (.tmp 75) 77 116 (.agg #[.int .i64 0, .int .i64 0, .int .u64 0, .int .i64 0, .int .i64 0]) 40 (by rfl) Try.underlying77 info116b (by rfl) (by decide) (by omega) (.slice Ar RL.length cr) RL ⟨(q0 : Int), (m : Int), E0, E1, E2⟩ [.int .i64 (q0 : Int), .int .i64 (m : Int), .int .u64 E0, .int .i64 E1, .int .i64 E2] (fun k => tg k = 6 ∨ wr.drew.heap.size ≤ k) (fun _ => False) (by rfl) (by rfl) (k116_mkM _ _ _ ⟨(q0 : Int), (m : Int), E0, E1, E2⟩) (fun _ h => h.elim) (fun k hk => .inr hk) (Kd.R_mono a3.out.drew.nw.r (fun k hk => .inl hk)) a3.out.drew.nw.bel a3.out.drew.nw.base (by omega) ?_
      intro vn wn hR hBn hG hat
      obtain ⟨An, cn, hvn⟩ := Kd.R_slice hR
      rw [List.length_append, List.length_singleton] at hvn
      subst hvn
      obtain ⟨hF, hbw, hN⟩ := a3.out.drew.app hR hBn hG
      obtain ⟨k0, k1, k2, k3, k4, k5, k6, k7, k8, k9, k10, k11, k12⟩ := nblk_cells hbw
      have kf := blk_frozen hbw 8
      obtain ⟨gc', cc', ec, _, _, _, hc⟩ := hN.row_c (show 0 < s.clock.length by omega)
      obtain ⟨gl', cl', el, _, _, _, hl2⟩ := hN.row_l (show 0 < s.life.length by omega)
      obtain ⟨gd', cd', ed, _, _, _, hd2⟩ := hN.row_d (show 0 < s.leads.length by omega)
      injection ec with ec ec2 ec3
      clear ec2
      injection ec with ec
      injection ec with ec
      injection el with el el2 el3
      clear el2
      injection el with el
      injection el with el
      injection ed with ed ed2 ed3
      clear ed2
      injection ed with ed
      injection ed with ed
      subst ec el ed ec3 el3 ed3
      obtain ⟨_, _, ⟨kd0, _⟩, _, _⟩ := hd2 q0 (show q0 < s.leads.length by omega)
      have kc : wn.cell? ⟨gc, q0, none⟩ = some (.int .i64 E1) := by rw [HE1.out]; unfold St.clk; rw [Int.toNat_natCast]; exact (hc q0 (show q0 < s.clock.length by omega)).1
      have kl : wn.cell? ⟨gl, q0, none⟩ = some (.int .i64 E2) := by rw [HE2.out]; unfold St.lf; rw [Int.toNat_natCast]; exact (hl2 q0 (show q0 < s.life.length by omega)).1
      have kd : wn.cell? ⟨gd, q0 * 2, none⟩ = some (.int .u64 E0) := by rw [HE0.out]; unfold St.ld; rw [Int.toNat_natCast]; exact kd0
      have s3 : (wn.setCell ⟨gw, 8, none⟩ (.slice An (RL.length + 1) cn)).cell? ⟨gw, 3, none⟩ = some (.slice (some ⟨gc, 0, none⟩) s.clock.length c1) := (World.cell?_setCell_other _ _ _ _ (by simp)).trans k3
      have s4 : (wn.setCell ⟨gw, 8, none⟩ (.slice An (RL.length + 1) cn)).cell? ⟨gw, 4, none⟩ = some (.slice (some ⟨gl, 0, none⟩) s.life.length c2) := (World.cell?_setCell_other _ _ _ _ (by simp)).trans k4
      have s7 : (wn.setCell ⟨gw, 8, none⟩ (.slice An (RL.length + 1) cn)).cell? ⟨gw, 7, none⟩ = some (.slice (some ⟨gd, 0, none⟩) s.leads.length c5) := (World.cell?_setCell_other _ _ _ _ (by simp)).trans k7
      have HF := Lib.hid hF
      clear hR hBn hG hat hF hbw hN hc hl2 hd2 kd0 k0 k1 k2 k5 k6 k9 k10 k11 k12
      refine hK.out _ _ (by first | go_keep | (refine ⟨?_, ?_, ?_, ?_, ?_, ?_⟩ <;> first | assumption | go_keep) | assumption) (fun hHeld => ?_)
      clear hK K
      (try simp only [Act.put, List.setIfInBounds_toArray, List.set_cons_zero, List.set_cons_succ])
      refine wpAnyH_take (i := 23) (v := ?_) rfl (by kernel_rfl) (by kernel_rfl) (by kernel_rfl) (fun _ _ _ h => h) (Or.inl ⟨by rfl, ?_⟩) (by assumption) ?_
      rotate_left
      · intro w hSw; (try dsimp only at hSw); go_simp; (try with_reducible rfl)
      simp only [Act.put, List.setIfInBounds_toArray, List.set_cons_zero, List.set_cons_succ]
      refine wpAnyH_ready (rs := [24]) (by kernel_rfl) (by simp) ?_
      refine AllReadyH.cons (by rfl) (fun K hK => ?_) AllReadyH.nil
      go_simp
      refine hK.out _ _ (by first | go_keep | (refine ⟨?_, ?_, ?_, ?_, ?_, ?_⟩ <;> first | assumption | go_keep) | assumption) (fun hHeld => ?_)
      clear hK K
      (try simp only [Act.put, List.setIfInBounds_toArray, List.set_cons_zero, List.set_cons_succ])
      refine wpAnyH_done (by kernel_rfl) ?_ _
      rotate_left
      go_simp
      refine hK.out _ _ (by first | go_keep | (refine ⟨?_, ?_, ?_, ?_, ?_, ?_⟩ <;> first | assumption | go_keep) | assumption) (fun hHeld => ?_)
      clear hK K
      (try simp only [Act.put, List.setIfInBounds_toArray, List.set_cons_zero, List.set_cons_succ])
      refine wpAnyH_ready (rs := [1]) (by kernel_rfl) (by simp) ?_
      refine AllReadyH.cons (by rfl) (fun K hK => ?_) AllReadyH.nil
      go_simp
      refine hK.out _ _ (by first | go_keep | (refine ⟨?_, ?_, ?_, ?_, ?_, ?_⟩ <;> first | assumption | go_keep) | assumption) (fun hHeld => ?_)
      clear hK K
      (try simp only [Act.put, List.setIfInBounds_toArray, List.set_cons_zero, List.set_cons_succ])
      refine wpAnyH_ready (rs := [22]) (by kernel_rfl) (by simp) ?_
      refine AllReadyH.cons (by rfl) (fun K hK => ?_) AllReadyH.nil
      refine Kd.R_append_step k116 (w0 := w0) (W := wr.drew) B (by rfl) (.tmp 55) (.tmp 75) 77 116 (.agg #[.int .i64 0, .int .i64 0, .int .u64 0, .int .i64 0, .int .i64 0]) 40 (by rfl) Try.underlying77 info116b (by rfl) (by decide) (by omega) (.slice Ar RL.length cr) RL ⟨(q0 : Int), (m : Int), E0, E1, E2⟩ [.int .i64 (q0 : Int), .int .i64 (m : Int), .int .u64 E0, .int .i64 E1, .int .i64 E2] (fun k => tg k = 6 ∨ wr.drew.heap.size ≤ k) (fun _ => False) (by rfl) (by rfl) (k116_mkM _ _ _ ⟨(q0 : Int), (m : Int), E0, E1, E2⟩) (fun _ h => h.elim) (fun k hk => .inr hk) (Kd.R_mono a3.out.drew.nw.r (fun k hk => .inl hk)) a3.out.drew.nw.bel a3.out.drew.nw.base (by omega) ?_
      intro vn wn hR hBn hG hat
      obtain ⟨An, cn, hvn⟩ := Kd.R_slice hR
      rw [List.length_append, List.length_singleton] at hvn
      subst hvn
      obtain ⟨hF, hbw, hN⟩ := a3.out.drew.app hR hBn hG
      obtain ⟨k0, k1, k2, k3, k4, k5, k6, k7, k8, k9, k10, k11, k12⟩ := nblk_cells hbw
      have kf := blk_frozen hbw 8
      obtain ⟨gc', cc', ec, _, _, _, hc⟩ := hN.row_c (show 0 < s.clock.length by omega)
      obtain ⟨gl', cl', el, _, _, _, hl2⟩ := hN.row_l (show 0 < s.life.length by omega)
      obtain ⟨gd', cd', ed, _, _, _, hd2⟩ := hN.row_d (show 0 < s.leads.length by omega)
      injection ec with ec ec2 ec3
      clear ec2
      injection ec with ec
      injection ec with ec
      injection el with el el2 el3
      clear el2
      injection el with el
      injection el with el
      injection ed with ed ed2 ed3
      clear ed2
      injection ed with ed
      injection ed with ed
      subst ec el ed ec3 el3 ed3
      obtain ⟨_, _, ⟨kd0, _⟩, _, _⟩ := hd2 q0 (show q0 < s.leads.length by omega)
      have kc : wn.cell? ⟨gc, q0, none⟩ = some (.int .i64 E1) := by rw [HE1.out]; unfold St.clk; rw [Int.toNat_natCast]; exact (hc q0 (show q0 < s.clock.length by omega)).1
      have kl : wn.cell? ⟨gl, q0, none⟩ = some (.int .i64 E2) := by rw [HE2.out]; unfold St.lf; rw [Int.toNat_natCast]; exact (hl2 q0 (show q0 < s.life.length by omega)).1
      have kd : wn.cell? ⟨gd, q0 * 2, none⟩ = some (.int .u64 E0) := by rw [HE0.out]; unfold St.ld; rw [Int.toNat_natCast]; exact kd0
      have s3 : (wn.setCell ⟨gw, 8, none⟩ (.slice An (RL.length + 1) cn)).cell? ⟨gw, 3, none⟩ = some (.slice (some ⟨gc, 0, none⟩) s.clock.length c1) := (World.cell?_setCell_other _ _ _ _ (by simp)).trans k3
      have s4 : (wn.setCell ⟨gw, 8, none⟩ (.slice An (RL.length + 1) cn)).cell? ⟨gw, 4, none⟩ = some (.slice (some ⟨gl, 0, none⟩) s.life.length c2) := (World.cell?_setCell_other _ _ _ _ (by simp)).trans k4
      have s7 : (wn.setCell ⟨gw, 8, none⟩ (.slice An (RL.length + 1) cn)).cell? ⟨gw, 7, none⟩ = some (.slice (some ⟨gd, 0, none⟩) s.leads.length c5) := (World.cell?_setCell_other _ _ _ _ (by simp)).trans k7
      have HF := Lib.hid hF
      clear hR hBn hG hat hF hbw hN hc hl2 hd2 kd0 k0 k1 k2 k5 k6 k9 k10 k11 k12
      refine hK.out _ _ (by first | go_keep | (refine ⟨?_, ?_, ?_, ?_, ?_, ?_⟩ <;> first | assumption | go_keep) | assumption) (fun hHeld => ?_)
      clear hK K
      (try simp only [Act.put, List.setIfInBounds_toArray, List.set_cons_zero, List.set_cons_succ])
      refine wpAnyH_take (i := 23) (v := ?_) rfl (by kernel_rfl) (by kernel_rfl) (by kernel_rfl) (fun _ _ _ h => h) (Or.inl ⟨by rfl, ?_⟩) (by assumption) ?_
      rotate_left
      · intro w hSw; (try dsimp only at hSw); go_simp; (try with_reducible rfl)
      simp only [Act.put, List.setIfInBounds_toArray, List.set_cons_zero, List.set_cons_succ]
      refine wpAnyH_ready (rs := [24]) (by kernel_rfl) (by simp) ?_
      refine AllReadyH.cons (by rfl) (fun K hK => ?_) AllReadyH.nil
      go_simp
      refine hK.out _ _ (by first | go_keep | (refine ⟨?_, ?_, ?_, ?_, ?_, ?_⟩ <;> first | assumption | go_keep) | assumption) (fun hHeld => ?_)
      clear hK K
      (try simp only [Act.put, List.setIfInBounds_toArray, List.set_cons_zero, List.set_cons_succ])
      refine wpAnyH_done (by kernel_rfl) ?_ _
      all_goals go_wp2
      all_goals
        go_roundg (s.clock.length - (m + 1))
        case measure => have := a2.out; omega
        case rel => exact ⟨m + 1, by first | rfl | go_num | (simp; done), ⟨by omega⟩, ⟨by omega⟩, RL ++ [⟨(q0 : Int), (m : Int), E0, E1, E2⟩], An, cn, _, ⟨by rw [papm_succ, ← List.append_assoc, ← a4.out, HE0.out, HE1.out, HE2.out]⟩, ⟨by rw [List.length_append, List.length_singleton]; exact HF.out⟩⟩
    · have e : m = s.clock.length := by have := a1.out; omega
      subst e
      have hfin : { s with reqs := RL } = s.ask n (q0 : Int) := by
        rw [a4.out, HLC.out]
        rfl
      have h3 := a3.out
      rw [hfin] at h3
      have H3 := Lib.hid h3
      clear h3 hfin z0 z1 z2 z4 z5 z6 z7 z8 z9 z10 z11 z12
      go_upto_region 10 with (fail)
      refine reg_ret 78 (gw := gw) (gs := gs) (by rfl) (by rfl) (by rfl) (by rfl) (by rfl) (by rfl) (by rfl) (by rfl) (by rfl) H3.out.bw H3.out.bs (by rfl) (by rfl) (by simp [Value.oneCell']) ?_
      go_wp2
      exact fin_ret2 (by rfl) (by rfl) (by rfl) H3.out.bs H3.out.nw H3.out.ts H3.out.hs (Nat.le_trans H3.out.b0 H3.out.hs)
set_option maxHeartbeats 2000000 in
theorem asks_fresh (w0 : World) (B : Nat) (W : World) (tag : Nat → Nat) (x : NV) (s : St) (t d r : Int) (n i : Nat) (h : Nw w0 B W tag W tag x s) (hd : Bd t n i s) (hi : i < 90) (hn : 2 ≤ n ∧ n ≤ 5) (q0 : Nat) (ha : q0 < n)  : Calls Try.prog 60 #[.agg #[.int .i64 t, .int .i64 d, .int .i64 r, x.c, x.l, x.u, x.v, x.d, x.r, x.g, x.b, .int .u64 s.top, .bool true], .int .i64 (q0 : Int), .bool true] W (Ps2 w0 B W tag t d r ((s.start n (q0 : Int)).ask n (q0 : Int))) := by
  obtain ⟨A1, A2, A3, A4, A5, A6, A7, A8, c1, c2, c3, c4, c5, c6, c7, c8, hx⟩ := h.open
  obtain ⟨raw, vc, vl, vu, vv, vd, vr, vg, vb⟩ := x
  injection hx with hx0 hx1 hx2 hx3 hx4 hx5 hx6 hx7 hx8
  subst hx1 hx2 hx3 hx4 hx5 hx6 hx7 hx8
  clear hx0
  have hu80 := Try.underlying80
  have hu116 := Try.underlying116
  have hu52 := Try.underlying52
  have hlc : n ≤ s.clock.length := Nat.le_of_eq hd.lc.symm
  have hlc2 : s.clock.length ≤ n := Nat.le_of_eq hd.lc
  have hll : n ≤ s.life.length := Nat.le_of_eq hd.ll.symm
  have hlld : n ≤ s.leads.length := Nat.le_of_eq hd.lld.symm
  have hrl := hd.rl
  have HH := Lib.hid h
  have HLC := Lib.hid hd.lc
  have htp : 0 ≤ s.top ∧ s.top ≤ 90 := by have := hd.tp; omega
  have hld := hd.ld (q0 : Int) ⟨by omega, by omega⟩
  have hok : leadok (s.ld (q0 : Int)).f1 = true := leadok_of (by rw [hld.2.1]; omega) (by rw [hld.2.1]; omega) (fun y hy => by have := hld.2.2 y hy; omega)
  have hst : lead_Start.f (s.ld (q0 : Int)).f0 (s.ld (q0 : Int)).f1 (s.top + 1) = some (s.top + 1, none_ n, 0) := by
    unfold lead_Start.f lead_Check.f
    rw [hok, if_pos rfl, Option.bind_some, if_pos rfl, if_neg (by have := hld.1; omega), hld.2.1, lnew_eq _ (by omega) (by omega), Option.bind_some]
    rfl
  have HST := Lib.hid hst
  obtain ⟨ht0, ht1⟩ := htp
  clear h hd hld hok hst
  go_enter Try.func60, Try.ntmps60
  go_upto_region 1 with (fail)
  refine wp_gen (fun W1 => Ent w0 B W tag t d r _ s true W.heap.size (W.heap.size + 1) W1) (Ent.start HH.out t d r true) ?_
  intro W1 hE
  generalize W.heap.size + 1 = gs at hE ⊢
  generalize W.heap.size = gw at hE ⊢
  obtain ⟨gd, cd, ed, _, ld, td, hd2⟩ := hE.nw.row_d (by omega)
  obtain ⟨Ad, nd, ⟨d0, d1⟩, dv, df⟩ := hd2 q0 (by omega)
  injection ed with ed ed2 ed3
  clear ed2
  subst ed ed3
  have eld : s.leads.getD q0 z52 = s.ld (q0 : Int) := by unfold St.ld; rw [Int.toNat_natCast]
  rw [eld] at d0 d1
  obtain ⟨z0, z1, z2, z3, z4, z5, z6, z7, z8, z9, z10, z11, z12⟩ := nblk_cells hE.bw
  have HE := Lib.hid hE
  have hq2 : (q0 : Int) < (s.leads.length : Int) := by omega
  have hq0 : (0 : Int) ≤ (q0 : Int) := by omega
  have zf := blk_frozen hE.bw 11
  clear hE hd2 df dv eld z0 z1 z2 z3 z4 z5 z6 z8 z9 z10 z12 z7
  go_upto_region 3 with (fail)
  refine wp_gen (fun W2 => Lq w0 B W tag t d r ⟨raw, .slice A1 s.clock.length c1, .slice A2 s.life.length c2, .slice A3 s.up.length c3, .slice A4 s.votes.length c4, .slice (some ⟨gd, 0, none⟩) s.leads.length c5, .slice A6 s.reqs.length c6, .slice A7 s.grs.length c7, .slice A8 s.beats.length c8⟩ { s with top := s.top + 1 } gw gs W2 tag) ((Lq.start HE.out).top (s.top + 1)) ?_
  intro W2 hM
  clear zf z11 d0 d1 
  obtain ⟨gd', cd', ed, _, ld, td', hd2⟩ := hM.nw.row_d (show 0 < s.leads.length by omega)
  obtain ⟨Ad, nd, ⟨d0, d1⟩, dv, df⟩ := hd2 q0 (show q0 < s.leads.length by omega)
  injection ed with ed ed2 ed3
  injection ed with ed
  injection ed with ed
  clear ed2
  subst ed ed3
  have eld : s.leads.getD q0 z52 = s.ld (q0 : Int) := by unfold St.ld; rw [Int.toNat_natCast]
  dsimp only at d0 d1 dv
  rw [eld] at d0 d1 dv
  have hst := HST.out
  obtain ⟨L, hL⟩ : ∃ L, L = s.ld (q0 : Int) := ⟨_, rfl⟩
  rw [← hL] at d0 d1 dv hst
  clear eld hL
  obtain ⟨le, ll⟩ := L
  simp only at d0 d1 dv hst
  obtain ⟨z0, z1, z2, z3, z4, z5, z6, z7, z8, z9, z10, z11, z12⟩ := nblk_cells hM.bw
  have lw3 := blk_lt hM.bw
  have HM3 := Lib.hid hM
  have HV := Lib.hid dv
  have HST2 := Lib.hid hst
  have gw1 : gw < W2.heap.size + 1 := by omega
  have gd1 : gd < W2.heap.size + 1 := by omega
  have gwn0 : W2.heap.size ≠ gw := by omega
  have gwn1 : gw ≠ W2.heap.size := by omega
  have gdn0 : W2.heap.size ≠ gd := by omega
  have gdn1 : gd ≠ W2.heap.size := by omega
  have gs1 : W2.heap.size < W2.heap.size + 1 := by omega
  clear hM hd2 dv hst z0 z1 z2 z3 z4 z5 z6 z8 z9 z10 z12 df
  go_cut [7, 8] (fun s7 s8 wx => s8 = .int .i64 0 ∧ ∃ (gb : Nat) (tg : Nat → Nat) (Ar : Option Addr) (cr : Nat), s7 = .pointer (some ⟨gb, 0, none⟩) ∧ gw ≠ gb ∧ Lg w0 B W tag t d r ⟨raw, .slice A1 s.clock.length c1, .slice A2 s.life.length c2, .slice A3 s.up.length c3, .slice A4 s.votes.length c4, .slice (some ⟨gd, 0, none⟩) s.leads.length c5, .slice A6 s.reqs.length c6, .slice A7 s.grs.length c7, .slice A8 s.beats.length c8⟩ { s with top := s.top + 1 } gw gs (s.top + 1) Ar n cr (none_ n) gb wx tg)
  case first =>
    go_region_held3 (fun w' => w'.cell? ⟨gw, 7, none⟩ = some (.slice (some ⟨gd, 0, none⟩) s.leads.length c5) ∧ w'.cell? ⟨gw, 11, none⟩ = some (.int .u64 (s.top + 1)) ∧ w'.cell? ⟨gd, q0 * 2, none⟩ = some (.int .u64 le) ∧ w'.cell? ⟨gd, q0 * 2 + 1, none⟩ = some (.slice Ad ll.length nd)) (go_keep)
      (first | (go_at_call 29
                refine (lead_Start.calls le (fun k => tag k = 9) Ad nd ll _ _ _ _ _ (Kd.V_below HV.out (by first | exact below_drew (Below.refl _ _) | exact below_drew (below_alloc (Below.refl _ _) _) | exact below_alloc (below_drew (Below.refl _ _)) _)) HST2.out).mono ?_
                rintro e w1 ⟨vr, rfl, hv, hb⟩
                obtain ⟨hcc, hff⟩ := bcell hb
                have hbT : Below W2.heap.size W2 w1 := by first | exact (below_drew (Below.refl _ _)).trans (hb.mono (by simp)) | exact (below_drew (below_alloc (Below.refl _ _) _)).trans (hb.mono (by simp)) | exact (below_alloc (below_drew (Below.refl _ _)) _).trans (hb.mono (by simp))
                have k0 := ((bcell hbT).1 gw 7 lw3).trans z7
                have k1 := ((bcell hbT).1 gw 11 lw3).trans z11
                have k2 := ((bcell hbT).1 gd (q0 * 2) ld).trans d0
                have k3 := ((bcell hbT).1 gd (q0 * 2 + 1) ld).trans d1
                have hbz := hbT.size
                have HB2 := Lib.hid hb
                have HBZ := Lib.hid hbz
                clear hbT hbz
                obtain ⟨Ar, cr, hvr⟩ := Kd.V_slice hv
                rw [none_length] at hvr
                subst hvr
                have HV2 := Lib.hid hv
                clear hb hv))
    all_goals (go_wp2; go_meet; case rel => first | exact ⟨rfl, _, _, _, _, rfl, by have := HBZ.out; omega, Lg.late HM3.out.drew HB2.out HV2.out⟩ | exact ⟨rfl, _, _, _, _, rfl, by omega, Lg.early (Wa := W2) rfl HM3.out HB2.out HV2.out⟩)
  case rest =>
    obtain ⟨rfl, gb, tg, Ar, cr, rfl, hgb, hM⟩ := hcut
    clear d0 d1 z7 z11 gw1 gd1 gwn0 gwn1 gdn0 gdn1 gs1 lw3 ld
    obtain ⟨z0, z1, z2, z3, z4, z5, z6, z7, z8, z9, z10, z11, z12⟩ := nblk_cells hM.md.bw
    have zf := blk_frozen hM.md.bw 12
    have HM4 := Lib.hid hM
    clear hM z0 z1 z2 z3 z4 z5 z6 z7 z8 z9 z10 z11
    go_upto_region 5 with (fail)
    refine wp_gen (fun W4 => Lg w0 B W tag t d r ⟨raw, .slice A1 s.clock.length c1, .slice A2 s.life.length c2, .slice A3 s.up.length c3, .slice A4 s.votes.length c4, .slice (some ⟨gd, 0, none⟩) s.leads.length c5, .slice A6 s.reqs.length c6, .slice A7 s.grs.length c7, .slice A8 s.beats.length c8⟩ { s with top := s.top + 1 } gw gs (s.top + 1) Ar n cr (none_ n) gb W4 tg) (HM4.out.ok12 hgb) ?_
    intro W4 hM
    clear z12 zf
    obtain ⟨z0, z1, z2, z3, z4, z5, z6, z7, z8, z9, z10, z11, z12⟩ := nblk_cells hM.md.bw
    have hb0 : W4.cell? ⟨gb, 0, none⟩ = some (.int .u64 (s.top + 1)) := (blk_cell hM.bb 0).trans rfl
    have hb1 : W4.cell? ⟨gb, 1, none⟩ = some (.slice Ar n cr) := (blk_cell hM.bb 1).trans rfl
    obtain ⟨gd', cd', ed, _, _, td', hd2⟩ := hM.md.nw.row_d (show 0 < s.leads.length by omega)
    injection ed with ed ed2 ed3
    injection ed with ed
    injection ed with ed
    clear ed2
    subst ed ed3
    obtain ⟨Ad', nd', ⟨d0, d1⟩, _, df⟩ := hd2 q0 (show q0 < s.leads.length by omega)
    have df0 := df 0
    have df1 := df 1
    rw [Nat.add_zero] at df0
    have HM5 := Lib.hid hM
    clear hM hd2 df z0 z1 z2 z3 z4 z5 z6 z8 z9 z10 z11 z12
    go_upto_region 6 with (fail)
    refine wp_gen (fun W5 => Lq w0 B W tag t d r ⟨(raw.set q0 (s.top + 1, Ar, n, cr)), .slice A1 s.clock.length c1, .slice A2 s.life.length c2, .slice A3 s.up.length c3, .slice A4 s.votes.length c4, .slice (some ⟨gd, 0, none⟩) s.leads.length c5, .slice A6 s.reqs.length c6, .slice A7 s.grs.length c7, .slice A8 s.beats.length c8⟩ (s.start n (q0 : Int)) gw gs W5 tg) (HM5.out.note rfl q0 (by omega)) ?_
    intro W5 hL
    clear d0 d1 df0 df1 z7 hb0 hb1 td'
    have HL := Lib.hid hL
    clear hL
    go_wp2_with fail
    go_loopg [9] (s.clock.length) (fun gg v9 wr => ∃ m : Nat, v9 = .int .i64 (m : Int) ∧ Aside0 (m ≤ s.clock.length) ∧ Aside0 (s.clock.length ≤ gg + m) ∧ ∃ (RL : List S116) (Aq : Option Addr) (cq : Nat) (tq : Nat → Nat), Aside0 (RL = s.reqs ++ papm (s.start n (q0 : Int)) (q0 : Int) m) ∧ Aside0 (Lq w0 B W tag t d r ⟨raw.set q0 (s.top + 1, Ar, n, cr), .slice A1 s.clock.length c1, .slice A2 s.life.length c2, .slice A3 s.up.length c3, .slice A4 s.votes.length c4, .slice (some ⟨gd, 0, none⟩) s.leads.length c5, .slice Aq RL.length cq, .slice A7 s.grs.length c7, .slice A8 s.beats.length c8⟩ { s.start n (q0 : Int) with reqs := RL } gw gs wr tq))
    case atStart => exact ⟨0, rfl, ⟨Nat.zero_le _⟩, ⟨by omega⟩, s.reqs, A6, c6, tg, ⟨by simp [papm]⟩, ⟨HL.out⟩⟩
    case round =>
      obtain ⟨m, rfl, a1, a2, RL, Aq, cq, tq, a4, a3⟩ := hrel
      obtain ⟨z0, z1, z2, z3, z4, z5, z6, z7, z8, z9, z10, z11, z12⟩ := nblk_cells a3.out.bw
      by_cases hm : m < s.clock.length
      · have hmi : (m : Int) < (s.clock.length : Int) := by omega
        have hm0 : (0 : Int) ≤ (m : Int) := by omega
        obtain ⟨gc, cc, ec, _, lc, tc, hc⟩ := a3.out.nw.row_c (show 0 < s.clock.length by omega)
        obtain ⟨gl, cl, el, _, ll, tl, hl2⟩ := a3.out.nw.row_l (show 0 < s.life.length by omega)
        obtain ⟨gd', cd', ed, _, ld', td', hd2⟩ := a3.out.nw.row_d (show 0 < (s.leads.set q0 _).length by rw [List.length_set]; omega)
        obtain ⟨y0, y1⟩ := hc q0 (show q0 < s.clock.length by omega)
        obtain ⟨l0, l1⟩ := hl2 q0 (show q0 < s.life.length by omega)
        obtain ⟨Ad', nd', ⟨d0, d1⟩, dv, df⟩ := hd2 q0 (show q0 < (s.leads.set q0 _).length by rw [List.length_set]; omega)
        injection ec with ec ec2 ec3
        clear ec2
        injection el with el el2 el3
        clear el2
        injection ed with ed ed2 ed3
        clear ed2
        injection ed with ed
        injection ed with ed
        subst ec ec3 el el3 ed ed3
        have eld : (s.start n (q0 : Int)).leads.getD q0 z52 = (s.start n (q0 : Int)).ld (q0 : Int) := by unfold St.ld; rw [Int.toNat_natCast]
        have elf : (s.start n (q0 : Int)).life.getD q0 0 = (s.start n (q0 : Int)).lf (q0 : Int) := by unfold St.lf; rw [Int.toNat_natCast]
        have eck : (s.start n (q0 : Int)).clock.getD q0 0 = (s.start n (q0 : Int)).clk (q0 : Int) := by unfold St.clk; rw [Int.toNat_natCast]
        dsimp only at y0 l0 d0
        rw [eck] at y0
        rw [elf] at l0
        rw [eld] at d0
        have hlen : RL.length ≤ 1000 := by rw [a4.out, List.length_append, papm_len]; omega
        have gcw : gc ≠ gw := fun e => by rw [e, a3.out.tw] at tc; cases tc
        have glw : gl ≠ gw := fun e => by rw [e, a3.out.tw] at tl; cases tl
        have gdw : gd ≠ gw := fun e => by rw [e, a3.out.tw] at td'; cases td'
        have gcw2 : gw ≠ gc := fun e => gcw e.symm
        have glw2 : gw ≠ gl := fun e => glw e.symm
        have gdw2 : gw ≠ gd := fun e => gdw e.symm
        have lw := blk_lt a3.out.bw
        have gwn0 : wr.heap.size ≠ gw := by omega
        have gwn1 : gw ≠ wr.heap.size := by omega
        have gdn0 : wr.heap.size ≠ gd := by omega
        have gdn1 : gd ≠ wr.heap.size := by omega
        have gcn0 : wr.heap.size ≠ gc := by omega
        have gcn1 : gc ≠ wr.heap.size := by omega
        have gln0 : wr.heap.size ≠ gl := by omega
        have gln1 : gl ≠ wr.heap.size := by omega
        have hq3 : (q0 : Int) < (s.clock.length : Int) := by omega
        have hq4 : (q0 : Int) < (s.life.length : Int) := by omega
        obtain ⟨E0, hE0⟩ : ∃ y, y = ((s.start n (q0 : Int)).ld (q0 : Int)).f0 := ⟨_, rfl⟩
        obtain ⟨E1, hE1⟩ : ∃ y, y = (s.start n (q0 : Int)).clk (q0 : Int) := ⟨_, rfl⟩
        obtain ⟨E2, hE2⟩ : ∃ y, y = (s.start n (q0 : Int)).lf (q0 : Int) := ⟨_, rfl⟩
        have HE0 := Lib.hid hE0
        have HE1 := Lib.hid hE1
        have HE2 := Lib.hid hE2
        rw [← hE0] at d0
        rw [← hE1] at y0
        rw [← hE2] at l0
        clear hc hl2 hd2 dv df d1 y1 l1 z0 z1 z2 z5 z6 z9 z10 z11 z12 eld elf eck hE0 hE1 hE2
        go_upto_region 9 with (fail)
        refine wp_region_held_drew (S := (fun w' => w'.cell? ⟨gw, 3, none⟩ = some (.slice (some ⟨gc, 0, none⟩) s.clock.length c1) ∧ w'.cell? ⟨gw, 4, none⟩ = some (.slice (some ⟨gl, 0, none⟩) s.life.length c2) ∧ w'.cell? ⟨gw, 7, none⟩ = some (.slice (some ⟨gd, 0, none⟩) s.leads.length c5) ∧ w'.cell? ⟨gc, q0, none⟩ = some (.int .i64 E1) ∧ w'.cell? ⟨gl, q0, none⟩ = some (.int .i64 E2) ∧ w'.cell? ⟨gd, q0 * 2, none⟩ = some (.int .u64 E0))) (by kernel_rfl) (by first | go_keep | (refine ⟨?_, ?_, ?_, ?_, ?_, ?_⟩ <;> first | assumption | go_keep) | assumption) (fun hHeld => ?_)
        refine wpAnyH_take (i := 0) (v := ?_) rfl (by kernel_rfl) (by kernel_rfl) (by kernel_rfl) (fun _ _ _ h => h) (Or.inl ⟨by rfl, ?_⟩) (by assumption) ?_
        rotate_left
        · intro w hSw; (try dsimp only at hSw); go_simp; (try with_reducible rfl)
        simp only [Act.put, List.setIfInBounds_toArray, List.set_cons_zero, List.set_cons_succ]
        refine wpAnyH_take (i := 2) (v := ?_) rfl (by kernel_rfl) (by kernel_rfl) (by kernel_rfl) (fun _ _ _ h => h) (Or.inl ⟨by rfl, ?_⟩) (by assumption) ?_
        rotate_left
        · intro w hSw; (try dsimp only at hSw); go_simp; (try with_reducible rfl)
        simp only [Act.put, List.setIfInBounds_toArray, List.set_cons_zero, List.set_cons_succ]
        refine wpAnyH_take (i := 3) (v := ?_) rfl (by kernel_rfl) (by kernel_rfl) (by kernel_rfl) (fun _ _ _ h => h) (Or.inl ⟨by rfl, ?_⟩) (by assumption) ?_
        rotate_left
        · intro w hSw; (try dsimp only at hSw); go_simp; (try with_reducible rfl)
        simp only [Act.put, List.setIfInBounds_toArray, List.set_cons_zero, List.set_cons_succ]
        refine wpAnyH_take (i := 4) (v := ?_) rfl (by kernel_rfl) (by kernel_rfl) (by kernel_rfl) (fun _ _ _ h => h) (Or.inl ⟨by rfl, ?_⟩) (by assumption) ?_
        rotate_left
        · intro w hSw; (try dsimp only at hSw); go_simp; (try with_reducible rfl)
        simp only [Act.put, List.setIfInBounds_toArray, List.set_cons_zero, List.set_cons_succ]
        refine wpAnyH_take (i := 5) (v := ?_) rfl (by kernel_rfl) (by kernel_rfl) (by kernel_rfl) (fun _ _ _ h => h) (Or.inl ⟨by rfl, ?_⟩) (by assumption) ?_
        rotate_left
        · intro w hSw; (try dsimp only at hSw); go_simp; (try with_reducible rfl)
        simp only [Act.put, List.setIfInBounds_toArray, List.set_cons_zero, List.set_cons_succ]
        refine wpAnyH_take (i := 6) (v := ?_) rfl (by kernel_rfl) (by kernel_rfl) (by kernel_rfl) (fun _ _ _ h => h) (Or.inl ⟨by rfl, ?_⟩) (by assumption) ?_
        rotate_left
        · intro w hSw; (try dsimp only at hSw); go_simp; (try with_reducible rfl)
        simp only [Act.put, List.setIfInBounds_toArray, List.set_cons_zero, List.set_cons_succ]
        refine wpAnyH_take (i := 7) (v := ?_) rfl (by kernel_rfl) (by kernel_rfl) (by kernel_rfl) (fun _ _ _ h => h) (Or.inl ⟨by rfl, ?_⟩) (by assumption) ?_
        rotate_left
        · intro w hSw; (try dsimp only at hSw); go_simp; (try with_reducible rfl)
        simp only [Act.put, List.setIfInBounds_toArray, List.set_cons_zero, List.set_cons_succ]
        refine wpAnyH_take (i := 8) (v := ?_) rfl (by kernel_rfl) (by kernel_rfl) (by kernel_rfl) (fun _ _ _ h => h) (Or.inl ⟨by rfl, ?_⟩) (by assumption) ?_
        rotate_left
        · intro w hSw; (try dsimp only at hSw); go_simp; (try with_reducible rfl)
        simp only [Act.put, List.setIfInBounds_toArray, List.set_cons_zero, List.set_cons_succ]
        refine wpAnyH_take (i := 9) (v := ?_) rfl (by kernel_rfl) (by kernel_rfl) (by kernel_rfl) (fun _ _ _ h => h) (Or.inl ⟨by rfl, ?_⟩) (by assumption) ?_
        rotate_left
        · intro w hSw; (try dsimp only at hSw); go_simp; (try with_reducible rfl)
        simp only [Act.put, List.setIfInBounds_toArray, List.set_cons_zero, List.set_cons_succ]
        refine wpAnyH_take (i := 10) (v := ?_) rfl (by kernel_rfl) (by kernel_rfl) (by kernel_rfl) (fun _ _ _ h => h) (Or.inl ⟨by rfl, ?_⟩) (by assumption) ?_
        rotate_left
        · intro w hSw; (try dsimp only at hSw); go_simp; (try with_reducible rfl)
        simp only [Act.put, List.setIfInBounds_toArray, List.set_cons_zero, List.set_cons_succ]
        refine wpAnyH_take (i := 11) (v := ?_) rfl (by kernel_rfl) (by kernel_rfl) (by kernel_rfl) (fun _ _ _ h => h) (Or.inl ⟨by rfl, ?_⟩) (by assumption) ?_
        rotate_left
        · intro w hSw; (try dsimp only at hSw); go_simp; (try with_reducible rfl)
        simp only [Act.put, List.setIfInBounds_toArray, List.set_cons_zero, List.set_cons_succ]
        refine wpAnyH_take (i := 12) (v := ?_) rfl (by kernel_rfl) (by kernel_rfl) (by kernel_rfl) (fun _ _ _ h => h) (Or.inl ⟨by rfl, ?_⟩) (by assumption) ?_
        rotate_left
        · intro w hSw; (try dsimp only at hSw); go_simp; (try with_reducible rfl)
        simp only [Act.put, List.setIfInBounds_toArray, List.set_cons_zero, List.set_cons_succ]
        refine wpAnyH_take (i := 13) (v := ?_) rfl (by kernel_rfl) (by kernel_rfl) (by kernel_rfl) (fun _ _ _ h => h) (Or.inl ⟨by rfl, ?_⟩) (by assumption) ?_
        rotate_left
        · intro w hSw; (try dsimp only at hSw); go_simp; (try with_reducible rfl)
        simp only [Act.put, List.setIfInBounds_toArray, List.set_cons_zero, List.set_cons_succ]
        refine wpAnyH_take (i := 14) (v := ?_) rfl (by kernel_rfl) (by kernel_rfl) (by kernel_rfl) (fun _ _ _ h => h) (Or.inl ⟨by rfl, ?_⟩) (by assumption) ?_
        rotate_left
        · intro w hSw; (try dsimp only at hSw); go_simp; (try with_reducible rfl)
        simp only [Act.put, List.setIfInBounds_toArray, List.set_cons_zero, List.set_cons_succ]
        refine wpAnyH_take (i := 15) (v := ?_) rfl (by kernel_rfl) (by kernel_rfl) (by kernel_rfl) (fun _ _ _ h => h) (Or.inl ⟨by rfl, ?_⟩) (by assumption) ?_
        rotate_left
        · intro w hSw; (try dsimp only at hSw); go_simp; (try with_reducible rfl)
        simp only [Act.put, List.setIfInBounds_toArray, List.set_cons_zero, List.set_cons_succ]
        refine wpAnyH_take (i := 16) (v := ?_) rfl (by kernel_rfl) (by kernel_rfl) (by kernel_rfl) (fun _ _ _ h => h) (Or.inl ⟨by rfl, ?_⟩) (by assumption) ?_
        rotate_left
        · intro w hSw; (try dsimp only at hSw); go_simp; (try with_reducible rfl)
        simp only [Act.put, List.setIfInBounds_toArray, List.set_cons_zero, List.set_cons_succ]
        refine wpAnyH_take (i := 17) (v := ?_) rfl (by kernel_rfl) (by kernel_rfl) (by kernel_rfl) (fun _ _ _ h => h) (Or.inl ⟨by rfl, ?_⟩) (by assumption) ?_
        rotate_left
        · intro w hSw; (try dsimp only at hSw); go_simp; (try with_reducible rfl)
        simp only [Act.put, List.setIfInBounds_toArray, List.set_cons_zero, List.set_cons_succ]
        refine wpAnyH_take (i := 18) (v := ?_) rfl (by kernel_rfl) (by kernel_rfl) (by kernel_rfl) (fun _ _ _ h => h) (Or.inl ⟨by rfl, ?_⟩) (by assumption) ?_
        rotate_left
        · intro w hSw; (try dsimp only at hSw); go_simp; (try with_reducible rfl)
        simp only [Act.put, List.setIfInBounds_toArray, List.set_cons_zero, List.set_cons_succ]
        refine wpAnyH_take (i := 19) (v := ?_) rfl (by kernel_rfl) (by kernel_rfl) (by kernel_rfl) (fun _ _ _ h => h) (Or.inl ⟨by rfl, ?_⟩) (by assumption) ?_
        rotate_left
        · intro w hSw; (try dsimp only at hSw); go_simp; (try with_reducible rfl)
        simp only [Act.put, List.setIfInBounds_toArray, List.set_cons_zero, List.set_cons_succ]
        refine wpAnyH_take (i := 20) (v := ?_) rfl (by kernel_rfl) (by kernel_rfl) (by kernel_rfl) (fun _ _ _ h => h) (Or.inl ⟨by rfl, ?_⟩) (by assumption) ?_
        rotate_left
        · intro w hSw; (try dsimp only at hSw); go_simp; (try with_reducible rfl)
        simp only [Act.put, List.setIfInBounds_toArray, List.set_cons_zero, List.set_cons_succ]
        refine wpAnyH_ready (rs := [1, 21]) (by kernel_rfl) (by simp) ?_
        refine AllReadyH.cons (by rfl) (fun K hK => ?_) (AllReadyH.cons (by rfl) (fun K hK => ?_) AllReadyH.nil)
        go_simp
        refine hK.out _ _ (by first | go_keep | (refine ⟨?_, ?_, ?_, ?_, ?_, ?_⟩ <;> first | assumption | go_keep) | assumption) (fun hHeld => ?_)
        clear hK K
        (try simp only [Act.put, List.setIfInBounds_toArray, List.set_cons_zero, List.set_cons_succ])
        refine wpAnyH_ready (rs := [21]) (by kernel_rfl) (by simp) ?_
        refine AllReadyH.cons (by rfl) (fun K hK => ?_) AllReadyH.nil
        go_simp
        refine hK.out _ _ (by first | go_keep | (refine ⟨?_, ?_, ?_, ?_, ?_, ?_⟩ <;> first | assumption | go_keep) | assumption) (fun hHeld => ?_)
        clear hK K
        (try simp only [Act.put, List.setIfInBounds_toArray, List.set_cons_zero, List.set_cons_succ])
        refine wpAnyH_ready (rs := [22]) (by kernel_rfl) (by simp) ?_
        refine AllReadyH.cons (by rfl) (fun K hK => ?_) AllReadyH.nil
        refine Kd.R_append_step k116 (w0 := w0) (W := wr.drew) B (by rfl) (.tmp 55) (.tmp 75) 77 116 (.agg #[.int .i64 0, .int .i64 0, .int .u64 0, .int .i64 0, .int .i64 0]) 40 (by rfl) Try.underlying77 info116b (by rfl) (by decide) (by omega) (.slice Aq RL.length cq) RL ⟨(q0 : Int), (m : Int), E0, E1, E2⟩ [.int .i64 (q0 : Int), .int .i64 (m : Int), .int .u64 E0, .int .i64 E1, .int .i64 E2] (fun k => tq k = 6 ∨ wr.drew.heap.size ≤ k) (fun _ => False) (by rfl) (by rfl) (k116_mkM _ _ _ ⟨(q0 : Int), (m : Int), E0, E1, E2⟩) (fun _ h => h.elim) (fun k hk => .inr hk) (Kd.R_mono a3.out.drew.nw.r (fun k hk => .inl hk)) a3.out.drew.nw.bel a3.out.drew.nw.base (by omega) ?_
        intro vn wn hR hBn hG hat
        obtain ⟨An, cn, hvn⟩ := Kd.R_slice hR
        rw [List.length_append, List.length_singleton] at hvn
        subst hvn
        obtain ⟨hF, hbw, hN⟩ := a3.out.drew.app hR hBn hG
        obtain ⟨k0, k1, k2, k3, k4, k5, k6, k7, k8, k9, k10, k11, k12⟩ := nblk_cells hbw
        have kf := blk_frozen hbw 8
        obtain ⟨gc', cc', ec, _, _, _, hc⟩ := hN.row_c (show 0 < s.clock.length by omega)
        obtain ⟨gl', cl', el, _, _, _, hl2⟩ := hN.row_l (show 0 < s.life.length by omega)
        obtain ⟨gd', cd', ed, _, _, _, hd2⟩ := hN.row_d (show 0 < (s.leads.set q0 _).length by rw [List.length_set]; omega)
        injection ec with ec ec2 ec3
        clear ec2
        injection ec with ec
        injection ec with ec
        injection el with el el2 el3
        clear el2
        injection el with el
        injection el with el
        injection ed with ed ed2 ed3
        clear ed2
        injection ed with ed
        injection ed with ed
        subst ec el ed ec3 el3 ed3
        obtain ⟨_, _, ⟨kd0, _⟩, _, _⟩ := hd2 q0 (show q0 < (s.leads.set q0 _).length by rw [List.length_set]; omega)
        have kc : wn.cell? ⟨gc, q0, none⟩ = some (.int .i64 E1) := by rw [HE1.out]; unfold St.clk; rw [Int.toNat_natCast]; exact (hc q0 (show q0 < s.clock.length by omega)).1
        have kl : wn.cell? ⟨gl, q0, none⟩ = some (.int .i64 E2) := by rw [HE2.out]; unfold St.lf; rw [Int.toNat_natCast]; exact (hl2 q0 (show q0 < s.life.length by omega)).1
        have kd : wn.cell? ⟨gd, q0 * 2, none⟩ = some (.int .u64 E0) := by rw [HE0.out]; unfold St.ld; rw [Int.toNat_natCast]; exact kd0
        have s3 : (wn.setCell ⟨gw, 8, none⟩ (.slice An (RL.length + 1) cn)).cell? ⟨gw, 3, none⟩ = some (.slice (some ⟨gc, 0, none⟩) s.clock.length c1) := (World.cell?_setCell_other _ _ _ _ (by simp)).trans k3
        have s4 : (wn.setCell ⟨gw, 8, none⟩ (.slice An (RL.length + 1) cn)).cell? ⟨gw, 4, none⟩ = some (.slice (some ⟨gl, 0, none⟩) s.life.length c2) := (World.cell?_setCell_other _ _ _ _ (by simp)).trans k4
        have s7 : (wn.setCell ⟨gw, 8, none⟩ (.slice An (RL.length + 1) cn)).cell? ⟨gw, 7, none⟩ = some (.slice (some ⟨gd, 0, none⟩) s.leads.length c5) := (World.cell?_setCell_other _ _ _ _ (by simp)).trans k7
        have HF := Lib.hid hF
        clear hR hBn hG hat hF hbw hN hc hl2 hd2 kd0 k0 k1 k2 k5 k6 k9 k10 k11 k12
        refine hK.out _ _ (by first | go_keep | (refine ⟨?_, ?_, ?_, ?_, ?_, ?_⟩ <;> first | assumption | go_keep) | assumption) (fun hHeld => ?_)
        clear hK K
        (try simp only [Act.put, List.setIfInBounds_toArray, List.set_cons_zero, List.set_cons_succ])
        refine wpAnyH_take (i := 23) (v := ?_) rfl (by kernel_rfl) (by kernel_rfl) (by kernel_rfl) (fun _ _ _ h => h) (Or.inl ⟨by rfl, ?_⟩) (by assumption) ?_
        rotate_left
        · intro w hSw; (try dsimp only at hSw); go_simp; (try with_reducible rfl)
        simp only [Act.put, List.setIfInBounds_toArray, List.set_cons_zero, List.set_cons_succ]
        refine wpAnyH_ready (rs := [24]) (by kernel_rfl) (by simp) ?_
        refine AllReadyH.cons (by rfl) (fun K hK => ?_) AllReadyH.nil
        go_simp
        refine hK.out _ _ (by first | go_keep | (refine ⟨?_, ?_, ?_, ?_, ?_, ?_⟩ <;> first | assumption | go_keep) | assumption) (fun hHeld => ?_)
        clear hK K
        (try simp only [Act.put, List.setIfInBounds_toArray, List.set_cons_zero, List.set_cons_succ])
        refine wpAnyH_done (by kernel_rfl) ?_ _
        rotate_left
        go_simp
        refine hK.out _ _ (by first | go_keep | (refine ⟨?_, ?_, ?_, ?_, ?_, ?_⟩ <;> first | assumption | go_keep) | assumption) (fun hHeld => ?_)
        clear hK K
        (try simp only [Act.put, List.setIfInBounds_toArray, List.set_cons_zero, List.set_cons_succ])
        refine wpAnyH_ready (rs := [1]) (by kernel_rfl) (by simp) ?_
        refine AllReadyH.cons (by rfl) (fun K hK => ?_) AllReadyH.nil
        go_simp
        refine hK.out _ _ (by first | go_keep | (refine ⟨?_, ?_, ?_, ?_, ?_, ?_⟩ <;> first | assumption | go_keep) | assumption) (fun hHeld => ?_)
        clear hK K
        (try simp only [Act.put, List.setIfInBounds_toArray, List.set_cons_zero, List.set_cons_succ])
        refine wpAnyH_ready (rs := [22]) (by kernel_rfl) (by simp) ?_
        refine AllReadyH.cons (by rfl) (fun K hK => ?_) AllReadyH.nil
        refine Kd.R_append_step k116 (w0 := w0) (W := wr.drew) B (by rfl) (.tmp 55) (.tmp 75) 77 116 (.agg #[.int .i64 0, .int .i64 0, .int .u64 0, .int .i64 0, .int .i64 0]) 40 (by rfl) Try.underlying77 info116b (by rfl) (by decide) (by omega) (.slice Aq RL.length cq) RL ⟨(q0 : Int), (m : Int), E0, E1, E2⟩ [.int .i64 (q0 : Int), .int .i64 (m : Int), .int .u64 E0, .int .i64 E1, .int .i64 E2] (fun k => tq k = 6 ∨ wr.drew.heap.size ≤ k) (fun _ => False) (by rfl) (by rfl) (k116_mkM _ _ _ ⟨(q0 : Int), (m : Int), E0, E1, E2⟩) (fun _ h => h.elim) (fun k hk => .inr hk) (Kd.R_mono a3.out.drew.nw.r (fun k hk => .inl hk)) a3.out.drew.nw.bel a3.out.drew.nw.base (by omega) ?_
        intro vn wn hR hBn hG hat
        obtain ⟨An, cn, hvn⟩ := Kd.R_slice hR
        rw [List.length_append, List.length_singleton] at hvn
        subst hvn
        obtain ⟨hF, hbw, hN⟩ := a3.out.drew.app hR hBn hG
        obtain ⟨k0, k1, k2, k3, k4, k5, k6, k7, k8, k9, k10, k11, k12⟩ := nblk_cells hbw
        have kf := blk_frozen hbw 8
        obtain ⟨gc', cc', ec, _, _, _, hc⟩ := hN.row_c (show 0 < s.clock.length by omega)
        obtain ⟨gl', cl', el, _, _, _, hl2⟩ := hN.row_l (show 0 < s.life.length by omega)
        obtain ⟨gd', cd', ed, _, _, _, hd2⟩ := hN.row_d (show 0 < (s.leads.set q0 _).length by rw [List.length_set]; omega)
        injection ec with ec ec2 ec3
        clear ec2
        injection ec with ec
        injection ec with ec
        injection el with el el2 el3
        clear el2
        injection el with el
        injection el with el
        injection ed with ed ed2 ed3
        clear ed2
        injection ed with ed
        injection ed with ed
        subst ec el ed ec3 el3 ed3
        obtain ⟨_, _, ⟨kd0, _⟩, _, _⟩ := hd2 q0 (show q0 < (s.leads.set q0 _).length by rw [List.length_set]; omega)
        have kc : wn.cell? ⟨gc, q0, none⟩ = some (.int .i64 E1) := by rw [HE1.out]; unfold St.clk; rw [Int.toNat_natCast]; exact (hc q0 (show q0 < s.clock.length by omega)).1
        have kl : wn.cell? ⟨gl, q0, none⟩ = some (.int .i64 E2) := by rw [HE2.out]; unfold St.lf; rw [Int.toNat_natCast]; exact (hl2 q0 (show q0 < s.life.length by omega)).1
        have kd : wn.cell? ⟨gd, q0 * 2, none⟩ = some (.int .u64 E0) := by rw [HE0.out]; unfold St.ld; rw [Int.toNat_natCast]; exact kd0
        have s3 : (wn.setCell ⟨gw, 8, none⟩ (.slice An (RL.length + 1) cn)).cell? ⟨gw, 3, none⟩ = some (.slice (some ⟨gc, 0, none⟩) s.clock.length c1) := (World.cell?_setCell_other _ _ _ _ (by simp)).trans k3
        have s4 : (wn.setCell ⟨gw, 8, none⟩ (.slice An (RL.length + 1) cn)).cell? ⟨gw, 4, none⟩ = some (.slice (some ⟨gl, 0, none⟩) s.life.length c2) := (World.cell?_setCell_other _ _ _ _ (by simp)).trans k4
        have s7 : (wn.setCell ⟨gw, 8, none⟩ (.slice An (RL.length + 1) cn)).cell? ⟨gw, 7, none⟩ = some (.slice (some ⟨gd, 0, none⟩) s.leads.length c5) := (World.cell?_setCell_other _ _ _ _ (by simp)).trans k7
        have HF := Lib.hid hF
        clear hR hBn hG hat hF hbw hN hc hl2 hd2 kd0 k0 k1 k2 k5 k6 k9 k10 k11 k12
        refine hK.out _ _ (by first | go_keep | (refine ⟨?_, ?_, ?_, ?_, ?_, ?_⟩ <;> first | assumption | go_keep) | assumption) (fun hHeld => ?_)
        clear hK K
        (try simp only [Act.put, List.setIfInBounds_toArray, List.set_cons_zero, List.set_cons_succ])
        refine wpAnyH_take (i := 23) (v := ?_) rfl (by kernel_rfl) (by kernel_rfl) (by kernel_rfl) (fun _ _ _ h => h) (Or.inl ⟨by rfl, ?_⟩) (by assumption) ?_
        rotate_left
        · intro w hSw; (try dsimp only at hSw); go_simp; (try with_reducible rfl)
        simp only [Act.put, List.setIfInBounds_toArray, List.set_cons_zero, List.set_cons_succ]
        refine wpAnyH_ready (rs := [24]) (by kernel_rfl) (by simp) ?_
        refine AllReadyH.cons (by rfl) (fun K hK => ?_) AllReadyH.nil
        go_simp
        refine hK.out _ _ (by first | go_keep | (refine ⟨?_, ?_, ?_, ?_, ?_, ?_⟩ <;> first | assumption | go_keep) | assumption) (fun hHeld => ?_)
        clear hK K
        (try simp only [Act.put, List.setIfInBounds_toArray, List.set_cons_zero, List.set_cons_succ])
        refine wpAnyH_done (by kernel_rfl) ?_ _
        all_goals go_wp2
        all_goals
          go_roundg (s.clock.length - (m + 1))
          case measure => have := a2.out; omega
          case rel => exact ⟨m + 1, by first | rfl | go_num | (simp; done), ⟨by omega⟩, ⟨by omega⟩, RL ++ [⟨(q0 : Int), (m : Int), E0, E1, E2⟩], An, cn, _, ⟨by rw [papm_succ, ← List.append_assoc, ← a4.out, HE0.out, HE1.out, HE2.out]⟩, ⟨by rw [List.length_append, List.length_singleton]; exact HF.out⟩⟩
      · have e : m = s.clock.length := by have := a1.out; omega
        subst e
        have hfin : { s.start n (q0 : Int) with reqs := RL } = (s.start n (q0 : Int)).ask n (q0 : Int) := by
          rw [a4.out, HLC.out]
          rfl
        have h3 := a3.out
        rw [hfin] at h3
        have H3 := Lib.hid h3
        clear h3 hfin z0 z1 z2 z4 z5 z6 z7 z8 z9 z10 z11 z12
        go_upto_region 10 with (fail)
        refine reg_ret 78 (gw := gw) (gs := gs) (by rfl) (by rfl) (by rfl) (by rfl) (by rfl) (by rfl) (by rfl) (by rfl) (by rfl) H3.out.bw H3.out.bs (by rfl) (by rfl) (by simp [Value.oneCell']) ?_
        go_wp2
        exact fin_ret2 (by rfl) (by rfl) (by rfl) H3.out.bs H3.out.nw H3.out.ts H3.out.hs (Nat.le_trans H3.out.b0 H3.out.hs)
set_option maxHeartbeats 2000000 in
theorem asks_first (w0 : World) (B : Nat) (W : World) (tag : Nat → Nat) (x : NV) (s : St) (t d r : Int) (n i : Nat) (h : Nw w0 B W tag W tag x s) (hd : Bd t n i s) (hi : i < 90) (hn : 2 ≤ n ∧ n ≤ 5) (q0 : Nat) (ha : q0 < n) (he : (s.ld (q0 : Int)).f0 = 0) : Calls Try.prog 60 #[.agg #[.int .i64 t, .int .i64 d, .int .i64 r, x.c, x.l, x.u, x.v, x.d, x.r, x.g, x.b, .int .u64 s.top, .bool true], .int .i64 (q0 : Int), .bool false] W (Ps2 w0 B W tag t d r ((s.start n (q0 : Int)).ask n (q0 : Int))) := by
  obtain ⟨A1, A2, A3, A4, A5, A6, A7, A8, c1, c2, c3, c4, c5, c6, c7, c8, hx⟩ := h.open
  obtain ⟨raw, vc, vl, vu, vv, vd, vr, vg, vb⟩ := x
  injection hx with hx0 hx1 hx2 hx3 hx4 hx5 hx6 hx7 hx8
  subst hx1 hx2 hx3 hx4 hx5 hx6 hx7 hx8
  clear hx0
  have hu80 := Try.underlying80
  have hu116 := Try.underlying116
  have hu52 := Try.underlying52
  have hlc : n ≤ s.clock.length := Nat.le_of_eq hd.lc.symm
  have hlc2 : s.clock.length ≤ n := Nat.le_of_eq hd.lc
  have hll : n ≤ s.life.length := Nat.le_of_eq hd.ll.symm
  have hlld : n ≤ s.leads.length := Nat.le_of_eq hd.lld.symm
  have hrl := hd.rl
  have HH := Lib.hid h
  have HLC := Lib.hid hd.lc
  have htp : 0 ≤ s.top ∧ s.top ≤ 90 := by have := hd.tp; omega
  have hld := hd.ld (q0 : Int) ⟨by omega, by omega⟩
  have hok : leadok (s.ld (q0 : Int)).f1 = true := leadok_of (by rw [hld.2.1]; omega) (by rw [hld.2.1]; omega) (fun y hy => by have := hld.2.2 y hy; omega)
  have hst : lead_Start.f (s.ld (q0 : Int)).f0 (s.ld (q0 : Int)).f1 (s.top + 1) = some (s.top + 1, none_ n, 0) := by
    unfold lead_Start.f lead_Check.f
    rw [hok, if_pos rfl, Option.bind_some, if_pos rfl, if_neg (by have := hld.1; omega), hld.2.1, lnew_eq _ (by omega) (by omega), Option.bind_some]
    rfl
  have HST := Lib.hid hst
  obtain ⟨ht0, ht1⟩ := htp
  have HEP := Lib.hid he
  clear h hd he hld hok hst
  go_enter Try.func60, Try.ntmps60
  go_upto_region 1 with (fail)
  refine wp_gen (fun W1 => Ent w0 B W tag t d r _ s true W.heap.size (W.heap.size + 1) W1) (Ent.start HH.out t d r true) ?_
  intro W1 hE
  generalize W.heap.size + 1 = gs at hE ⊢
  generalize W.heap.size = gw at hE ⊢
  obtain ⟨gd, cd, ed, _, ld, td, hd2⟩ := hE.nw.row_d (by omega)
  obtain ⟨Ad, nd, ⟨d0, d1⟩, dv, df⟩ := hd2 q0 (by omega)
  injection ed with ed ed2 ed3
  clear ed2
  subst ed ed3
  have eld : s.leads.getD q0 z52 = s.ld (q0 : Int) := by unfold St.ld; rw [Int.toNat_natCast]
  rw [eld] at d0 d1
  have hep0 : ((s.ld (q0 : Int)).f0 == 0) = true := beq_iff_eq.2 HEP.out
  obtain ⟨z0, z1, z2, z3, z4, z5, z6, z7, z8, z9, z10, z11, z12⟩ := nblk_cells hE.bw
  have HE := Lib.hid hE
  have hq2 : (q0 : Int) < (s.leads.length : Int) := by omega
  have hq0 : (0 : Int) ≤ (q0 : Int) := by omega
  have zf := blk_frozen hE.bw 11
  clear hE hd2 df dv eld z0 z1 z2 z3 z4 z5 z6 z8 z9 z10 z12 
  go_upto_region 3 with (fail)
  refine wp_gen (fun W2 => Lq w0 B W tag t d r ⟨raw, .slice A1 s.clock.length c1, .slice A2 s.life.length c2, .slice A3 s.up.length c3, .slice A4 s.votes.length c4, .slice (some ⟨gd, 0, none⟩) s.leads.length c5, .slice A6 s.reqs.length c6, .slice A7 s.grs.length c7, .slice A8 s.beats.length c8⟩ { s with top := s.top + 1 } gw gs W2 tag) ((Lq.start HE.out).top (s.top + 1)) ?_
  intro W2 hM
  clear zf z11 d0 d1 z7 hep0
  obtain ⟨gd', cd', ed, _, ld, td', hd2⟩ := hM.nw.row_d (show 0 < s.leads.length by omega)
  obtain ⟨Ad, nd, ⟨d0, d1⟩, dv, df⟩ := hd2 q0 (show q0 < s.leads.length by omega)
  injection ed with ed ed2 ed3
  injection ed with ed
  injection ed with ed
  clear ed2
  subst ed ed3
  have eld : s.leads.getD q0 z52 = s.ld (q0 : Int) := by unfold St.ld; rw [Int.toNat_natCast]
  dsimp only at d0 d1 dv
  rw [eld] at d0 d1 dv
  have hst := HST.out
  obtain ⟨L, hL⟩ : ∃ L, L = s.ld (q0 : Int) := ⟨_, rfl⟩
  rw [← hL] at d0 d1 dv hst
  clear eld hL
  obtain ⟨le, ll⟩ := L
  simp only at d0 d1 dv hst
  obtain ⟨z0, z1, z2, z3, z4, z5, z6, z7, z8, z9, z10, z11, z12⟩ := nblk_cells hM.bw
  have lw3 := blk_lt hM.bw
  have HM3 := Lib.hid hM
  have HV := Lib.hid dv
  have HST2 := Lib.hid hst
  have gw1 : gw < W2.heap.size + 1 := by omega
  have gd1 : gd < W2.heap.size + 1 := by omega
  have gwn0 : W2.heap.size ≠ gw := by omega
  have gwn1 : gw ≠ W2.heap.size := by omega
  have gdn0 : W2.heap.size ≠ gd := by omega
  have gdn1 : gd ≠ W2.heap.size := by omega
  have gs1 : W2.heap.size < W2.heap.size + 1 := by omega
  clear hM hd2 dv hst z0 z1 z2 z3 z4 z5 z6 z8 z9 z10 z12 df
  go_cut [7, 8] (fun s7 s8 wx => s8 = .int .i64 0 ∧ ∃ (gb : Nat) (tg : Nat → Nat) (Ar : Option Addr) (cr : Nat), s7 = .pointer (some ⟨gb, 0, none⟩) ∧ gw ≠ gb ∧ Lg w0 B W tag t d r ⟨raw, .slice A1 s.clock.length c1, .slice A2 s.life.length c2, .slice A3 s.up.length c3, .slice A4 s.votes.length c4, .slice (some ⟨gd, 0, none⟩) s.leads.length c5, .slice A6 s.reqs.length c6, .slice A7 s.grs.length c7, .slice A8 s.beats.length c8⟩ { s with top := s.top + 1 } gw gs (s.top + 1) Ar n cr (none_ n) gb wx tg)
  case first =>
    go_region_held3 (fun w' => w'.cell? ⟨gw, 7, none⟩ = some (.slice (some ⟨gd, 0, none⟩) s.leads.length c5) ∧ w'.cell? ⟨gw, 11, none⟩ = some (.int .u64 (s.top + 1)) ∧ w'.cell? ⟨gd, q0 * 2, none⟩ = some (.int .u64 le) ∧ w'.cell? ⟨gd, q0 * 2 + 1, none⟩ = some (.slice Ad ll.length nd)) (go_keep)
      (first | (go_at_call 29
                refine (lead_Start.calls le (fun k => tag k = 9) Ad nd ll _ _ _ _ _ (Kd.V_below HV.out (by first | exact below_drew (Below.refl _ _) | exact below_drew (below_alloc (Below.refl _ _) _) | exact below_alloc (below_drew (Below.refl _ _)) _)) HST2.out).mono ?_
                rintro e w1 ⟨vr, rfl, hv, hb⟩
                obtain ⟨hcc, hff⟩ := bcell hb
                have hbT : Below W2.heap.size W2 w1 := by first | exact (below_drew (Below.refl _ _)).trans (hb.mono (by simp)) | exact (below_drew (below_alloc (Below.refl _ _) _)).trans (hb.mono (by simp)) | exact (below_alloc (below_drew (Below.refl _ _)) _).trans (hb.mono (by simp))
                have k0 := ((bcell hbT).1 gw 7 lw3).trans z7
                have k1 := ((bcell hbT).1 gw 11 lw3).trans z11
                have k2 := ((bcell hbT).1 gd (q0 * 2) ld).trans d0
                have k3 := ((bcell hbT).1 gd (q0 * 2 + 1) ld).trans d1
                have hbz := hbT.size
                have HB2 := Lib.hid hb
                have HBZ := Lib.hid hbz
                clear hbT hbz
                obtain ⟨Ar, cr, hvr⟩ := Kd.V_slice hv
                rw [none_length] at hvr
                subst hvr
                have HV2 := Lib.hid hv
                clear hb hv))
    all_goals (go_wp2; go_meet; case rel => first | exact ⟨rfl, _, _, _, _, rfl, by have := HBZ.out; omega, Lg.late HM3.out.drew HB2.out HV2.out⟩ | exact ⟨rfl, _, _, _, _, rfl, by omega, Lg.early (Wa := W2) rfl HM3.out HB2.out HV2.out⟩)
  case rest =>
    obtain ⟨rfl, gb, tg, Ar, cr, rfl, hgb, hM⟩ := hcut
    clear d0 d1 z7 z11 gw1 gd1 gwn0 gwn1 gdn0 gdn1 gs1 lw3 ld
    obtain ⟨z0, z1, z2, z3, z4, z5, z6, z7, z8, z9, z10, z11, z12⟩ := nblk_cells hM.md.bw
    have zf := blk_frozen hM.md.bw 12
    have HM4 := Lib.hid hM
    clear hM z0 z1 z2 z3 z4 z5 z6 z7 z8 z9 z10 z11
    go_upto_region 5 with (fail)
    refine wp_gen (fun W4 => Lg w0 B W tag t d r ⟨raw, .slice A1 s.clock.length c1, .slice A2 s.life.length c2, .slice A3 s.up.length c3, .slice A4 s.votes.length c4, .slice (some ⟨gd, 0, none⟩) s.leads.length c5, .slice A6 s.reqs.length c6, .slice A7 s.grs.length c7, .slice A8 s.beats.length c8⟩ { s with top := s.top + 1 } gw gs (s.top + 1) Ar n cr (none_ n) gb W4 tg) (HM4.out.ok12 hgb) ?_
    intro W4 hM
    clear z12 zf
    obtain ⟨z0, z1, z2, z3, z4, z5, z6, z7, z8, z9, z10, z11, z12⟩ := nblk_cells hM.md.bw
    have hb0 : W4.cell? ⟨gb, 0, none⟩ = some (.int .u64 (s.top + 1)) := (blk_cell hM.bb 0).trans rfl
    have hb1 : W4.cell? ⟨gb, 1, none⟩ = some (.slice Ar n cr) := (blk_cell hM.bb 1).trans rfl
    obtain ⟨gd', cd', ed, _, _, td', hd2⟩ := hM.md.nw.row_d (show 0 < s.leads.length by omega)
    injection ed with ed ed2 ed3
    injection ed with ed
    injection ed with ed
    clear ed2
    subst ed ed3
    obtain ⟨Ad', nd', ⟨d0, d1⟩, _, df⟩ := hd2 q0 (show q0 < s.leads.length by omega)
    have df0 := df 0
    have df1 := df 1
    rw [Nat.add_zero] at df0
    have HM5 := Lib.hid hM
    clear hM hd2 df z0 z1 z2 z3 z4 z5 z6 z8 z9 z10 z11 z12
    go_upto_region 6 with (fail)
    refine wp_gen (fun W5 => Lq w0 B W tag t d r ⟨(raw.set q0 (s.top + 1, Ar, n, cr)), .slice A1 s.clock.length c1, .slice A2 s.life.length c2, .slice A3 s.up.length c3, .slice A4 s.votes.length c4, .slice (some ⟨gd, 0, none⟩) s.leads.length c5, .slice A6 s.reqs.length c6, .slice A7 s.grs.length c7, .slice A8 s.beats.length c8⟩ (s.start n (q0 : Int)) gw gs W5 tg) (HM5.out.note rfl q0 (by omega)) ?_
    intro W5 hL
    clear d0 d1 df0 df1 z7 hb0 hb1 td'
    have HL := Lib.hid hL
    clear hL
    go_wp2_with fail
    go_loopg [9] (s.clock.length) (fun gg v9 wr => ∃ m : Nat, v9 = .int .i64 (m : Int) ∧ Aside0 (m ≤ s.clock.length) ∧ Aside0 (s.clock.length ≤ gg + m) ∧ ∃ (RL : List S116) (Aq : Option Addr) (cq : Nat) (tq : Nat → Nat), Aside0 (RL = s.reqs ++ papm (s.start n (q0 : Int)) (q0 : Int) m) ∧ Aside0 (Lq w0 B W tag t d r ⟨raw.set q0 (s.top + 1, Ar, n, cr), .slice A1 s.clock.length c1, .slice A2 s.life.length c2, .slice A3 s.up.length c3, .slice A4 s.votes.length c4, .slice (some ⟨gd, 0, none⟩) s.leads.length c5, .slice Aq RL.length cq, .slice A7 s.grs.length c7, .slice A8 s.beats.length c8⟩ { s.start n (q0 : Int) with reqs := RL } gw gs wr tq))
    case atStart => exact ⟨0, rfl, ⟨Nat.zero_le _⟩, ⟨by omega⟩, s.reqs, A6, c6, tg, ⟨by simp [papm]⟩, ⟨HL.out⟩⟩
    case round =>
      obtain ⟨m, rfl, a1, a2, RL, Aq, cq, tq, a4, a3⟩ := hrel
      obtain ⟨z0, z1, z2, z3, z4, z5, z6, z7, z8, z9, z10, z11, z12⟩ := nblk_cells a3.out.bw
      by_cases hm : m < s.clock.length
      · have hmi : (m : Int) < (s.clock.length : Int) := by omega
        have hm0 : (0 : Int) ≤ (m : Int) := by omega
        obtain ⟨gc, cc, ec, _, lc, tc, hc⟩ := a3.out.nw.row_c (show 0 < s.clock.length by omega)
        obtain ⟨gl, cl, el, _, ll, tl, hl2⟩ := a3.out.nw.row_l (show 0 < s.life.length by omega)
        obtain ⟨gd', cd', ed, _, ld', td', hd2⟩ := a3.out.nw.row_d (show 0 < (s.leads.set q0 _).length by rw [List.length_set]; omega)
        obtain ⟨y0, y1⟩ := hc q0 (show q0 < s.clock.length by omega)
        obtain ⟨l0, l1⟩ := hl2 q0 (show q0 < s.life.length by omega)
        obtain ⟨Ad', nd', ⟨d0, d1⟩, dv, df⟩ := hd2 q0 (show q0 < (s.leads.set q0 _).length by rw [List.length_set]; omega)
        injection ec with ec ec2 ec3
        clear ec2
        injection el with el el2 el3
        clear el2
        injection ed with ed ed2 ed3
        clear ed2
        injection ed with ed
        injection ed with ed
        subst ec ec3 el el3 ed ed3
        have eld : (s.start n (q0 : Int)).leads.getD q0 z52 = (s.start n (q0 : Int)).ld (q0 : Int) := by unfold St.ld; rw [Int.toNat_natCast]
        have elf : (s.start n (q0 : Int)).life.getD q0 0 = (s.start n (q0 : Int)).lf (q0 : Int) := by unfold St.lf; rw [Int.toNat_natCast]
        have eck : (s.start n (q0 : Int)).clock.getD q0 0 = (s.start n (q0 : Int)).clk (q0 : Int) := by unfold St.clk; rw [Int.toNat_natCast]
        dsimp only at y0 l0 d0
        rw [eck] at y0
        rw [elf] at l0
        rw [eld] at d0
        have hlen : RL.length ≤ 1000 := by rw [a4.out, List.length_append, papm_len]; omega
        have gcw : gc ≠ gw := fun e => by rw [e, a3.out.tw] at tc; cases tc
        have glw : gl ≠ gw := fun e => by rw [e, a3.out.tw] at tl; cases tl
        have gdw : gd ≠ gw := fun e => by rw [e, a3.out.tw] at td'; cases td'
        have gcw2 : gw ≠ gc := fun e => gcw e.symm
        have glw2 : gw ≠ gl := fun e => glw e.symm
        have gdw2 : gw ≠ gd := fun e => gdw e.symm
        have lw := blk_lt a3.out.bw
        have gwn0 : wr.heap.size ≠ gw := by omega
        have gwn1 : gw ≠ wr.heap.size := by omega
        have gdn0 : wr.heap.size ≠ gd := by omega
        have gdn1 : gd ≠ wr.heap.size := by omega
        have gcn0 : wr.heap.size ≠ gc := by omega
        have gcn1 : gc ≠ wr.heap.size := by omega
        have gln0 : wr.heap.size ≠ gl := by omega
        have gln1 : gl ≠ wr.heap.size := by omega
        have hq3 : (q0 : Int) < (s.clock.length : Int) := by omega
        have hq4 : (q0 : Int) < (s.life.length : Int) := by omega
        obtain ⟨E0, hE0⟩ : ∃ y, y = ((s.start n (q0 : Int)).ld (q0 : Int)).f0 := ⟨_, rfl⟩
        obtain ⟨E1, hE1⟩ : ∃ y, y = (s.start n (q0 : Int)).clk (q0 : Int) := ⟨_, rfl⟩
        obtain ⟨E2, hE2⟩ : ∃ y, y = (s.start n (q0 : Int)).lf (q0 : Int) := ⟨_, rfl⟩
        have HE0 := Lib.hid hE0
        have HE1 := Lib.hid hE1
        have HE2 := Lib.hid hE2
        rw [← hE0] at d0
        rw [← hE1] at y0
        rw [← hE2] at l0
        clear hc hl2 hd2 dv df d1 y1 l1 z0 z1 z2 z5 z6 z9 z10 z11 z12 eld elf eck hE0 hE1 hE2
        go_upto_region 9 with (fail)
        refine wp_region_held_drew (S := (fun w' => w'.cell? ⟨gw, 3, none⟩ = some (.slice (some ⟨gc, 0, none⟩) s.clock.length c1) ∧ w'.cell? ⟨gw, 4, none⟩ = some (.slice (some ⟨gl, 0, none⟩) s.life.length c2) ∧ w'.cell? ⟨gw, 7, none⟩ = some (.slice (some ⟨gd, 0, none⟩) s.leads.length c5) ∧ w'.cell? ⟨gc, q0, none⟩ = some (.int .i64 E1) ∧ w'.cell? ⟨gl, q0, none⟩ = some (.int .i64 E2) ∧ w'.cell? ⟨gd, q0 * 2, none⟩ = some (.int .u64 E0))) (by kernel_rfl) (by first | go_keep | (refine ⟨?_, ?_, ?_, ?_, ?_, ?_⟩ <;> first | assumption | go_keep) | assumption) (fun hHeld => ?_)
        refine wpAnyH_take (i := 0) (v := ?_) rfl (by kernel_rfl) (by kernel_rfl) (by kernel_rfl) (fun _ _ _ h => h) (Or.inl ⟨by rfl, ?_⟩) (by assumption) ?_
        rotate_left
        · intro w hSw; (try dsimp only at hSw); go_simp; (try with_reducible rfl)
        simp only [Act.put, List.setIfInBounds_toArray, List.set_cons_zero, List.set_cons_succ]
        refine wpAnyH_take (i := 2) (v := ?_) rfl (by kernel_rfl) (by kernel_rfl) (by kernel_rfl) (fun _ _ _ h => h) (Or.inl ⟨by rfl, ?_⟩) (by assumption) ?_
        rotate_left
        · intro w hSw; (try dsimp only at hSw); go_simp; (try with_reducible rfl)
        simp only [Act.put, List.setIfInBounds_toArray, List.set_cons_zero, List.set_cons_succ]
        refine wpAnyH_take (i := 3) (v := ?_) rfl (by kernel_rfl) (by kernel_rfl) (by kernel_rfl) (fun _ _ _ h => h) (Or.inl ⟨by rfl, ?_⟩) (by assumption) ?_
        rotate_left
        · intro w hSw; (try dsimp only at hSw); go_simp; (try with_reducible rfl)
        simp only [Act.put, List.setIfInBounds_toArray, List.set_cons_zero, List.set_cons_succ]
        refine wpAnyH_take (i := 4) (v := ?_) rfl (by kernel_rfl) (by kernel_rfl) (by kernel_rfl) (fun _ _ _ h => h) (Or.inl ⟨by rfl, ?_⟩) (by assumption) ?_
        rotate_left
        · intro w hSw; (try dsimp only at hSw); go_simp; (try with_reducible rfl)
        simp only [Act.put, List.setIfInBounds_toArray, List.set_cons_zero, List.set_cons_succ]
        refine wpAnyH_take (i := 5) (v := ?_) rfl (by kernel_rfl) (by kernel_rfl) (by kernel_rfl) (fun _ _ _ h => h) (Or.inl ⟨by rfl, ?_⟩) (by assumption) ?_
        rotate_left
        · intro w hSw; (try dsimp only at hSw); go_simp; (try with_reducible rfl)
        simp only [Act.put, List.setIfInBounds_toArray, List.set_cons_zero, List.set_cons_succ]
        refine wpAnyH_take (i := 6) (v := ?_) rfl (by kernel_rfl) (by kernel_rfl) (by kernel_rfl) (fun _ _ _ h => h) (Or.inl ⟨by rfl, ?_⟩) (by assumption) ?_
        rotate_left
        · intro w hSw; (try dsimp only at hSw); go_simp; (try with_reducible rfl)
        simp only [Act.put, List.setIfInBounds_toArray, List.set_cons_zero, List.set_cons_succ]
        refine wpAnyH_take (i := 7) (v := ?_) rfl (by kernel_rfl) (by kernel_rfl) (by kernel_rfl) (fun _ _ _ h => h) (Or.inl ⟨by rfl, ?_⟩) (by assumption) ?_
        rotate_left
        · intro w hSw; (try dsimp only at hSw); go_simp; (try with_reducible rfl)
        simp only [Act.put, List.setIfInBounds_toArray, List.set_cons_zero, List.set_cons_succ]
        refine wpAnyH_take (i := 8) (v := ?_) rfl (by kernel_rfl) (by kernel_rfl) (by kernel_rfl) (fun _ _ _ h => h) (Or.inl ⟨by rfl, ?_⟩) (by assumption) ?_
        rotate_left
        · intro w hSw; (try dsimp only at hSw); go_simp; (try with_reducible rfl)
        simp only [Act.put, List.setIfInBounds_toArray, List.set_cons_zero, List.set_cons_succ]
        refine wpAnyH_take (i := 9) (v := ?_) rfl (by kernel_rfl) (by kernel_rfl) (by kernel_rfl) (fun _ _ _ h => h) (Or.inl ⟨by rfl, ?_⟩) (by assumption) ?_
        rotate_left
        · intro w hSw; (try dsimp only at hSw); go_simp; (try with_reducible rfl)
        simp only [Act.put, List.setIfInBounds_toArray, List.set_cons_zero, List.set_cons_succ]
        refine wpAnyH_take (i := 10) (v := ?_) rfl (by kernel_rfl) (by kernel_rfl) (by kernel_rfl) (fun _ _ _ h => h) (Or.inl ⟨by rfl, ?_⟩) (by assumption) ?_
        rotate_left
        · intro w hSw; (try dsimp only at hSw); go_simp; (try with_reducible rfl)
        simp only [Act.put, List.setIfInBounds_toArray, List.set_cons_zero, List.set_cons_succ]
        refine wpAnyH_take (i := 11) (v := ?_) rfl (by kernel_rfl) (by kernel_rfl) (by kernel_rfl) (fun _ _ _ h => h) (Or.inl ⟨by rfl, ?_⟩) (by assumption) ?_
        rotate_left
        · intro w hSw; (try dsimp only at hSw); go_simp; (try with_reducible rfl)
        simp only [Act.put, List.setIfInBounds_toArray, List.set_cons_zero, List.set_cons_succ]
        refine wpAnyH_take (i := 12) (v := ?_) rfl (by kernel_rfl) (by kernel_rfl) (by kernel_rfl) (fun _ _ _ h => h) (Or.inl ⟨by rfl, ?_⟩) (by assumption) ?_
        rotate_left
        · intro w hSw; (try dsimp only at hSw); go_simp; (try with_reducible rfl)
        simp only [Act.put, List.setIfInBounds_toArray, List.set_cons_zero, List.set_cons_succ]
        refine wpAnyH_take (i := 13) (v := ?_) rfl (by kernel_rfl) (by kernel_rfl) (by kernel_rfl) (fun _ _ _ h => h) (Or.inl ⟨by rfl, ?_⟩) (by assumption) ?_
        rotate_left
        · intro w hSw; (try dsimp only at hSw); go_simp; (try with_reducible rfl)
        simp only [Act.put, List.setIfInBounds_toArray, List.set_cons_zero, List.set_cons_succ]
        refine wpAnyH_take (i := 14) (v := ?_) rfl (by kernel_rfl) (by kernel_rfl) (by kernel_rfl) (fun _ _ _ h => h) (Or.inl ⟨by rfl, ?_⟩) (by assumption) ?_
        rotate_left
        · intro w hSw; (try dsimp only at hSw); go_simp; (try with_reducible rfl)
        simp only [Act.put, List.setIfInBounds_toArray, List.set_cons_zero, List.set_cons_succ]
        refine wpAnyH_take (i := 15) (v := ?_) rfl (by kernel_rfl) (by kernel_rfl) (by kernel_rfl) (fun _ _ _ h => h) (Or.inl ⟨by rfl, ?_⟩) (by assumption) ?_
        rotate_left
        · intro w hSw; (try dsimp only at hSw); go_simp; (try with_reducible rfl)
        simp only [Act.put, List.setIfInBounds_toArray, List.set_cons_zero, List.set_cons_succ]
        refine wpAnyH_take (i := 16) (v := ?_) rfl (by kernel_rfl) (by kernel_rfl) (by kernel_rfl) (fun _ _ _ h => h) (Or.inl ⟨by rfl, ?_⟩) (by assumption) ?_
        rotate_left
        · intro w hSw; (try dsimp only at hSw); go_simp; (try with_reducible rfl)
        simp only [Act.put, List.setIfInBounds_toArray, List.set_cons_zero, List.set_cons_succ]
        refine wpAnyH_take (i := 17) (v := ?_) rfl (by kernel_rfl) (by kernel_rfl) (by kernel_rfl) (fun _ _ _ h => h) (Or.inl ⟨by rfl, ?_⟩) (by assumption) ?_
        rotate_left
        · intro w hSw; (try dsimp only at hSw); go_simp; (try with_reducible rfl)
        simp only [Act.put, List.setIfInBounds_toArray, List.set_cons_zero, List.set_cons_succ]
        refine wpAnyH_take (i := 18) (v := ?_) rfl (by kernel_rfl) (by kernel_rfl) (by kernel_rfl) (fun _ _ _ h => h) (Or.inl ⟨by rfl, ?_⟩) (by assumption) ?_
        rotate_left
        · intro w hSw; (try dsimp only at hSw); go_simp; (try with_reducible rfl)
        simp only [Act.put, List.setIfInBounds_toArray, List.set_cons_zero, List.set_cons_succ]
        refine wpAnyH_take (i := 19) (v := ?_) rfl (by kernel_rfl) (by kernel_rfl) (by kernel_rfl) (fun _ _ _ h => h) (Or.inl ⟨by rfl, ?_⟩) (by assumption) ?_
        rotate_left
        · intro w hSw; (try dsimp only at hSw); go_simp; (try with_reducible rfl)
        simp only [Act.put, List.setIfInBounds_toArray, List.set_cons_zero, List.set_cons_succ]
        refine wpAnyH_take (i := 20) (v := ?_) rfl (by kernel_rfl) (by kernel_rfl) (by kernel_rfl) (fun _ _ _ h => h) (Or.inl ⟨by rfl, ?_⟩) (by assumption) ?_
        rotate_left
        · intro w hSw; (try dsimp only at hSw); go_simp; (try with_reducible rfl)
        simp only [Act.put, List.setIfInBounds_toArray, List.set_cons_zero, List.set_cons_succ]
        refine wpAnyH_ready (rs := [1, 21]) (by kernel_rfl) (by simp) ?_
        refine AllReadyH.cons (by rfl) (fun K hK => ?_) (AllReadyH.cons (by rfl) (fun K hK => ?_) AllReadyH.nil)
        go_simp
        refine hK.out _ _ (by first | go_keep | (refine ⟨?_, ?_, ?_, ?_, ?_, ?_⟩ <;> first | assumption | go_keep) | assumption) (fun hHeld => ?_)
        clear hK K
        (try simp only [Act.put, List.setIfInBounds_toArray, List.set_cons_zero, List.set_cons_succ])
        refine wpAnyH_ready (rs := [21]) (by kernel_rfl) (by simp) ?_
        refine AllReadyH.cons (by rfl) (fun K hK => ?_) AllReadyH.nil
        go_simp
        refine hK.out _ _ (by first | go_keep | (refine ⟨?_, ?_, ?_, ?_, ?_, ?_⟩ <;> first | assumption | go_keep) | assumption) (fun hHeld => ?_)
        clear hK K
        (try simp only [Act.put, List.setIfInBounds_toArray, List.set_cons_zero, List.set_cons_succ])
        refine wpAnyH_ready (rs := [22]) (by kernel_rfl) (by simp) ?_
        refine AllReadyH.cons (by rfl) (fun K hK => ?_) AllReadyH.nil
        refine Kd.R_append_step k116 (w0 := w0) (W := wr.drew) B (by rfl) (.tmp 55) (.tmp 75) 77 116 (.agg #[.int .i64 0, .int .i64 0, .int .u64 0, .int .i64 0, .int .i64 0]) 40 (by rfl) Try.underlying77 info116b (by rfl) (by decide) (by omega) (.slice Aq RL.length cq) RL ⟨(q0 : Int), (m : Int), E0, E1, E2⟩ [.int .i64 (q0 : Int), .int .i64 (m : Int), .int .u64 E0, .int .i64 E1, .int .i64 E2] (fun k => tq k = 6 ∨ wr.drew.heap.size ≤ k) (fun _ => False) (by rfl) (by rfl) (k116_mkM _ _ _ ⟨(q0 : Int), (m : Int), E0, E1, E2⟩) (fun _ h => h.elim) (fun k hk => .inr hk) (Kd.R_mono a3.out.drew.nw.r (fun k hk => .inl hk)) a3.out.drew.nw.bel a3.out.drew.nw.base (by omega) ?_
        intro vn wn hR hBn hG hat
        obtain ⟨An, cn, hvn⟩ := Kd.R_slice hR
        rw [List.length_append, List.length_singleton] at hvn
        subst hvn
        obtain ⟨hF, hbw, hN⟩ := a3.out.drew.app hR hBn hG
        obtain ⟨k0, k1, k2, k3, k4, k5, k6, k7, k8, k9, k10, k11, k12⟩ := nblk_cells hbw
        have kf := blk_frozen hbw 8
        obtain ⟨gc', cc', ec, _, _, _, hc⟩ := hN.row_c (show 0 < s.clock.length by omega)
        obtain ⟨gl', cl', el, _, _, _, hl2⟩ := hN.row_l (show 0 < s.life.length by omega)
        obtain ⟨gd', cd', ed, _, _, _, hd2⟩ := hN.row_d (show 0 < (s.leads.set q0 _).length by rw [List.length_set]; omega)
        injection ec with ec ec2 ec3
        clear ec2
        injection ec with ec
        injection ec with ec
        injection el with el el2 el3
        clear el2
        injection el with el
        injection el with el
        injection ed with ed ed2 ed3
        clear ed2
        injection ed with ed
        injection ed with ed
        subst ec el ed ec3 el3 ed3
        obtain ⟨_, _, ⟨kd0, _⟩, _, _⟩ := hd2 q0 (show q0 < (s.leads.set q0 _).length by rw [List.length_set]; omega)
        have kc : wn.cell? ⟨gc, q0, none⟩ = some (.int .i64 E1) := by rw [HE1.out]; unfold St.clk; rw [Int.toNat_natCast]; exact (hc q0 (show q0 < s.clock.length by omega)).1
        have kl : wn.cell? ⟨gl, q0, none⟩ = some (.int .i64 E2) := by rw [HE2.out]; unfold St.lf; rw [Int.toNat_natCast]; exact (hl2 q0 (show q0 < s.life.length by omega)).1
        have kd : wn.cell? ⟨gd, q0 * 2, none⟩ = some (.int .u64 E0) := by rw [HE0.out]; unfold St.ld; rw [Int.toNat_natCast]; exact kd0
        have s3 : (wn.setCell ⟨gw, 8, none⟩ (.slice An (RL.length + 1) cn)).cell? ⟨gw, 3, none⟩ = some (.slice (some ⟨gc, 0, none⟩) s.clock.length c1) := (World.cell?_setCell_other _ _ _ _ (by simp)).trans k3
        have s4 : (wn.setCell ⟨gw, 8, none⟩ (.slice An (RL.length + 1) cn)).cell? ⟨gw, 4, none⟩ = some (.slice (some ⟨gl, 0, none⟩) s.life.length c2) := (World.cell?_setCell_other _ _ _ _ (by simp)).trans k4
        have s7 : (wn.setCell ⟨gw, 8, none⟩ (.slice An (RL.length + 1) cn)).cell? ⟨gw, 7, none⟩ = some (.slice (some ⟨gd, 0, none⟩) s.leads.length c5) := (World.cell?_setCell_other _ _ _ _ (by simp)).trans k7
        have HF := Lib.hid hF
        clear hR hBn hG hat hF hbw hN hc hl2 hd2 kd0 k0 k1 k2 k5 k6 k9 k10 k11 k12
        refine hK.out _ _ (by first | go_keep | (refine ⟨?_, ?_, ?_, ?_, ?_, ?_⟩ <;> first | assumption | go_keep) | assumption) (fun hHeld => ?_)
        clear hK K
        (try simp only [Act.put, List.setIfInBounds_toArray, List.set_cons_zero, List.set_cons_succ])
        refine wpAnyH_take (i := 23) (v := ?_) rfl (by kernel_rfl) (by kernel_rfl) (by kernel_rfl) (fun _ _ _ h => h) (Or.inl ⟨by rfl, ?_⟩) (by assumption) ?_
        rotate_left
        · intro w hSw; (try dsimp only at hSw); go_simp; (try with_reducible rfl)
        simp only [Act.put, List.setIfInBounds_toArray, List.set_cons_zero, List.set_cons_succ]
        refine wpAnyH_ready (rs := [24]) (by kernel_rfl) (by simp) ?_
        refine AllReadyH.cons (by rfl) (fun K hK => ?_) AllReadyH.nil
        go_simp
        refine hK.out _ _ (by first | go_keep | (refine ⟨?_, ?_, ?_, ?_, ?_, ?_⟩ <;> first | assumption | go_keep) | assumption) (fun hHeld => ?_)
        clear hK K
        (try simp only [Act.put, List.setIfInBounds_toArray, List.set_cons_zero, List.set_cons_succ])
        refine wpAnyH_done (by kernel_rfl) ?_ _
        rotate_left
        go_simp
        refine hK.out _ _ (by first | go_keep | (refine ⟨?_, ?_, ?_, ?_, ?_, ?_⟩ <;> first | assumption | go_keep) | assumption) (fun hHeld => ?_)
        clear hK K
        (try simp only [Act.put, List.setIfInBounds_toArray, List.set_cons_zero, List.set_cons_succ])
        refine wpAnyH_ready (rs := [1]) (by kernel_rfl) (by simp) ?_
        refine AllReadyH.cons (by rfl) (fun K hK => ?_) AllReadyH.nil
        go_simp
        refine hK.out _ _ (by first | go_keep | (refine ⟨?_, ?_, ?_, ?_, ?_, ?_⟩ <;> first | assumption | go_keep) | assumption) (fun hHeld => ?_)
        clear hK K
        (try simp only [Act.put, List.setIfInBounds_toArray, List.set_cons_zero, List.set_cons_succ])
        refine wpAnyH_ready (rs := [22]) (by kernel_rfl) (by simp) ?_
        refine AllReadyH.cons (by rfl) (fun K hK => ?_) AllReadyH.nil
        refine Kd.R_append_step k116 (w0 := w0) (W := wr.drew) B (by rfl) (.tmp 55) (.tmp 75) 77 116 (.agg #[.int .i64 0, .int .i64 0, .int .u64 0, .int .i64 0, .int .i64 0]) 40 (by rfl) Try.underlying77 info116b (by rfl) (by decide) (by omega) (.slice Aq RL.length cq) RL ⟨(q0 : Int), (m : Int), E0, E1, E2⟩ [.int .i64 (q0 : Int), .int .i64 (m : Int), .int .u64 E0, .int .i64 E1, .int .i64 E2] (fun k => tq k = 6 ∨ wr.drew.heap.size ≤ k) (fun _ => False) (by rfl) (by rfl) (k116_mkM _ _ _ ⟨(q0 : Int), (m : Int), E0, E1, E2⟩) (fun _ h => h.elim) (fun k hk => .inr hk) (Kd.R_mono a3.out.drew.nw.r (fun k hk => .inl hk)) a3.out.drew.nw.bel a3.out.drew.nw.base (by omega) ?_
        intro vn wn hR hBn hG hat
        obtain ⟨An, cn, hvn⟩ := Kd.R_slice hR
        rw [List.length_append, List.length_singleton] at hvn
        subst hvn
        obtain ⟨hF, hbw, hN⟩ := a3.out.drew.app hR hBn hG
        obtain ⟨k0, k1, k2, k3, k4, k5, k6, k7, k8, k9, k10, k11, k12⟩ := nblk_cells hbw
        have kf := blk_frozen hbw 8
        obtain ⟨gc', cc', ec, _, _, _, hc⟩ := hN.row_c (show 0 < s.clock.length by omega)
        obtain ⟨gl', cl', el, _, _, _, hl2⟩ := hN.row_l (show 0 < s.life.length by omega)
        obtain ⟨gd', cd', ed, _, _, _, hd2⟩ := hN.row_d (show 0 < (s.leads.set q0 _).length by rw [List.length_set]; omega)
        injection ec with ec ec2 ec3
        clear ec2
        injection ec with ec
        injection ec with ec
        injection el with el el2 el3
        clear el2
        injection el with el
        injection el with el
        injection ed with ed ed2 ed3
        clear ed2
        injection ed with ed
        injection ed with ed
        subst ec el ed ec3 el3 ed3
        obtain ⟨_, _, ⟨kd0, _⟩, _, _⟩ := hd2 q0 (show q0 < (s.leads.set q0 _).length by rw [List.length_set]; omega)
        have kc : wn.cell? ⟨gc, q0, none⟩ = some (.int .i64 E1) := by rw [HE1.out]; unfold St.clk; rw [Int.toNat_natCast]; exact (hc q0 (show q0 < s.clock.length by omega)).1
        have kl : wn.cell? ⟨gl, q0, none⟩ = some (.int .i64 E2) := by rw [HE2.out]; unfold St.lf; rw [Int.toNat_natCast]; exact (hl2 q0 (show q0 < s.life.length by omega)).1
        have kd : wn.cell? ⟨gd, q0 * 2, none⟩ = some (.int .u64 E0) := by rw [HE0.out]; unfold St.ld; rw [Int.toNat_natCast]; exact kd0
        have s3 : (wn.setCell ⟨gw, 8, none⟩ (.slice An (RL.length + 1) cn)).cell? ⟨gw, 3, none⟩ = some (.slice (some ⟨gc, 0, none⟩) s.clock.length c1) := (World.cell?_setCell_other _ _ _ _ (by simp)).trans k3
        have s4 : (wn.setCell ⟨gw, 8, none⟩ (.slice An (RL.length + 1) cn)).cell? ⟨gw, 4, none⟩ = some (.slice (some ⟨gl, 0, none⟩) s.life.length c2) := (World.cell?_setCell_other _ _ _ _ (by simp)).trans k4
        have s7 : (wn.setCell ⟨gw, 8, none⟩ (.slice An (RL.length + 1) cn)).cell? ⟨gw, 7, none⟩ = some (.slice (some ⟨gd, 0, none⟩) s.leads.length c5) := (World.cell?_setCell_other _ _ _ _ (by simp)).trans k7
        have HF := Lib.hid hF
        clear hR hBn hG hat hF hbw hN hc hl2 hd2 kd0 k0 k1 k2 k5 k6 k9 k10 k11 k12
        refine hK.out _ _ (by first | go_keep | (refine ⟨?_, ?_, ?_, ?_, ?_, ?_⟩ <;> first | assumption | go_keep) | assumption) (fun hHeld => ?_)
        clear hK K
        (try simp only [Act.put, List.setIfInBounds_toArray, List.set_cons_zero, List.set_cons_succ])
        refine wpAnyH_take (i := 23) (v := ?_) rfl (by kernel_rfl) (by kernel_rfl) (by kernel_rfl) (fun _ _ _ h => h) (Or.inl ⟨by rfl, ?_⟩) (by assumption) ?_
        rotate_left
        · intro w hSw; (try dsimp only at hSw); go_simp; (try with_reducible rfl)
        simp only [Act.put, List.setIfInBounds_toArray, List.set_cons_zero, List.set_cons_succ]
        refine wpAnyH_ready (rs := [24]) (by kernel_rfl) (by simp) ?_
        refine AllReadyH.cons (by rfl) (fun K hK => ?_) AllReadyH.nil
        go_simp
        refine hK.out _ _ (by first | go_keep | (refine ⟨?_, ?_, ?_, ?_, ?_, ?_⟩ <;> first | assumption | go_keep) | assumption) (fun hHeld => ?_)
        clear hK K
        (try simp only [Act.put, List.setIfInBounds_toArray, List.set_cons_zero, List.set_cons_succ])
        refine wpAnyH_done (by kernel_rfl) ?_ _
        all_goals go_wp2
        all_goals
          go_roundg (s.clock.length - (m + 1))
          case measure => have := a2.out; omega
          case rel => exact ⟨m + 1, by first | rfl | go_num | (simp; done), ⟨by omega⟩, ⟨by omega⟩, RL ++ [⟨(q0 : Int), (m : Int), E0, E1, E2⟩], An, cn, _, ⟨by rw [papm_succ, ← List.append_assoc, ← a4.out, HE0.out, HE1.out, HE2.out]⟩, ⟨by rw [List.length_append, List.length_singleton]; exact HF.out⟩⟩
      · have e : m = s.clock.length := by have := a1.out; omega
        subst e
        have hfin : { s.start n (q0 : Int) with reqs := RL } = (s.start n (q0 : Int)).ask n (q0 : Int) := by
          rw [a4.out, HLC.out]
          rfl
        have h3 := a3.out
        rw [hfin] at h3
        have H3 := Lib.hid h3
        clear h3 hfin z0 z1 z2 z4 z5 z6 z7 z8 z9 z10 z11 z12
        go_upto_region 10 with (fail)
        refine reg_ret 78 (gw := gw) (gs := gs) (by rfl) (by rfl) (by rfl) (by rfl) (by rfl) (by rfl) (by rfl) (by rfl) (by rfl) H3.out.bw H3.out.bs (by rfl) (by rfl) (by simp [Value.oneCell']) ?_
        go_wp2
        exact fin_ret2 (by rfl) (by rfl) (by rfl) H3.out.bs H3.out.nw H3.out.ts H3.out.hs (Nat.le_trans H3.out.b0 H3.out.hs)
end Go.Proofs.Ytgfblogneggpmaa.One
