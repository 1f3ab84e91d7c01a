/- A region that draws its order of evaluation: a condition on the world that holds as long as one operation (a store) has not come. -/
import Derived.Test.YtgfblogneggpmaaFnx0
import Derived.Deep.RegionHeld3
import Derived.KernelRfl
import Derived.Test.YtgfblogneggpmaaFnx5
import Derived.Test.YtgfblogneggpmaaOneHap
import Derived.Deep.AppendLies
import Derived.Test.YtgfblogneggpmaaFnx3
import Derived.Test.YtgfblogneggpmaaFnx31
import Derived.Test.YtgfblogneggpmaaFnxNear
import Derived.Test.YtgfblogneggpmaaOneA
import Derived.Test.YtgfblogneggpmaaAw24
import Derived.Test.YtgfblogneggpmaaOpen
import Derived.OpenShut
namespace Go.Proofs.Ytgfblogneggpmaa.One
open Go
section
variable {P : Program} {ops : Array Oper} {Q : Exit → Act → World → Prop} {md : Region.Mode} {S : World → Prop} {f : Nat}
/-- Whatever order is picked from here on; as long as operation f has not come, S holds. -/
def anyG (P : Program) (md : Region.Mode) (ops : Array Oper) (Q : Exit → Act → World → Prop) (S : World → Prop) (f : Nat) : Nat → Array Bool → Act → World → Prop
  | 0, L, a, w => Region.ready md ops L = [] ∧ Q .normal a w
  | n + 1, L, a, w => (Region.ready md ops L = [] → Q .normal a w) ∧ ∀ i ∈ Region.ready md ops L, wpOp P ops Q i (fun a' w' => ((L.setIfInBounds i true).getD f true = false → S w') ∧ anyG P md ops Q S f n (L.setIfInBounds i true) a' w') a w
theorem any_of_G : ∀ (n : Nat) (L : Array Bool) (a : Act) (w : World), anyG P md ops Q S f n L a w → wpAny P md ops Q n L a w
  | 0, _, _, _, h => h
  | n + 1, _, _, _, h => ⟨h.1, fun i hi => wpOp_mono (fun a' w' h' => any_of_G n _ a' w' h'.2) (h.2 i hi)⟩
/-- Each of F waits for i, or for another one of F. -/
def waitsG (md : Region.Mode) (ops : Array Oper) (i : Nat) (F : List Nat) : Bool :=
  F.all fun j => match ops[j]? with
    | some o => o.after.any fun e => Region.binds md e && (e.on == i || F.contains e.on)
    | none => false
theorem unlisted {L : Array Bool} {i : Nat} (h : L.getD i true = false) (h' : L.getD i false = true) : False := by
  rcases Nat.lt_or_ge i L.size with q | q
  · simp [q] at h h'
    rw [h] at h'
    cases h'
  · simp [Array.getElem?_eq_none q] at h
theorem getD_set_self {L : Array Bool} {i : Nat} {d : Bool} (h : i < L.size) : (L.setIfInBounds i true).getD i d = true := by simp [h]
theorem anyG_first {i : Nat} {oi : Oper} {v : Value} {F : List Nat} (hf : f ∈ F) (hF : waitsG md ops i F = true) (hiF : ¬i ∈ F) (hi : ops[i]? = some oi) (hsel : ∀ (j : Nat) (o : Oper) cs b, ops[j]? = some o → o.op ≠ .select cs b)
    (hQ : ∀ c a w, Q (.panic c) (a.put oi.dst v) w → Q (.panic c) a w) :
    ∀ (n : Nat) (L : Array Bool) (a : Act) (w : World),
      (∀ j oj, ops[j]? = some oj → j ≠ i → L.getD j true = false → (∀ e ∈ oj.after, Region.binds md e = true → e.on ≠ i) → oi.apart ops oj = true) →
      i ∈ Region.ready md ops L → (∀ j, j ∈ F → L.getD j true = false) → YieldsIf P ops S oi v a → S w →
      anyG P md ops Q S f n (L.setIfInBounds i true) (a.put oi.dst v) w → anyG P md ops Q S f (n + 1) L a w := by
  intro n
  induction n with
  | zero =>
    intro L a w _ hr _ hy hS H
    refine ⟨fun h => (by rw [h] at hr; cases hr), fun j hj => ?_⟩
    by_cases hji : j = i
    · subst hji
      exact hy.wpOp hi hS ⟨fun _ => hS, H⟩
    · have h1 := ready_mono hj hji
      rw [H.1] at h1
      cases h1
  | succ n ih =>
    intro L a w hfree hr hU hy hS H
    refine ⟨fun h => (by rw [h] at hr; cases hr), fun j hj => ?_⟩
    by_cases hji : j = i
    · subst hji
      exact hy.wpOp hi hS ⟨fun _ => hS, H⟩
    · have h1 := H.2 j (ready_mono hj hji)
      obtain ⟨hjun, oj, hoj, hall⟩ := mem_ready.1 hj
      have hiun := (mem_ready.1 hr).1
      have hjF : ¬j ∈ F := fun hjF => by
        have h2 := List.all_eq_true.1 hF j hjF
        simp only [hoj] at h2
        obtain ⟨k, hk, he⟩ := Array.any_eq_true.1 h2
        rw [Bool.and_eq_true, Bool.or_eq_true, beq_iff_eq, List.contains_iff_mem] at he
        have h3 := hall _ (Array.getElem_mem hk) he.1
        rcases he.2 with h4 | h4
        · rw [h4] at h3
          exact unlisted hiun h3
        · exact unlisted (hU _ h4) h3
      have hnot : ∀ e ∈ oj.after, Region.binds md e = true → e.on ≠ i := fun e he hb q => unlisted hiun (by rw [← q]; exact hall e he hb)
      have h2 := wpOp_putIf hoj (hfree j oj hoj hji hjun hnot) (fun cs b => hsel i oi cs b hi) (fun cs b => hsel j oj cs b hoj) hQ hy h1
      have hne : ∀ k, k ∈ F → j ≠ k := fun k hk q => hjF (by rw [q]; exact hk)
      have hU' : ∀ k, k ∈ F → (L.setIfInBounds j true).getD k true = false := fun k hk => by
        rw [getD_set_ne true (hne k hk)]
        exact hU k hk
      have hflag : ((L.setIfInBounds i true).setIfInBounds j true).getD f true = false := by
        rw [getD_set_ne true (hne f hf), getD_set_ne true (fun q => hiF (by rw [q]; exact hf))]
        exact hU f hf
      have hfree' : ∀ k ok, ops[k]? = some ok → k ≠ i → (L.setIfInBounds j true).getD k true = false → (∀ e ∈ ok.after, Region.binds md e = true → e.on ≠ i) → oi.apart ops ok = true := fun k ok hk hki hun hno => by
        refine hfree k ok hk hki ?_ hno
        by_cases hjk : j = k
        · subst hjk
          exact hjun
        · rw [getD_set_ne true hjk] at hun
          exact hun
      refine wpOp_mono (fun a' w' h3 => ⟨fun _ => h3.2.1 hflag, ih (L.setIfInBounds j true) a' w' hfree' (ready_mono hr (Ne.symm hji)) hU' h3.1 (h3.2.1 hflag) ?_⟩) h2
      rw [Array.setIfInBounds_comm _ _ hji]
      exact h3.2.2
/-- May operation i be taken first, where f waits for it by way of F? -/
def okG (md : Region.Mode) (ops : Array Oper) (f i : Nat) (F : List Nat) (L : Array Bool) : Bool :=
  F.contains f && waitsG md ops i F && !F.contains i && F.all (fun j => !L.getD j true) && Region.noSelect ops && Region.free md ops L i && (Region.ready md ops L).contains i
theorem anyG_take {i : Nat} (F : List Nat) {oi : Oper} {v : Value} {n : Nat} {L : Array Bool} {a : Act} {w : World} (hi : ops[i]? = some oi) (hk : okG md ops f i F L = true)
    (hQ : ∀ c a w, Q (.panic c) (a.put oi.dst v) w → Q (.panic c) a w) (hy : YieldsIf P ops S oi v a) (hS : S w)
    (h : anyG P md ops Q S f n (L.setIfInBounds i true) (a.put oi.dst v) w) : anyG P md ops Q S f (n + 1) L a w := by
  simp only [okG, Bool.and_eq_true, Bool.not_eq_true', List.all_eq_true, List.contains_iff_mem] at hk
  obtain ⟨⟨⟨⟨⟨⟨k1, k2⟩, k3⟩, k4⟩, k5⟩, k6⟩, k7⟩ := hk
  exact anyG_first k1 k2 (fun q => by rw [← List.contains_iff_mem, k3] at q; cases q) hi (Region.noSelect_spec k5) hQ n L a w (Region.free_spec hi k6) k7 k4 hy hS h
def readyG (P : Program) (md : Region.Mode) (ops : Array Oper) (Q : Exit → Act → World → Prop) (S : World → Prop) (f n : Nat) (L : Array Bool) (a : Act) (w : World) (rs : List Nat) : Prop :=
  ∀ i ∈ rs, wpOp P ops Q i (fun a' w' => ((L.setIfInBounds i true).getD f true = false → S w') ∧ anyG P md ops Q S f n (L.setIfInBounds i true) a' w') a w
theorem readyG.nil {n : Nat} {L : Array Bool} {a : Act} {w : World} : readyG P md ops Q S f n L a w [] := fun _ h => by cases h
theorem readyG.cons {n : Nat} {L : Array Bool} {a : Act} {w : World} {i : Nat} {o : Oper} {rs : List Nat} (ho : ops[i]? = some o)
    (h : ∀ K' : Act → World → Prop, Shut (∀ a w, ((L.setIfInBounds i true).getD f true = false → S w) → anyG P md ops Q S f n (L.setIfInBounds i true) a w → K' a w) → if Region.wanted o (yielded ops a.tmps) = true then Oper.wp P o a w K' Q else K' (a.put o.dst undef) w)
    (hs : readyG P md ops Q S f n L a w rs) : readyG P md ops Q S f n L a w (i :: rs) := fun j hj => by
  rcases List.mem_cons.1 hj with rfl | hj
  · exact wpOp_step ho (fun K' hK => h K' (fun a w hS hW => hK a w ⟨hS, hW⟩))
  · exact hs j hj
theorem anyG_ready {rs : List Nat} {n : Nat} {L : Array Bool} {a : Act} {w : World} (hr : Region.ready md ops L = rs) (hne : rs ≠ []) (h : readyG P md ops Q S f n L a w rs) : anyG P md ops Q S f (n + 1) L a w :=
  ⟨fun h0 => absurd (hr ▸ h0) hne, hr ▸ h⟩
theorem anyG_done {n : Nat} {L : Array Bool} {a : Act} {w : World} (hr : Region.ready md ops L = []) (h : Q .normal a w) : anyG P md ops Q S f n L a w := by
  cases n with
  | zero => exact ⟨hr, h⟩
  | succ n => exact ⟨fun _ => h, fun i hi => by rw [hr] at hi; cases hi⟩
theorem anyG_start {id : Nat} {a : Act} {w : World} (f : Nat) (S : World → Prop) (hm : P.follows .mixedOrders = true) (h : anyG P .any ops Q S f ops.size (Array.replicate ops.size false) a w.drew) : (Code.region id ops true).wp P Q a w :=
  wp_region_any hm (any_of_G _ _ _ _ h)
end
end Go.Proofs.Ytgfblogneggpmaa.One
namespace Go.Proofs.Ytgfblogneggpmaa.One
open Go.RowKit Go.Proofs.Ytgfblogneggpmaa.Fn Go.Proofs.YtgfblogneggpmaaW.PrintWords Go.Proofs.YtgfblogneggpmaaW.PrintLast Go.Proofs.YtgfblogneggpmaaW.PrintMore Go.Proofs.Ytgfblogneggpmaa.Vote Go.Proofs.Ytgfblogneggpmaa.Clk Go.Proofs.Ytgfblogneggpmaa.Thr
set_option linter.unusedVariables false
set_option linter.unusedSimpArgs false
set_option maxRecDepth 100000
/-- One more, laid out in a block g, is appended to a row of the call's own; at a step of a region that draws its order. -/
theorem R_app_gen {α : Type} (d : Kd α) {P : Program} {ops : Array Oper} {o : Oper} {a : Act} {Q : Exit → Act → World → Prop} {K : Act → World → Prop} {E : Prop} {w0 W : World} (base : Nat) (hgd : o.guard = none) (s x : Operand) (t e : TypeId) (z : Value) (bytes : Nat)
    (ho : o.op = .call { callee := .builtin .append, args := #[s, x], argTypes := #[t, t] })
    (ht : P.underlying t = some (.slice e)) (hinfo : (P.info? e).map (fun i => (i.zero, i.size, i.bytes)) = some (some z, d.sz, bytes)) (hz : z.cells.size = d.sz) (hs0 : 0 < d.sz) (hb0 : 0 < bytes)
    (v : Value) (xs : List α) (p : α) (cs : List Value) (ok : Nat → Prop) (hs : a.eval s = v) (g : Nat) (hx : a.eval x = .slice (some ⟨g, 0, none⟩) 1 1) (hg : W.heap[g]? = some (.cells cs.toArray e (0, 0))) (hp : d.M W base (fun _ => False) p cs) (hfresh : ∀ k, W.heap.size ≤ k → ok k)
    (HO : d.R e W base ok v xs) (HB : Below base w0 W) (hbase : base ≤ W.heap.size) (hl : (xs.length + 1) * bytes ≤ 140737488355328)
    (h : ∀ v1 w1, d.R e w1 base ok v1 (xs ++ [p]) → Below base w0 w1 → W.grownBy w1 v.ownBlock → K (a.put o.dst v1) w1) :
    if Region.wanted o (yielded ops a.tmps) = true then Oper.wp P o a W K Q else E := by
  have hv := Kd.R_base HO
  obtain ⟨h0, inner, hown, hr⟩ := HO
  obtain ⟨i0, hi, hzz⟩ := Option.map_eq_some_iff.1 hinfo
  simp only [Prod.mk.injEq] at hzz
  obtain ⟨hz0, hz1, hz2⟩ := hzz
  have hlen : xs.length + 1 ≤ 140737488355328 := Nat.le_trans (Nat.le_mul_of_pos_right _ hb0) hl
  refine step_append_lies W hgd s x t ho base e i0 z d.sz bytes ht hi hz0 hz1 hz2 hz hs0 v xs.length inner hs hown ⟨g, 0, none⟩ 1 1 cs hx (by rw [d.K_len (d.K_of_M hp), Nat.one_mul])
    (by simpa using World.news_of_block hg) (d.K_one (d.K_of_M hp)) (by omega) (by simp only [maxLen]; omega) hl hbase W.heap.size rfl ?_
  intro g1 cap w1 hown1 hg1 hat1 hlt
  refine h _ w1 (Kd.R_appended h0 hr hp (fun _ hk => hk.elim) hfresh hown1 hg1 ?_) (HB.grown hg1 hbase hv) hg1
  rcases hat1 with q | q
  · exact .inl (by rw [q]; simp [Value.ownBlock])
  · exact .inr ⟨g1, by simp [Value.ownBlock], by omega⟩
theorem anyG_gen {P : Program} {ops : Array Oper} {Q : Exit → Act → World → Prop} {md : Region.Mode} {S : World → Prop} {f n : Nat} {L : Array Bool} {a : Act} {W : World} (R : World → Prop) (hr : R W) (h : ∀ W', R W' → anyG P md ops Q S f n L a W') : anyG P md ops Q S f n L a W := h W hr
/-- Nodes at their beginning: m of n. -/
def ini (n m : Nat) : St := ⟨List.replicate m 0, List.replicate m 0, List.replicate m true, List.replicate m ⟨0, -1, 0, 0⟩, List.replicate m ⟨0, none_ n⟩, [], [], [], 0⟩
/-- The block of the nodes, which says x0; the result's; a lead's. -/
structure Bl (w0 : World) (B : Nat) (W0 : World) (t d r : Int) (x0 : NV) (gw gs gl : Nat) (A : Option Addr) (n c : Nat) (l : List Int) (W : World) (tag : Nat → Nat) (x : NV) (s : St) : Prop where
  nw : Nw w0 B W0 (fun _ => 0) W tag x s
  bw : W.heap[gw]? = some (nblk t d r x0 0 true)
  bs : W.heap[gs]? = some zblk
  bl : W.heap[gl]? = some (.cells #[.int .u64 0, .slice A n c] 52 (0, 0))
  v : Kd.V (Kd.int .i64) 2 W B (fun k => tag k = 9) (.slice A n c) l
  tw : tag gw = 0
  ts : tag gs = 0
  tl : tag gl = 0
  ne : gw ≠ gs
  nl : gw ≠ gl
  w : W0.heap.size ≤ gw
  s_ : W0.heap.size ≤ gs
  b0 : B ≤ W0.heap.size
section
variable {w0 : World} {B : Nat} {W0 W w1 : World} {t d r : Int} {x0 x : NV} {gw gs gl : Nat} {A : Option Addr} {n c : Nat} {l : List Int} {tag : Nat → Nat} {s : St}
theorem Bl.below (h : Bl w0 B W0 t d r x0 gw gs gl A n c l W tag x s) (hb : Below W.heap.size W w1) : Bl w0 B W0 t d r x0 gw gs gl A n c l w1 tag x s :=
  { h with nw := h.nw.below hb, bw := blk_below h.bw hb, bs := blk_below h.bs hb, bl := blk_below h.bl hb, v := Kd.V_below h.v hb }
theorem Bl.alloc (h : Bl w0 B W0 t d r x0 gw gs gl A n c l W tag x s) (o : Obj) : Bl w0 B W0 t d r x0 gw gs gl A n c l (W.alloc o) tag x s := h.below (below_alloc (Below.refl _ _) o)
/-- A block that is no row's. -/
def Lay (W : World) (tag : Nat → Nat) (g : Nat) (cs : List Value) (e : Nat) : Prop := W.heap[g]? = some (.cells cs.toArray e (0, 0)) ∧ tag g = 0
theorem Lay.below {g e : Nat} {cs : List Value} (h : Lay W tag g cs e) (hb : Below W.heap.size W w1) : Lay w1 tag g cs e := ⟨blk_below h.1 hb, h.2⟩
theorem Lay.alloc {g e : Nat} {cs : List Value} (h : Lay W tag g cs e) (o : Obj) : Lay (W.alloc o) tag g cs e := h.below (below_alloc (Below.refl _ _) o)
theorem Bl.lay (h : Bl w0 B W0 t d r x0 gw gs gl A n c l W tag x s) (cs : List Value) (e : Nat) : Lay (W.alloc (.cells cs.toArray e)) tag W.heap.size cs e := ⟨blk_new W _, h.nw.fresh _ (Nat.le_refl _)⟩
/-- What else is kept where a row has grown. -/
theorem Bl.grown {v : Value} {i : Nat} (hi : i ≠ 0) (h9 : i ≠ 9) (h : Bl w0 B W0 t d r x0 gw gs gl A n c l W tag x s) (hv : ∀ k, v.ownBlock = some k → tag k = i) (hg : W.grownBy w1 v.ownBlock) {x1 : NV} {s1 : St} (hn : Nw w0 B W0 (fun _ => 0) w1 (ri tag W.heap.size w1.heap.size i) x1 s1) :
    Bl w0 B W0 t d r x0 gw gs gl A n c l w1 (ri tag W.heap.size w1.heap.size i) x1 s1 ∧ ∀ (g : Nat) (cs : List Value) (e : Nat), Lay W tag g cs e → Lay w1 (ri tag W.heap.size w1.heap.size i) g cs e := by
  obtain ⟨b1, b2⟩ := Nw.stay hi hv hg h.bw h.tw
  obtain ⟨b3, b4⟩ := Nw.stay hi hv hg h.bs h.ts
  obtain ⟨b5, b6⟩ := Nw.stay hi hv hg h.bl h.tl
  refine ⟨{ h with nw := hn, bw := b1, bs := b3, bl := b5, tw := b2, ts := b4, tl := b6, v := ?_ }, fun g cs e hl => Nw.stay hi hv hg hl.1 hl.2⟩
  refine Kd.V_mono (Kd.V_grown h.v hg (fun k hk q => h9 ?_)) (fun k hk => ri_old h.nw.fresh (by decide) hk)
  rw [← hv k q.symm]
  exact hk
/-- The block is written: a row's value. -/
theorem Bl.put {x2 : NV} (h : Bl w0 B W0 t d r x0 gw gs gl A n c l W tag x s) (j : Nat) (v : Value) (he : (W.setCell ⟨gw, j, none⟩ v).heap[gw]? = some (nblk t d r x2 0 true)) : Bl w0 B W0 t d r x2 gw gs gl A n c l (W.setCell ⟨gw, j, none⟩ v) tag x s :=
  { h with nw := h.nw.set0 h.tw h.w (Nat.le_trans h.b0 h.w) j v, bw := he, bs := blk_far h.bs (fun e => h.ne e.symm) _, bl := blk_far h.bl (fun e => h.nl e.symm) _, v := Kd.V_far (p := ⟨gw, j, none⟩) h.v (fun k hk e => by rw [show k = gw from e, h.tw] at hk; cases hk) _ }
variable {P : Program} {ops : Array Oper} {o : Oper} {a : Act} {Q : Exit → Act → World → Prop} {K : Act → World → Prop} {E : Prop}
theorem inf2 : (Try.prog.info? 2).map (fun i => (i.zero, i.size, i.bytes)) = some (some (.int .i64 0), (Kd.int .i64).sz, 8) := by kernel_rfl
theorem Bl.app_c (h : Bl w0 B W0 t d r x0 gw gs gl A n c l W tag x s) (hgd : o.guard = none) (sp xp : Operand) (ho : o.op = .call { callee := .builtin .append, args := #[sp, xp], argTypes := #[28, 28] }) (hs : a.eval sp = x.c) (g : Nat) (hx : a.eval xp = .slice (some ⟨g, 0, none⟩) 1 1) (y : Int) (hl : Lay W tag g [.int .i64 y] 2) (hlen : s.clock.length ≤ 10)
    (hK : ∀ v1 w1 tag1, Bl w0 B W0 t d r x0 gw gs gl A n c l w1 tag1 { x with c := v1 } { s with clock := s.clock ++ [y] } → (∀ (g : Nat) (cs : List Value) (e : Nat), Lay W tag g cs e → Lay w1 tag1 g cs e) → K (a.put o.dst v1) w1) :
    if Region.wanted o (yielded ops a.tmps) = true then Oper.wp Try.prog o a W K Q else E := by
  refine R_app_gen (Kd.int .i64) (w0 := w0) B hgd sp xp 28 2 (.int .i64 0) 8 ho Try.underlying28 inf2 rfl (by decide) (by decide) x.c s.clock y [.int .i64 y] (fun k => tag k = 1 ∨ W.heap.size ≤ k) hs g hx hl.1 rfl (fun k hk => .inr hk) (Kd.R_mono h.nw.c (fun k hk => .inl hk)) h.nw.bel h.nw.base (by omega) ?_
  intro v1 w1 hR hB hG
  obtain ⟨h1, h2⟩ := h.grown (i := 1) (by decide) (by decide) h.nw.c.1 hG (h.nw.app_c hR hB hG)
  exact hK v1 w1 _ h1 h2
theorem inf3 : (Try.prog.info? 3).map (fun i => (i.zero, i.size, i.bytes)) = some (some (.int .i64 0), (Kd.int .i64).sz, 8) := by kernel_rfl
theorem Bl.app_l (h : Bl w0 B W0 t d r x0 gw gs gl A n c l W tag x s) (hgd : o.guard = none) (sp xp : Operand) (ho : o.op = .call { callee := .builtin .append, args := #[sp, xp], argTypes := #[73, 73] }) (hs : a.eval sp = x.l) (g : Nat) (hx : a.eval xp = .slice (some ⟨g, 0, none⟩) 1 1) (y : Int) (hl : Lay W tag g [.int .i64 y] 3) (hlen : s.life.length ≤ 10)
    (hK : ∀ v1 w1 tag1, Bl w0 B W0 t d r x0 gw gs gl A n c l w1 tag1 { x with l := v1 } { s with life := s.life ++ [y] } → (∀ (g : Nat) (cs : List Value) (e : Nat), Lay W tag g cs e → Lay w1 tag1 g cs e) → K (a.put o.dst v1) w1) :
    if Region.wanted o (yielded ops a.tmps) = true then Oper.wp Try.prog o a W K Q else E := by
  refine R_app_gen (Kd.int .i64) (w0 := w0) B hgd sp xp 73 3 (.int .i64 0) 8 ho Try.underlying73 inf3 rfl (by decide) (by decide) x.l s.life y [.int .i64 y] (fun k => tag k = 2 ∨ W.heap.size ≤ k) hs g hx hl.1 rfl (fun k hk => .inr hk) (Kd.R_mono h.nw.l (fun k hk => .inl hk)) h.nw.bel h.nw.base (by omega) ?_
  intro v1 w1 hR hB hG
  obtain ⟨h1, h2⟩ := h.grown (i := 2) (by decide) (by decide) h.nw.l.1 hG (h.nw.app_l hR hB hG)
  exact hK v1 w1 _ h1 h2
theorem inf4 : (Try.prog.info? 4).map (fun i => (i.zero, i.size, i.bytes)) = some (some (.bool false), Kd.bool.sz, 1) := by kernel_rfl
theorem Bl.app_u (h : Bl w0 B W0 t d r x0 gw gs gl A n c l W tag x s) (hgd : o.guard = none) (sp xp : Operand) (ho : o.op = .call { callee := .builtin .append, args := #[sp, xp], argTypes := #[74, 74] }) (hs : a.eval sp = x.u) (g : Nat) (hx : a.eval xp = .slice (some ⟨g, 0, none⟩) 1 1) (y : Bool) (hl : Lay W tag g [.bool y] 4) (hlen : s.up.length ≤ 10)
    (hK : ∀ v1 w1 tag1, Bl w0 B W0 t d r x0 gw gs gl A n c l w1 tag1 { x with u := v1 } { s with up := s.up ++ [y] } → (∀ (g : Nat) (cs : List Value) (e : Nat), Lay W tag g cs e → Lay w1 tag1 g cs e) → K (a.put o.dst v1) w1) :
    if Region.wanted o (yielded ops a.tmps) = true then Oper.wp Try.prog o a W K Q else E := by
  refine R_app_gen Kd.bool (w0 := w0) B hgd sp xp 74 4 (.bool false) 1 ho Try.underlying74 inf4 rfl (by decide) (by decide) x.u s.up y [.bool y] (fun k => tag k = 3 ∨ W.heap.size ≤ k) hs g hx hl.1 rfl (fun k hk => .inr hk) (Kd.R_mono h.nw.u (fun k hk => .inl hk)) h.nw.bel h.nw.base (by omega) ?_
  intro v1 w1 hR hB hG
  obtain ⟨h1, h2⟩ := h.grown (i := 3) (by decide) (by decide) h.nw.u.1 hG (h.nw.app_u hR hB hG)
  exact hK v1 w1 _ h1 h2
theorem inf38 : (Try.prog.info? 38).map (fun i => (i.zero, i.size, i.bytes)) = some (some (.agg #[.int .u64 0, .int .i64 0, .int .i64 0, .int .i64 0]), k38.sz, 32) := by kernel_rfl
theorem Bl.app_v (h : Bl w0 B W0 t d r x0 gw gs gl A n c l W tag x s) (hgd : o.guard = none) (sp xp : Operand) (ho : o.op = .call { callee := .builtin .append, args := #[sp, xp], argTypes := #[75, 75] }) (hs : a.eval sp = x.v) (g : Nat) (hx : a.eval xp = .slice (some ⟨g, 0, none⟩) 1 1) (y : S38) (hl : Lay W tag g [.int .u64 y.f0, .int .i64 y.f1, .int .i64 y.f2, .int .i64 y.f3] 38) (hlen : s.votes.length ≤ 10)
    (hK : ∀ v1 w1 tag1, Bl w0 B W0 t d r x0 gw gs gl A n c l w1 tag1 { x with v := v1 } { s with votes := s.votes ++ [y] } → (∀ (g : Nat) (cs : List Value) (e : Nat), Lay W tag g cs e → Lay w1 tag1 g cs e) → K (a.put o.dst v1) w1) :
    if Region.wanted o (yielded ops a.tmps) = true then Oper.wp Try.prog o a W K Q else E := by
  refine R_app_gen k38 (w0 := w0) B hgd sp xp 75 38 (.agg #[.int .u64 0, .int .i64 0, .int .i64 0, .int .i64 0]) 32 ho Try.underlying75 inf38 rfl (by decide) (by decide) x.v s.votes y [.int .u64 y.f0, .int .i64 y.f1, .int .i64 y.f2, .int .i64 y.f3] (fun k => tag k = 4 ∨ W.heap.size ≤ k) hs g hx hl.1 (k38_mkM _ _ _ y) (fun k hk => .inr hk) (Kd.R_mono h.nw.v (fun k hk => .inl hk)) h.nw.bel h.nw.base (by omega) ?_
  intro v1 w1 hR hB hG
  obtain ⟨h1, h2⟩ := h.grown (i := 4) (by decide) (by decide) h.nw.v.1 hG (h.nw.app_v hR hB hG)
  exact hK v1 w1 _ h1 h2
theorem inf52 : (Try.prog.info? 52).map (fun i => (i.zero, i.size, i.bytes)) = some (some (.agg #[.int .u64 0, .slice none 0 0]), kraw.sz, 32) := by kernel_rfl
theorem Bl.app_d (h : Bl w0 B W0 t d r x0 gw gs gl A n c l W tag x s) (hgd : o.guard = none) (sp xp : Operand) (ho : o.op = .call { callee := .builtin .append, args := #[sp, xp], argTypes := #[76, 76] }) (hs : a.eval sp = x.d) (g : Nat) (hx : a.eval xp = .slice (some ⟨g, 0, none⟩) 1 1) (hl : Lay W tag g [.int .u64 0, .slice A n c] 52) (hlen : s.leads.length ≤ 10)
    (hK : ∀ v1 w1 tag1, Bl w0 B W0 t d r x0 gw gs gl A n c l w1 tag1 { x with d := v1, raw := x.raw ++ [(0, A, n, c)] } { s with leads := s.leads ++ [⟨0, l⟩] } → (∀ (g : Nat) (cs : List Value) (e : Nat), Lay W tag g cs e → Lay w1 tag1 g cs e) → K (a.put o.dst v1) w1) :
    if Region.wanted o (yielded ops a.tmps) = true then Oper.wp Try.prog o a W K Q else E := by
  have hdl := h.nw.dl
  refine R_app_gen kraw (w0 := w0) B hgd sp xp 76 52 (.agg #[.int .u64 0, .slice none 0 0]) 32 ho Try.underlying76 inf52 rfl (by decide) (by decide) x.d x.raw (0, A, n, c) [.int .u64 0, .slice A n c] (fun k => tag k = 5 ∨ W.heap.size ≤ k) hs g hx hl.1 (kraw_mkM _ _ _ (0, A, n, c)) (fun k hk => .inr hk) (Kd.R_mono h.nw.d (fun k hk => .inl hk)) h.nw.bel h.nw.base (by omega) ?_
  intro v1 w1 hR hB hG
  obtain ⟨h1, h2⟩ := h.grown (i := 5) (by decide) (by decide) h.nw.d.1 hG (h.nw.app_d (p := s.leads ++ [⟨0, l⟩]) hR (by simp [hdl]) (fun j hj => by
    rw [List.length_append, List.length_singleton] at hj
    by_cases q : j < s.leads.length
    · have := h.nw.dv j q
      simp only [List.getD_eq_getElem?_getD, List.getElem?_append_left (show j < x.raw.length by omega), List.getElem?_append_left q] at this ⊢
      exact this
    · obtain rfl : j = s.leads.length := by omega
      have e1 : (x.raw ++ [(0, A, n, c)]).getD s.leads.length zraw = (0, A, n, c) := by simp [List.getD_eq_getElem?_getD, ← hdl]
      have e2 : (s.leads ++ [(⟨0, l⟩ : S52)]).getD s.leads.length z52 = ⟨0, l⟩ := by simp [List.getD_eq_getElem?_getD]
      rw [e1, e2]
      exact ⟨rfl, h.v⟩) hB hG)
  exact hK v1 w1 _ h1 h2
end
/-- The same without a lead. -/
structure Bb (w0 : World) (B : Nat) (W0 : World) (t d r : Int) (gw gs : Nat) (W : World) (tag : Nat → Nat) (x : NV) (s : St) : Prop where
  nw : Nw w0 B W0 (fun _ => 0) W tag x s
  bw : W.heap[gw]? = some (nblk t d r x 0 true)
  bs : W.heap[gs]? = some zblk
  tw : tag gw = 0
  ts : tag gs = 0
  ne : gw ≠ gs
  w : W0.heap.size ≤ gw
  s_ : W0.heap.size ≤ gs
  b0 : B ≤ W0.heap.size
def nil_ : NV := ⟨[], .slice none 0 0, .slice none 0 0, .slice none 0 0, .slice none 0 0, .slice none 0 0, .slice none 0 0, .slice none 0 0, .slice none 0 0⟩
theorem Nw.nil_ {w0 W0 W : World} {B : Nat} (hB : Below B w0 W0) (hb : B ≤ W0.heap.size) (hW : Below W0.heap.size W0 W) (n : Nat) : Nw w0 B W0 (fun _ => 0) W (fun _ => 0) nil_ (ini n 0) where
  c := Kd.R_nil _ _ _ _ _
  l := Kd.R_nil _ _ _ _ _
  u := Kd.R_nil _ _ _ _ _
  v := Kd.R_nil _ _ _ _ _
  d := Kd.R_nil _ _ _ _ _
  r := Kd.R_nil _ _ _ _ _
  g := Kd.R_nil _ _ _ _ _
  b := Kd.R_nil _ _ _ _ _
  dl := rfl
  dv := fun j hj => by simp [ini] at hj
  bel := hB.trans (hW.mono hb)
  base := Nat.le_trans hb hW.size
  fresh := fun _ _ => rfl
  size := hW.size
  tg := fun _ _ => rfl
  kp := fun k hk _ => hW.block k hk
theorem Bb.start {w0 W : World} {B : Nat} (hB : Below B w0 W) (hb : B ≤ W.heap.size) (t d r : Int) (n : Nat) (o : Obj) : Bb w0 B W t d r (W.heap.size + 1 + 1) (W.heap.size + 1) (((W.alloc o).alloc zblk).alloc (nblk t d r nil_ 0 true)) (fun _ => 0) nil_ (ini n 0) := by
  have hbl : ∀ (w : World) (o : Obj), Below w.heap.size w (w.alloc o) := fun w o => below_alloc (Below.refl _ _) o
  refine ⟨Nw.nil_ hB hb ((hbl W o).trans (((hbl _ zblk).trans ((hbl _ _).mono (by simp))).mono (by simp))) n, ?_, ?_, rfl, rfl, by omega, by omega, by omega, hb⟩
  · have := blk_new ((W.alloc o).alloc zblk) (nblk t d r nil_ 0 true)
    simpa using this
  · have := blk_below (blk_new (W.alloc o) zblk) (hbl _ (nblk t d r nil_ 0 true))
    simpa using this
/-- A lead is made. -/
theorem Bb.made {w0 W W0 w1 : World} {B : Nat} {t d r : Int} {gw gs n c : Nat} {A : Option Addr} {tag : Nat → Nat} {x : NV} {s : St} {l : List Int} (h : Bb w0 B W0 t d r gw gs W tag x s) (hb : Below W.heap.size W w1) (hr : (Kd.int .i64).R 2 w1 W.heap.size (fun _ => True) (.slice A n c) l) :
    Bl w0 B W0 t d r x gw gs w1.heap.size A n c l (w1.alloc (.cells #[.int .u64 0, .slice A n c] 52)) (ri tag W.heap.size w1.heap.size 9) x s := by
  have h2 : Nw w0 B W0 (fun _ => 0) w1 (ri tag W.heap.size w1.heap.size 9) x s := h.nw.retag (h.nw.below hb) hb.size 9
  have old : ∀ {k : Nat} {o : Obj}, W.heap[k]? = some o → tag k = 0 → ri tag W.heap.size w1.heap.size 9 k = 0 := fun hk ht => by
    unfold ri
    rw [if_neg (fun q => by have := blk_lt hk; omega)]
    exact ht
  have hal := below_alloc (Below.refl w1.heap.size w1) (.cells #[.int .u64 0, .slice A n c] 52)
  exact ⟨h2.alloc _, blk_below (blk_below h.bw hb) hal, blk_below (blk_below h.bs hb) hal, blk_new w1 _, Kd.V_alloc (called_V (Kd.R_V (Kd.R_reok rfl hr (fun k hk => .inr (Kd.R_base hr k hk))))) _, old h.bw h.tw, old h.bs h.ts, h2.fresh _ (Nat.le_refl _), h.ne, fun e => by have := blk_lt h.bw; have := hb.size; omega, h.w, h.s_, h.b0⟩
theorem Bl.bb {w0 W W0 : World} {B : Nat} {t d r : Int} {gw gs gl n c : Nat} {A : Option Addr} {tag : Nat → Nat} {x : NV} {s : St} {l : List Int} (h : Bl w0 B W0 t d r x gw gs gl A n c l W tag x s) : Bb w0 B W0 t d r gw gs W tag x s := ⟨h.nw, h.bw, h.bs, h.tw, h.ts, h.ne, h.w, h.s_, h.b0⟩
theorem ini_succ (n m : Nat) : ({ ini n m with clock := (ini n m).clock ++ [0], life := (ini n m).life ++ [0], up := (ini n m).up ++ [true], votes := (ini n m).votes ++ [⟨0, -1, 0, 0⟩], leads := (ini n m).leads ++ [⟨0, none_ n⟩] } : St) = ini n (m + 1) := by
  simp [ini, List.replicate_succ']
theorem of7 {W : World} {gw : Nat} {t d r : Int} {x : NV} (h : W.heap[gw]? = some (nblk t d r x 0 true)) : W.cell? ⟨gw, 3, none⟩ = some x.c ∧ W.cell? ⟨gw, 4, none⟩ = some x.l ∧ W.cell? ⟨gw, 5, none⟩ = some x.u := ⟨(blk_cell h 3).trans rfl, (blk_cell h 4).trans rfl, (blk_cell h 5).trans rfl⟩
theorem of8 {W : World} {gw gl n c : Nat} {t d r : Int} {x : NV} {A : Option Addr} (h : W.heap[gw]? = some (nblk t d r x 0 true)) (hl : W.heap[gl]? = some (.cells #[.int .u64 0, .slice A n c] 52 (0, 0))) : W.cell? ⟨gw, 6, none⟩ = some x.v ∧ W.cell? ⟨gw, 7, none⟩ = some x.d ∧ W.cell? ⟨gl, 0, none⟩ = some (.int .u64 0) ∧ W.cell? ⟨gl, 1, none⟩ = some (.slice A n c) := ⟨(blk_cell h 6).trans rfl, (blk_cell h 7).trans rfl, (blk_cell hl 0).trans rfl, (blk_cell hl 1).trans rfl⟩
/-- The nodes' block is copied to the result's. -/
theorem reg_ret5 {id : Nat} {o1 o2 : Oper} {Q : Exit → Act → World → Prop} {a : Act} {W : World} (T : Nat) {gw gs : Nat} {cs old : Array Value} (h1 : o1.op = .load 80 (.tmp 5)) (hd1 : o1.dst = some T) (hg1 : o1.guard = none) (h2 : o2.op = .store 80 (.tmp 4) (.tmp T)) (hd2 : o2.dst = none) (hg2 : o2.guard = none)
    (hx : a.eval (.tmp 5) = .pointer (some ⟨gw, 0, none⟩)) (hs : (a.put (some T) (.agg cs)).eval (.tmp 4) = .pointer (some ⟨gs, 0, none⟩)) (hy : (a.put (some T) (.agg cs)).eval (.tmp T) = .agg cs) (hw : W.heap[gw]? = some (.cells cs 80 (0, 0))) (hz : W.heap[gs]? = some (.cells old 80 (0, 0))) (hc : cs.size = 13) (ho : old.size = 13) (hall : cs.all (·.oneCell') = true)
    (h : Q .normal ((a.put (some T) (.agg cs)).put none undef) (W.setRow gs cs)) : Code.wp Try.prog (.region id #[o1, o2] false) Q a W := by
  have hi : (Try.prog.info? 80).map (·.size) = some cs.size := by rw [hc]; exact info80s
  refine wp_region_lit (l := [o1, o2]) (wpList_load_row hg1 80 (.tmp 5) h1 gw hx 80 cs (0, 0) _ hw Try.underlying80 rfl hi (wpList_store_row hg2 80 (.tmp 4) (.tmp T) h2 gs cs ?_ ?_ 80 old hz hi (by rw [ho, hc]) hall ?_))
  · rw [hd1]; exact hs
  · rw [hd1]; exact hy
  · rw [hd1, hd2]
    exact h
section
variable {P : Program} {ops : Array Oper} {Q : Exit → Act → World → Prop} {md : Region.Mode} {S : World → Prop} {f m : Nat} {L : Array Bool} {a : Act} {w0 W W0 : World} {B : Nat} {t d r : Int} {gw gs gl n c : Nat} {A : Option Addr} {tag : Nat → Nat} {x0 x : NV} {s : St} {l : List Int} {g1 g2 g3 e1 e2 e3 : Nat} {c1 c2 c3 : List Value}
theorem bl0 (h : Bl w0 B W0 t d r x0 gw gs gl A n c l W tag x s) (k : ∀ W', Hid (Bl w0 B W0 t d r x0 gw gs gl A n c l W' tag x s) → anyG P md ops Q S f m L a W') : anyG P md ops Q S f m L a W := k W (Lib.hid h)
theorem bl1 (h : Bl w0 B W0 t d r x0 gw gs gl A n c l W tag x s) (q1 : Lay W tag g1 c1 e1) (k : ∀ W', Hid (Bl w0 B W0 t d r x0 gw gs gl A n c l W' tag x s) → Hid (Lay W' tag g1 c1 e1) → anyG P md ops Q S f m L a W') : anyG P md ops Q S f m L a W := k W (Lib.hid h) (Lib.hid q1)
theorem bl2 (h : Bl w0 B W0 t d r x0 gw gs gl A n c l W tag x s) (q1 : Lay W tag g1 c1 e1) (q2 : Lay W tag g2 c2 e2) (k : ∀ W', Hid (Bl w0 B W0 t d r x0 gw gs gl A n c l W' tag x s) → Hid (Lay W' tag g1 c1 e1) → Hid (Lay W' tag g2 c2 e2) → anyG P md ops Q S f m L a W') : anyG P md ops Q S f m L a W := k W (Lib.hid h) (Lib.hid q1) (Lib.hid q2)
theorem bl3 (h : Bl w0 B W0 t d r x0 gw gs gl A n c l W tag x s) (q1 : Lay W tag g1 c1 e1) (q2 : Lay W tag g2 c2 e2) (q3 : Lay W tag g3 c3 e3) (k : ∀ W', Hid (Bl w0 B W0 t d r x0 gw gs gl A n c l W' tag x s) → Hid (Lay W' tag g1 c1 e1) → Hid (Lay W' tag g2 c2 e2) → Hid (Lay W' tag g3 c3 e3) → anyG P md ops Q S f m L a W') : anyG P md ops Q S f m L a W := k W (Lib.hid h) (Lib.hid q1) (Lib.hid q2) (Lib.hid q3)
theorem Bl.put_c (h : Bl w0 B W0 t d r x0 gw gs gl A n c l W tag x s) (v : Value) : Bl w0 B W0 t d r { x0 with c := v } gw gs gl A n c l (W.setCell ⟨gw, 3, none⟩ v) tag x s := h.put 3 v (by have := blk_set h.bw 3 v; exact this)
theorem Bl.put_l (h : Bl w0 B W0 t d r x0 gw gs gl A n c l W tag x s) (v : Value) : Bl w0 B W0 t d r { x0 with l := v } gw gs gl A n c l (W.setCell ⟨gw, 4, none⟩ v) tag x s := h.put 4 v (by have := blk_set h.bw 4 v; exact this)
theorem Bl.put_u (h : Bl w0 B W0 t d r x0 gw gs gl A n c l W tag x s) (v : Value) : Bl w0 B W0 t d r { x0 with u := v } gw gs gl A n c l (W.setCell ⟨gw, 5, none⟩ v) tag x s := h.put 5 v (by have := blk_set h.bw 5 v; exact this)
theorem Bl.put_v (h : Bl w0 B W0 t d r x0 gw gs gl A n c l W tag x s) (v : Value) : Bl w0 B W0 t d r { x0 with v := v } gw gs gl A n c l (W.setCell ⟨gw, 6, none⟩ v) tag x s := h.put 6 v (by have := blk_set h.bw 6 v; exact this)
theorem Bl.put_d (h : Bl w0 B W0 t d r x0 gw gs gl A n c l W tag x s) (v : Value) : Bl w0 B W0 t d r { x0 with d := v, raw := x.raw } gw gs gl A n c l (W.setCell ⟨gw, 7, none⟩ v) tag x s := h.put 7 v (by have := blk_set h.bw 7 v; exact this)
end
set_option maxHeartbeats 4000000 in
theorem begin_ok (w0 W : World) (B : Nat) (hB : Below B w0 W) (hb : B ≤ W.heap.size) (t d r : Int) (n : Nat) (hn : 2 ≤ n ∧ n ≤ 5) : Calls Try.prog 34 #[.agg #[.int .i64 t, .int .i64 d, .int .i64 r], .int .i64 (n : Int)] W (fun e w' => ∃ x' tag', e = .returned (.agg #[.int .i64 t, .int .i64 d, .int .i64 r, x'.c, x'.l, x'.u, x'.v, x'.d, x'.r, x'.g, x'.b, .int .u64 0, .bool true]) ∧ Nw w0 B W (fun _ => 0) w' tag' x' (ini n n)) := by
  have hu80 := Try.underlying80
  have hu23 := Try.underlying23
  have hu28 := Try.underlying28
  have hu73 := Try.underlying73
  have hu74 := Try.underlying74
  have hu75 := Try.underlying75
  have hu76 := Try.underlying76
  have hu52 := Try.underlying52
  have hu38 := Try.underlying38
  have HB0 := Lib.hid hB
  clear hB
  go_enter Try.func34, Try.ntmps34
  go_upto_region 2 with (fail)
  refine wp_gen (fun W1 => Bb w0 B W t d r (W.heap.size + 1 + 1) (W.heap.size + 1) W1 (fun _ => 0) nil_ (ini n 0)) (Bb.start HB0.out hb t d r n _) ?_
  intro W1 h1
  generalize W.heap.size + 1 + 1 = gw at h1 ⊢
  generalize W.heap.size + 1 = gs at h1 ⊢
  have H1 := Lib.hid h1
  clear h1
  go_wp2_with fail
  go_loopg [6] n (fun gg v6 wr => ∃ m : Nat, v6 = .int .i64 (m : Int) ∧ Aside0 (m ≤ n) ∧ Aside0 (n ≤ gg + m) ∧ ∃ (x : NV) (tag : Nat → Nat), Aside0 (Bb w0 B W t d r gw gs wr tag x (ini n m)))
  case atStart => exact ⟨0, rfl, ⟨Nat.zero_le _⟩, ⟨by omega⟩, nil_, _, ⟨H1.out⟩⟩
  case round =>
    obtain ⟨m, rfl, a1, a2, x, tag, a3⟩ := hrel
    obtain ⟨A1, A2, A3, A4, A5, A6, A7, A8, c1, c2, c3, c4, c5, c6, c7, c8, hx⟩ := a3.out.nw.open
    obtain ⟨raw, vc, vl, vu, vv, vd, vr, vg, vb⟩ := x
    injection hx with hx0 hx1 hx2 hx3 hx4 hx5 hx6 hx7 hx8
    subst hx1 hx2 hx3 hx4 hx5 hx6 hx7 hx8
    clear hx0
    by_cases hm : m < n
    · have hmi : (m : Int) < (n : Int) := by omega
      have HNW := Lib.hid (lnew_eq n (by omega) (by omega))
      go_upto_region 6 with (first | (go_at_call 25; refine (lead_New.calls _ _ _ _ _ HNW.out).mono ?_; rintro e w1 ⟨vr, rfl, hr, hb2⟩; obtain ⟨Ar, cr, hvr⟩ := Kd.R_slice hr; rw [List.length_replicate] at hvr; subst hvr; have HB3 := Lib.hid hb2; have HR3 := Lib.hid hr; clear hb2 hr))
      refine wp_gen (fun W4 => ∃ tg, Bl w0 B W t d r ⟨raw, .slice A1 (ini n m).clock.length c1, .slice A2 (ini n m).life.length c2, .slice A3 (ini n m).up.length c3, .slice A4 (ini n m).votes.length c4, .slice A5 (ini n m).leads.length c5, .slice A6 (ini n m).reqs.length c6, .slice A7 (ini n m).grs.length c7, .slice A8 (ini n m).beats.length c8⟩ gw gs w1.heap.size Ar n cr (none_ n) W4 tg ⟨raw, .slice A1 (ini n m).clock.length c1, .slice A2 (ini n m).life.length c2, .slice A3 (ini n m).up.length c3, .slice A4 (ini n m).votes.length c4, .slice A5 (ini n m).leads.length c5, .slice A6 (ini n m).reqs.length c6, .slice A7 (ini n m).grs.length c7, .slice A8 (ini n m).beats.length c8⟩ (ini n m)) ⟨_, a3.out.made HB3.out HR3.out⟩ ?_
      rintro W4 ⟨tg, hB⟩
      generalize w1.heap.size = gl at hB ⊢
      obtain ⟨z0, z1, z2, z3, z4, z5, z6, z7, z8, z9, z10, z11, z12⟩ := nblk_cells hB.bw
      have zf := blk_frozen hB.bw 12
      have l1 : W4.cell? ⟨gl, 1, none⟩ = some (.slice Ar n cr) := (blk_cell hB.bl 1).trans rfl
      have HB := Lib.hid hB
      clear hB z0 z1 z2 z3 z4 z5 z6 z7 z8 z9 z10 z11 HB3 HR3
      go_upto_region 7 with (fail)
      refine wp_gen (fun W5 => Bl w0 B W t d r ⟨raw, .slice A1 (ini n m).clock.length c1, .slice A2 (ini n m).life.length c2, .slice A3 (ini n m).up.length c3, .slice A4 (ini n m).votes.length c4, .slice A5 (ini n m).leads.length c5, .slice A6 (ini n m).reqs.length c6, .slice A7 (ini n m).grs.length c7, .slice A8 (ini n m).beats.length c8⟩ gw gs gl Ar n cr (none_ n) W5 tg ⟨raw, .slice A1 (ini n m).clock.length c1, .slice A2 (ini n m).life.length c2, .slice A3 (ini n m).up.length c3, .slice A4 (ini n m).votes.length c4, .slice A5 (ini n m).leads.length c5, .slice A6 (ini n m).reqs.length c6, .slice A7 (ini n m).grs.length c7, .slice A8 (ini n m).beats.length c8⟩ (ini n m)) (HB.out.put 12 _ (by have := blk_set HB.out.bw 12 (.bool true); exact this)) ?_
      clear HB z12 zf l1
      intro W5 hB
      have HB := Lib.hid hB
      clear hB
      go_cut [6] (fun s6 wx => s6 = .int .i64 (m : Int) ∧ ∃ (x1 : NV) (tg1 : Nat → Nat), Bl w0 B W t d r x1 gw gs gl Ar n cr (none_ n) wx tg1 x1 { ini n m with clock := (ini n m).clock ++ [0], life := (ini n m).life ++ [0], up := (ini n m).up ++ [true] })
      case first =>
        refine anyG_start 13 (fun w' => w'.cell? ⟨gw, 3, none⟩ = some (.slice A1 (ini n m).clock.length c1) ∧ w'.cell? ⟨gw, 4, none⟩ = some (.slice A2 (ini n m).life.length c2) ∧ w'.cell? ⟨gw, 5, none⟩ = some (.slice A3 (ini n m).up.length c3)) (by kernel_rfl) ?_
        refine bl0 (HB.out.below (below_drew (Below.refl _ _))) ?_
        clear HB
        intro Wc HB
        refine anyG_take (i := 0) [13] (v := ?_) rfl (by kernel_rfl) (fun _ _ _ h => h) (Or.inl ⟨by rfl, ?_⟩) (of7 HB.out.bw) ?_
        rotate_left
        · intro w' hS; (try dsimp only at hS); go_simp; (try with_reducible rfl)
        (try simp only [Act.put, List.setIfInBounds_toArray, List.set_cons_zero, List.set_cons_succ])
        refine anyG_take (i := 1) [13] (v := ?_) rfl (by kernel_rfl) (fun _ _ _ h => h) (Or.inl ⟨by rfl, ?_⟩) (of7 HB.out.bw) ?_
        rotate_left
        · intro w' hS; (try dsimp only at hS); go_simp; (try with_reducible rfl)
        (try simp only [Act.put, List.setIfInBounds_toArray, List.set_cons_zero, List.set_cons_succ])
        refine anyG_take (i := 4) [13] (v := ?_) rfl (by kernel_rfl) (fun _ _ _ h => h) (Or.inl ⟨by rfl, ?_⟩) (of7 HB.out.bw) ?_
        rotate_left
        · intro w' hS; (try dsimp only at hS); go_simp; (try with_reducible rfl)
        (try simp only [Act.put, List.setIfInBounds_toArray, List.set_cons_zero, List.set_cons_succ])
        refine anyG_take (i := 5) [13] (v := ?_) rfl (by kernel_rfl) (fun _ _ _ h => h) (Or.inl ⟨by rfl, ?_⟩) (of7 HB.out.bw) ?_
        rotate_left
        · intro w' hS; (try dsimp only at hS); go_simp; (try with_reducible rfl)
        (try simp only [Act.put, List.setIfInBounds_toArray, List.set_cons_zero, List.set_cons_succ])
        refine anyG_take (i := 8) [13] (v := ?_) rfl (by kernel_rfl) (fun _ _ _ h => h) (Or.inl ⟨by rfl, ?_⟩) (of7 HB.out.bw) ?_
        rotate_left
        · intro w' hS; (try dsimp only at hS); go_simp; (try with_reducible rfl)
        (try simp only [Act.put, List.setIfInBounds_toArray, List.set_cons_zero, List.set_cons_succ])
        refine anyG_take (i := 9) [13] (v := ?_) rfl (by kernel_rfl) (fun _ _ _ h => h) (Or.inl ⟨by rfl, ?_⟩) (of7 HB.out.bw) ?_
        rotate_left
        · intro w' hS; (try dsimp only at hS); go_simp; (try with_reducible rfl)
        (try simp only [Act.put, List.setIfInBounds_toArray, List.set_cons_zero, List.set_cons_succ])
        refine anyG_ready (rs := [2, 6, 10]) (by kernel_rfl) (by simp) (readyG.cons (by rfl) (fun K hK => ?_) (readyG.cons (by rfl) (fun K hK => ?_) (readyG.cons (by rfl) (fun K hK => ?_) (readyG.nil))))
        · go_simp
          refine hK.out _ _ (fun _ => of7 (HB.out.alloc _).bw) ?_
          clear hK K
          (try simp only [Act.put, List.setIfInBounds_toArray, List.set_cons_zero, List.set_cons_succ])
          have hg := HB.out.lay [.int .i64 0] 2
          generalize Wc.heap.size = g1 at hg ⊢
          refine bl1 (HB.out.alloc _) (hg) ?_
          clear HB
          intro Wc HB HG1
          clear hg
          refine anyG_ready (rs := [3, 6, 10]) (by kernel_rfl) (by simp) (readyG.cons (by rfl) (fun K hK => ?_) (readyG.cons (by rfl) (fun K hK => ?_) (readyG.cons (by rfl) (fun K hK => ?_) (readyG.nil))))
          · refine HB.out.app_c (by rfl) (.tmp 36) (.tmp 37) (by rfl) (by rfl) g1 (by rfl) 0 HG1.out (show (ini n m).clock.length ≤ 10 by simp [ini]; omega) ?_
            intro v Wd tg hB hL
            obtain ⟨V1, e1, hv⟩ := Kd.R_slice hB.nw.c
            dsimp only at hv
            rw [List.length_append, List.length_singleton] at hv
            subst hv
            refine hK.out _ _ (fun _ => of7 hB.bw) ?_
            clear hK K
            (try simp only [Act.put, List.setIfInBounds_toArray, List.set_cons_zero, List.set_cons_succ])
            refine bl0 (hB) ?_
            clear hB hL HB HG1
            intro Wc HB
            refine anyG_take (i := 12) [13] (v := ?_) rfl (by kernel_rfl) (fun _ _ _ h => h) (Or.inl ⟨by rfl, ?_⟩) (of7 HB.out.bw) ?_
            rotate_left
            · intro w' hS; (try dsimp only at hS); go_simp; (try with_reducible rfl)
            (try simp only [Act.put, List.setIfInBounds_toArray, List.set_cons_zero, List.set_cons_succ])
            refine anyG_ready (rs := [6, 10]) (by kernel_rfl) (by simp) (readyG.cons (by rfl) (fun K hK => ?_) (readyG.cons (by rfl) (fun K hK => ?_) (readyG.nil)))
            · go_simp
              refine hK.out _ _ (fun _ => of7 (HB.out.alloc _).bw) ?_
              clear hK K
              (try simp only [Act.put, List.setIfInBounds_toArray, List.set_cons_zero, List.set_cons_succ])
              have hg := HB.out.lay [.int .i64 0] 3
              generalize Wc.heap.size = g2 at hg ⊢
              refine bl1 (HB.out.alloc _) (hg) ?_
              clear HB
              intro Wc HB HG2
              clear hg
              refine anyG_ready (rs := [7, 10]) (by kernel_rfl) (by simp) (readyG.cons (by rfl) (fun K hK => ?_) (readyG.cons (by rfl) (fun K hK => ?_) (readyG.nil)))
              · refine HB.out.app_l (by rfl) (.tmp 40) (.tmp 41) (by rfl) (by rfl) g2 (by rfl) 0 HG2.out (show (ini n m).life.length ≤ 10 by simp [ini]; omega) ?_
                intro v Wd tg hB hL
                obtain ⟨V2, e2, hv⟩ := Kd.R_slice hB.nw.l
                dsimp only at hv
                rw [List.length_append, List.length_singleton] at hv
                subst hv
                refine hK.out _ _ (fun _ => of7 hB.bw) ?_
                clear hK K
                (try simp only [Act.put, List.setIfInBounds_toArray, List.set_cons_zero, List.set_cons_succ])
                refine bl0 (hB) ?_
                clear hB hL HB HG2
                intro Wc HB
                refine anyG_ready (rs := [10]) (by kernel_rfl) (by simp) (readyG.cons (by rfl) (fun K hK => ?_) (readyG.nil))
                go_simp
                refine hK.out _ _ (fun _ => of7 (HB.out.alloc _).bw) ?_
                clear hK K
                (try simp only [Act.put, List.setIfInBounds_toArray, List.set_cons_zero, List.set_cons_succ])
                have hg := HB.out.lay [.bool true] 4
                generalize Wc.heap.size = g3 at hg ⊢
                refine bl1 (HB.out.alloc _) (hg) ?_
                clear HB
                intro Wc HB HG3
                clear hg
                refine anyG_ready (rs := [11]) (by kernel_rfl) (by simp) (readyG.cons (by rfl) (fun K hK => ?_) (readyG.nil))
                refine HB.out.app_u (by rfl) (.tmp 44) (.tmp 45) (by rfl) (by rfl) g3 (by rfl) true HG3.out (show (ini n m).up.length ≤ 10 by simp [ini]; omega) ?_
                intro v Wd tg hB hL
                obtain ⟨V3, e3, hv⟩ := Kd.R_slice hB.nw.u
                dsimp only at hv
                rw [List.length_append, List.length_singleton] at hv
                subst hv
                refine hK.out _ _ (fun _ => of7 hB.bw) ?_
                clear hK K
                (try simp only [Act.put, List.setIfInBounds_toArray, List.set_cons_zero, List.set_cons_succ])
                refine bl0 (hB) ?_
                clear hB hL HB HG3
                intro Wc HB
                refine anyG_ready (rs := [13]) (by kernel_rfl) (by simp) (readyG.cons (by rfl) (fun K hK => ?_) (readyG.nil))
                have q3 := (blk_cell HB.out.bw 3).trans rfl
                have q3f := blk_frozen HB.out.bw 3
                go_simp
                refine hK.out _ _ (fun h => absurd (show true = false from h) (by decide)) ?_
                clear hK K q3 q3f
                (try simp only [Act.put, List.setIfInBounds_toArray, List.set_cons_zero, List.set_cons_succ])
                refine bl0 (HB.out.put_c _) ?_
                clear HB
                intro Wc HB
                refine anyG_ready (rs := [14]) (by kernel_rfl) (by simp) (readyG.cons (by rfl) (fun K hK => ?_) (readyG.nil))
                go_simp
                refine hK.out _ _ (fun h => absurd (show true = false from h) (by decide)) ?_
                clear hK K
                (try simp only [Act.put, List.setIfInBounds_toArray, List.set_cons_zero, List.set_cons_succ])
                refine anyG_ready (rs := [15]) (by kernel_rfl) (by simp) (readyG.cons (by rfl) (fun K hK => ?_) (readyG.nil))
                have q3 := (blk_cell HB.out.bw 4).trans rfl
                have q3f := blk_frozen HB.out.bw 4
                go_simp
                refine hK.out _ _ (fun h => absurd (show true = false from h) (by decide)) ?_
                clear hK K q3 q3f
                (try simp only [Act.put, List.setIfInBounds_toArray, List.set_cons_zero, List.set_cons_succ])
                refine bl0 (HB.out.put_l _) ?_
                clear HB
                intro Wc HB
                refine anyG_ready (rs := [16]) (by kernel_rfl) (by simp) (readyG.cons (by rfl) (fun K hK => ?_) (readyG.nil))
                go_simp
                refine hK.out _ _ (fun h => absurd (show true = false from h) (by decide)) ?_
                clear hK K
                (try simp only [Act.put, List.setIfInBounds_toArray, List.set_cons_zero, List.set_cons_succ])
                refine anyG_ready (rs := [17]) (by kernel_rfl) (by simp) (readyG.cons (by rfl) (fun K hK => ?_) (readyG.nil))
                have q3 := (blk_cell HB.out.bw 5).trans rfl
                have q3f := blk_frozen HB.out.bw 5
                go_simp
                refine hK.out _ _ (fun h => absurd (show true = false from h) (by decide)) ?_
                clear hK K q3 q3f
                (try simp only [Act.put, List.setIfInBounds_toArray, List.set_cons_zero, List.set_cons_succ])
                refine bl0 (HB.out.put_u _) ?_
                clear HB
                intro Wc HB
                refine anyG_done (by kernel_rfl) ?_
                go_wp2
                go_meet
                case rel => exact ⟨rfl, _, _, HB.out⟩
              · go_simp
                refine hK.out _ _ (fun _ => of7 (HB.out.alloc _).bw) ?_
                clear hK K
                (try simp only [Act.put, List.setIfInBounds_toArray, List.set_cons_zero, List.set_cons_succ])
                have hg := HB.out.lay [.bool true] 4
                generalize Wc.heap.size = g3 at hg ⊢
                refine bl2 (HB.out.alloc _) (HG2.out.alloc _) (hg) ?_
                clear HB HG2
                intro Wc HB HG2 HG3
                clear hg
                refine anyG_ready (rs := [7]) (by kernel_rfl) (by simp) (readyG.cons (by rfl) (fun K hK => ?_) (readyG.nil))
                refine HB.out.app_l (by rfl) (.tmp 40) (.tmp 41) (by rfl) (by rfl) g2 (by rfl) 0 HG2.out (show (ini n m).life.length ≤ 10 by simp [ini]; omega) ?_
                intro v Wd tg hB hL
                obtain ⟨V2, e2, hv⟩ := Kd.R_slice hB.nw.l
                dsimp only at hv
                rw [List.length_append, List.length_singleton] at hv
                subst hv
                refine hK.out _ _ (fun _ => of7 hB.bw) ?_
                clear hK K
                (try simp only [Act.put, List.setIfInBounds_toArray, List.set_cons_zero, List.set_cons_succ])
                refine bl1 (hB) (hL _ _ _ HG3.out) ?_
                clear hB hL HB HG2 HG3
                intro Wc HB HG3
                refine anyG_ready (rs := [11]) (by kernel_rfl) (by simp) (readyG.cons (by rfl) (fun K hK => ?_) (readyG.nil))
                refine HB.out.app_u (by rfl) (.tmp 44) (.tmp 45) (by rfl) (by rfl) g3 (by rfl) true HG3.out (show (ini n m).up.length ≤ 10 by simp [ini]; omega) ?_
                intro v Wd tg hB hL
                obtain ⟨V3, e3, hv⟩ := Kd.R_slice hB.nw.u
                dsimp only at hv
                rw [List.length_append, List.length_singleton] at hv
                subst hv
                refine hK.out _ _ (fun _ => of7 hB.bw) ?_
                clear hK K
                (try simp only [Act.put, List.setIfInBounds_toArray, List.set_cons_zero, List.set_cons_succ])
                refine bl0 (hB) ?_
                clear hB hL HB HG3
                intro Wc HB
                refine anyG_ready (rs := [13]) (by kernel_rfl) (by simp) (readyG.cons (by rfl) (fun K hK => ?_) (readyG.nil))
                have q3 := (blk_cell HB.out.bw 3).trans rfl
                have q3f := blk_frozen HB.out.bw 3
                go_simp
                refine hK.out _ _ (fun h => absurd (show true = false from h) (by decide)) ?_
                clear hK K q3 q3f
                (try simp only [Act.put, List.setIfInBounds_toArray, List.set_cons_zero, List.set_cons_succ])
                refine bl0 (HB.out.put_c _) ?_
                clear HB
                intro Wc HB
                refine anyG_ready (rs := [14]) (by kernel_rfl) (by simp) (readyG.cons (by rfl) (fun K hK => ?_) (readyG.nil))
                go_simp
                refine hK.out _ _ (fun h => absurd (show true = false from h) (by decide)) ?_
                clear hK K
                (try simp only [Act.put, List.setIfInBounds_toArray, List.set_cons_zero, List.set_cons_succ])
                refine anyG_ready (rs := [15]) (by kernel_rfl) (by simp) (readyG.cons (by rfl) (fun K hK => ?_) (readyG.nil))
                have q3 := (blk_cell HB.out.bw 4).trans rfl
                have q3f := blk_frozen HB.out.bw 4
                go_simp
                refine hK.out _ _ (fun h => absurd (show true = false from h) (by decide)) ?_
                clear hK K q3 q3f
                (try simp only [Act.put, List.setIfInBounds_toArray, List.set_cons_zero, List.set_cons_succ])
                refine bl0 (HB.out.put_l _) ?_
                clear HB
                intro Wc HB
                refine anyG_ready (rs := [16]) (by kernel_rfl) (by simp) (readyG.cons (by rfl) (fun K hK => ?_) (readyG.nil))
                go_simp
                refine hK.out _ _ (fun h => absurd (show true = false from h) (by decide)) ?_
                clear hK K
                (try simp only [Act.put, List.setIfInBounds_toArray, List.set_cons_zero, List.set_cons_succ])
                refine anyG_ready (rs := [17]) (by kernel_rfl) (by simp) (readyG.cons (by rfl) (fun K hK => ?_) (readyG.nil))
                have q3 := (blk_cell HB.out.bw 5).trans rfl
                have q3f := blk_frozen HB.out.bw 5
                go_simp
                refine hK.out _ _ (fun h => absurd (show true = false from h) (by decide)) ?_
                clear hK K q3 q3f
                (try simp only [Act.put, List.setIfInBounds_toArray, List.set_cons_zero, List.set_cons_succ])
                refine bl0 (HB.out.put_u _) ?_
                clear HB
                intro Wc HB
                refine anyG_done (by kernel_rfl) ?_
                go_wp2
                go_meet
                case rel => exact ⟨rfl, _, _, HB.out⟩
            · go_simp
              refine hK.out _ _ (fun _ => of7 (HB.out.alloc _).bw) ?_
              clear hK K
              (try simp only [Act.put, List.setIfInBounds_toArray, List.set_cons_zero, List.set_cons_succ])
              have hg := HB.out.lay [.bool true] 4
              generalize Wc.heap.size = g3 at hg ⊢
              refine bl1 (HB.out.alloc _) (hg) ?_
              clear HB
              intro Wc HB HG3
              clear hg
              refine anyG_ready (rs := [6]) (by kernel_rfl) (by simp) (readyG.cons (by rfl) (fun K hK => ?_) (readyG.nil))
              go_simp
              refine hK.out _ _ (fun _ => of7 (HB.out.alloc _).bw) ?_
              clear hK K
              (try simp only [Act.put, List.setIfInBounds_toArray, List.set_cons_zero, List.set_cons_succ])
              have hg := HB.out.lay [.int .i64 0] 3
              generalize Wc.heap.size = g2 at hg ⊢
              refine bl2 (HB.out.alloc _) (HG3.out.alloc _) (hg) ?_
              clear HB HG3
              intro Wc HB HG3 HG2
              clear hg
              refine anyG_ready (rs := [7]) (by kernel_rfl) (by simp) (readyG.cons (by rfl) (fun K hK => ?_) (readyG.nil))
              refine HB.out.app_l (by rfl) (.tmp 40) (.tmp 41) (by rfl) (by rfl) g2 (by rfl) 0 HG2.out (show (ini n m).life.length ≤ 10 by simp [ini]; omega) ?_
              intro v Wd tg hB hL
              obtain ⟨V2, e2, hv⟩ := Kd.R_slice hB.nw.l
              dsimp only at hv
              rw [List.length_append, List.length_singleton] at hv
              subst hv
              refine hK.out _ _ (fun _ => of7 hB.bw) ?_
              clear hK K
              (try simp only [Act.put, List.setIfInBounds_toArray, List.set_cons_zero, List.set_cons_succ])
              refine bl1 (hB) (hL _ _ _ HG3.out) ?_
              clear hB hL HB HG3 HG2
              intro Wc HB HG3
              refine anyG_ready (rs := [11]) (by kernel_rfl) (by simp) (readyG.cons (by rfl) (fun K hK => ?_) (readyG.nil))
              refine HB.out.app_u (by rfl) (.tmp 44) (.tmp 45) (by rfl) (by rfl) g3 (by rfl) true HG3.out (show (ini n m).up.length ≤ 10 by simp [ini]; omega) ?_
              intro v Wd tg hB hL
              obtain ⟨V3, e3, hv⟩ := Kd.R_slice hB.nw.u
              dsimp only at hv
              rw [List.length_append, List.length_singleton] at hv
              subst hv
              refine hK.out _ _ (fun _ => of7 hB.bw) ?_
              clear hK K
              (try simp only [Act.put, List.setIfInBounds_toArray, List.set_cons_zero, List.set_cons_succ])
              refine bl0 (hB) ?_
              clear hB hL HB HG3
              intro Wc HB
              refine anyG_ready (rs := [13]) (by kernel_rfl) (by simp) (readyG.cons (by rfl) (fun K hK => ?_) (readyG.nil))
              have q3 := (blk_cell HB.out.bw 3).trans rfl
              have q3f := blk_frozen HB.out.bw 3
              go_simp
              refine hK.out _ _ (fun h => absurd (show true = false from h) (by decide)) ?_
              clear hK K q3 q3f
              (try simp only [Act.put, List.setIfInBounds_toArray, List.set_cons_zero, List.set_cons_succ])
              refine bl0 (HB.out.put_c _) ?_
              clear HB
              intro Wc HB
              refine anyG_ready (rs := [14]) (by kernel_rfl) (by simp) (readyG.cons (by rfl) (fun K hK => ?_) (readyG.nil))
              go_simp
              refine hK.out _ _ (fun h => absurd (show true = false from h) (by decide)) ?_
              clear hK K
              (try simp only [Act.put, List.setIfInBounds_toArray, List.set_cons_zero, List.set_cons_succ])
              refine anyG_ready (rs := [15]) (by kernel_rfl) (by simp) (readyG.cons (by rfl) (fun K hK => ?_) (readyG.nil))
              have q3 := (blk_cell HB.out.bw 4).trans rfl
              have q3f := blk_frozen HB.out.bw 4
              go_simp
              refine hK.out _ _ (fun h => absurd (show true = false from h) (by decide)) ?_
              clear hK K q3 q3f
              (try simp only [Act.put, List.setIfInBounds_toArray, List.set_cons_zero, List.set_cons_succ])
              refine bl0 (HB.out.put_l _) ?_
              clear HB
              intro Wc HB
              refine anyG_ready (rs := [16]) (by kernel_rfl) (by simp) (readyG.cons (by rfl) (fun K hK => ?_) (readyG.nil))
              go_simp
              refine hK.out _ _ (fun h => absurd (show true = false from h) (by decide)) ?_
              clear hK K
              (try simp only [Act.put, List.setIfInBounds_toArray, List.set_cons_zero, List.set_cons_succ])
              refine anyG_ready (rs := [17]) (by kernel_rfl) (by simp) (readyG.cons (by rfl) (fun K hK => ?_) (readyG.nil))
              have q3 := (blk_cell HB.out.bw 5).trans rfl
              have q3f := blk_frozen HB.out.bw 5
              go_simp
              refine hK.out _ _ (fun h => absurd (show true = false from h) (by decide)) ?_
              clear hK K q3 q3f
              (try simp only [Act.put, List.setIfInBounds_toArray, List.set_cons_zero, List.set_cons_succ])
              refine bl0 (HB.out.put_u _) ?_
              clear HB
              intro Wc HB
              refine anyG_done (by kernel_rfl) ?_
              go_wp2
              go_meet
              case rel => exact ⟨rfl, _, _, HB.out⟩
          · go_simp
            refine hK.out _ _ (fun _ => of7 (HB.out.alloc _).bw) ?_
            clear hK K
            (try simp only [Act.put, List.setIfInBounds_toArray, List.set_cons_zero, List.set_cons_succ])
            have hg := HB.out.lay [.int .i64 0] 3
            generalize Wc.heap.size = g2 at hg ⊢
            refine bl2 (HB.out.alloc _) (HG1.out.alloc _) (hg) ?_
            clear HB HG1
            intro Wc HB HG1 HG2
            clear hg
            refine anyG_ready (rs := [3, 10]) (by kernel_rfl) (by simp) (readyG.cons (by rfl) (fun K hK => ?_) (readyG.cons (by rfl) (fun K hK => ?_) (readyG.nil)))
            · refine HB.out.app_c (by rfl) (.tmp 36) (.tmp 37) (by rfl) (by rfl) g1 (by rfl) 0 HG1.out (show (ini n m).clock.length ≤ 10 by simp [ini]; omega) ?_
              intro v Wd tg hB hL
              obtain ⟨V1, e1, hv⟩ := Kd.R_slice hB.nw.c
              dsimp only at hv
              rw [List.length_append, List.length_singleton] at hv
              subst hv
              refine hK.out _ _ (fun _ => of7 hB.bw) ?_
              clear hK K
              (try simp only [Act.put, List.setIfInBounds_toArray, List.set_cons_zero, List.set_cons_succ])
              refine bl1 (hB) (hL _ _ _ HG2.out) ?_
              clear hB hL HB HG1 HG2
              intro Wc HB HG2
              refine anyG_take (i := 12) [13] (v := ?_) rfl (by kernel_rfl) (fun _ _ _ h => h) (Or.inl ⟨by rfl, ?_⟩) (of7 HB.out.bw) ?_
              rotate_left
              · intro w' hS; (try dsimp only at hS); go_simp; (try with_reducible rfl)
              (try simp only [Act.put, List.setIfInBounds_toArray, List.set_cons_zero, List.set_cons_succ])
              refine anyG_ready (rs := [7, 10]) (by kernel_rfl) (by simp) (readyG.cons (by rfl) (fun K hK => ?_) (readyG.cons (by rfl) (fun K hK => ?_) (readyG.nil)))
              · refine HB.out.app_l (by rfl) (.tmp 40) (.tmp 41) (by rfl) (by rfl) g2 (by rfl) 0 HG2.out (show (ini n m).life.length ≤ 10 by simp [ini]; omega) ?_
                intro v Wd tg hB hL
                obtain ⟨V2, e2, hv⟩ := Kd.R_slice hB.nw.l
                dsimp only at hv
                rw [List.length_append, List.length_singleton] at hv
                subst hv
                refine hK.out _ _ (fun _ => of7 hB.bw) ?_
                clear hK K
                (try simp only [Act.put, List.setIfInBounds_toArray, List.set_cons_zero, List.set_cons_succ])
                refine bl0 (hB) ?_
                clear hB hL HB HG2
                intro Wc HB
                refine anyG_ready (rs := [10]) (by kernel_rfl) (by simp) (readyG.cons (by rfl) (fun K hK => ?_) (readyG.nil))
                go_simp
                refine hK.out _ _ (fun _ => of7 (HB.out.alloc _).bw) ?_
                clear hK K
                (try simp only [Act.put, List.setIfInBounds_toArray, List.set_cons_zero, List.set_cons_succ])
                have hg := HB.out.lay [.bool true] 4
                generalize Wc.heap.size = g3 at hg ⊢
                refine bl1 (HB.out.alloc _) (hg) ?_
                clear HB
                intro Wc HB HG3
                clear hg
                refine anyG_ready (rs := [11]) (by kernel_rfl) (by simp) (readyG.cons (by rfl) (fun K hK => ?_) (readyG.nil))
                refine HB.out.app_u (by rfl) (.tmp 44) (.tmp 45) (by rfl) (by rfl) g3 (by rfl) true HG3.out (show (ini n m).up.length ≤ 10 by simp [ini]; omega) ?_
                intro v Wd tg hB hL
                obtain ⟨V3, e3, hv⟩ := Kd.R_slice hB.nw.u
                dsimp only at hv
                rw [List.length_append, List.length_singleton] at hv
                subst hv
                refine hK.out _ _ (fun _ => of7 hB.bw) ?_
                clear hK K
                (try simp only [Act.put, List.setIfInBounds_toArray, List.set_cons_zero, List.set_cons_succ])
                refine bl0 (hB) ?_
                clear hB hL HB HG3
                intro Wc HB
                refine anyG_ready (rs := [13]) (by kernel_rfl) (by simp) (readyG.cons (by rfl) (fun K hK => ?_) (readyG.nil))
                have q3 := (blk_cell HB.out.bw 3).trans rfl
                have q3f := blk_frozen HB.out.bw 3
                go_simp
                refine hK.out _ _ (fun h => absurd (show true = false from h) (by decide)) ?_
                clear hK K q3 q3f
                (try simp only [Act.put, List.setIfInBounds_toArray, List.set_cons_zero, List.set_cons_succ])
                refine bl0 (HB.out.put_c _) ?_
                clear HB
                intro Wc HB
                refine anyG_ready (rs := [14]) (by kernel_rfl) (by simp) (readyG.cons (by rfl) (fun K hK => ?_) (readyG.nil))
                go_simp
                refine hK.out _ _ (fun h => absurd (show true = false from h) (by decide)) ?_
                clear hK K
                (try simp only [Act.put, List.setIfInBounds_toArray, List.set_cons_zero, List.set_cons_succ])
                refine anyG_ready (rs := [15]) (by kernel_rfl) (by simp) (readyG.cons (by rfl) (fun K hK => ?_) (readyG.nil))
                have q3 := (blk_cell HB.out.bw 4).trans rfl
                have q3f := blk_frozen HB.out.bw 4
                go_simp
                refine hK.out _ _ (fun h => absurd (show true = false from h) (by decide)) ?_
                clear hK K q3 q3f
                (try simp only [Act.put, List.setIfInBounds_toArray, List.set_cons_zero, List.set_cons_succ])
                refine bl0 (HB.out.put_l _) ?_
                clear HB
                intro Wc HB
                refine anyG_ready (rs := [16]) (by kernel_rfl) (by simp) (readyG.cons (by rfl) (fun K hK => ?_) (readyG.nil))
                go_simp
                refine hK.out _ _ (fun h => absurd (show true = false from h) (by decide)) ?_
                clear hK K
                (try simp only [Act.put, List.setIfInBounds_toArray, List.set_cons_zero, List.set_cons_succ])
                refine anyG_ready (rs := [17]) (by kernel_rfl) (by simp) (readyG.cons (by rfl) (fun K hK => ?_) (readyG.nil))
                have q3 := (blk_cell HB.out.bw 5).trans rfl
                have q3f := blk_frozen HB.out.bw 5
                go_simp
                refine hK.out _ _ (fun h => absurd (show true = false from h) (by decide)) ?_
                clear hK K q3 q3f
                (try simp only [Act.put, List.setIfInBounds_toArray, List.set_cons_zero, List.set_cons_succ])
                refine bl0 (HB.out.put_u _) ?_
                clear HB
                intro Wc HB
                refine anyG_done (by kernel_rfl) ?_
                go_wp2
                go_meet
                case rel => exact ⟨rfl, _, _, HB.out⟩
              · go_simp
                refine hK.out _ _ (fun _ => of7 (HB.out.alloc _).bw) ?_
                clear hK K
                (try simp only [Act.put, List.setIfInBounds_toArray, List.set_cons_zero, List.set_cons_succ])
                have hg := HB.out.lay [.bool true] 4
                generalize Wc.heap.size = g3 at hg ⊢
                refine bl2 (HB.out.alloc _) (HG2.out.alloc _) (hg) ?_
                clear HB HG2
                intro Wc HB HG2 HG3
                clear hg
                refine anyG_ready (rs := [7]) (by kernel_rfl) (by simp) (readyG.cons (by rfl) (fun K hK => ?_) (readyG.nil))
                refine HB.out.app_l (by rfl) (.tmp 40) (.tmp 41) (by rfl) (by rfl) g2 (by rfl) 0 HG2.out (show (ini n m).life.length ≤ 10 by simp [ini]; omega) ?_
                intro v Wd tg hB hL
                obtain ⟨V2, e2, hv⟩ := Kd.R_slice hB.nw.l
                dsimp only at hv
                rw [List.length_append, List.length_singleton] at hv
                subst hv
                refine hK.out _ _ (fun _ => of7 hB.bw) ?_
                clear hK K
                (try simp only [Act.put, List.setIfInBounds_toArray, List.set_cons_zero, List.set_cons_succ])
                refine bl1 (hB) (hL _ _ _ HG3.out) ?_
                clear hB hL HB HG2 HG3
                intro Wc HB HG3
                refine anyG_ready (rs := [11]) (by kernel_rfl) (by simp) (readyG.cons (by rfl) (fun K hK => ?_) (readyG.nil))
                refine HB.out.app_u (by rfl) (.tmp 44) (.tmp 45) (by rfl) (by rfl) g3 (by rfl) true HG3.out (show (ini n m).up.length ≤ 10 by simp [ini]; omega) ?_
                intro v Wd tg hB hL
                obtain ⟨V3, e3, hv⟩ := Kd.R_slice hB.nw.u
                dsimp only at hv
                rw [List.length_append, List.length_singleton] at hv
                subst hv
                refine hK.out _ _ (fun _ => of7 hB.bw) ?_
                clear hK K
                (try simp only [Act.put, List.setIfInBounds_toArray, List.set_cons_zero, List.set_cons_succ])
                refine bl0 (hB) ?_
                clear hB hL HB HG3
                intro Wc HB
                refine anyG_ready (rs := [13]) (by kernel_rfl) (by simp) (readyG.cons (by rfl) (fun K hK => ?_) (readyG.nil))
                have q3 := (blk_cell HB.out.bw 3).trans rfl
                have q3f := blk_frozen HB.out.bw 3
                go_simp
                refine hK.out _ _ (fun h => absurd (show true = false from h) (by decide)) ?_
                clear hK K q3 q3f
                (try simp only [Act.put, List.setIfInBounds_toArray, List.set_cons_zero, List.set_cons_succ])
                refine bl0 (HB.out.put_c _) ?_
                clear HB
                intro Wc HB
                refine anyG_ready (rs := [14]) (by kernel_rfl) (by simp) (readyG.cons (by rfl) (fun K hK => ?_) (readyG.nil))
                go_simp
                refine hK.out _ _ (fun h => absurd (show true = false from h) (by decide)) ?_
                clear hK K
                (try simp only [Act.put, List.setIfInBounds_toArray, List.set_cons_zero, List.set_cons_succ])
                refine anyG_ready (rs := [15]) (by kernel_rfl) (by simp) (readyG.cons (by rfl) (fun K hK => ?_) (readyG.nil))
                have q3 := (blk_cell HB.out.bw 4).trans rfl
                have q3f := blk_frozen HB.out.bw 4
                go_simp
                refine hK.out _ _ (fun h => absurd (show true = false from h) (by decide)) ?_
                clear hK K q3 q3f
                (try simp only [Act.put, List.setIfInBounds_toArray, List.set_cons_zero, List.set_cons_succ])
                refine bl0 (HB.out.put_l _) ?_
                clear HB
                intro Wc HB
                refine anyG_ready (rs := [16]) (by kernel_rfl) (by simp) (readyG.cons (by rfl) (fun K hK => ?_) (readyG.nil))
                go_simp
                refine hK.out _ _ (fun h => absurd (show true = false from h) (by decide)) ?_
                clear hK K
                (try simp only [Act.put, List.setIfInBounds_toArray, List.set_cons_zero, List.set_cons_succ])
                refine anyG_ready (rs := [17]) (by kernel_rfl) (by simp) (readyG.cons (by rfl) (fun K hK => ?_) (readyG.nil))
                have q3 := (blk_cell HB.out.bw 5).trans rfl
                have q3f := blk_frozen HB.out.bw 5
                go_simp
                refine hK.out _ _ (fun h => absurd (show true = false from h) (by decide)) ?_
                clear hK K q3 q3f
                (try simp only [Act.put, List.setIfInBounds_toArray, List.set_cons_zero, List.set_cons_succ])
                refine bl0 (HB.out.put_u _) ?_
                clear HB
                intro Wc HB
                refine anyG_done (by kernel_rfl) ?_
                go_wp2
                go_meet
                case rel => exact ⟨rfl, _, _, HB.out⟩
            · go_simp
              refine hK.out _ _ (fun _ => of7 (HB.out.alloc _).bw) ?_
              clear hK K
              (try simp only [Act.put, List.setIfInBounds_toArray, List.set_cons_zero, List.set_cons_succ])
              have hg := HB.out.lay [.bool true] 4
              generalize Wc.heap.size = g3 at hg ⊢
              refine bl3 (HB.out.alloc _) (HG1.out.alloc _) (HG2.out.alloc _) (hg) ?_
              clear HB HG1 HG2
              intro Wc HB HG1 HG2 HG3
              clear hg
              refine anyG_ready (rs := [3]) (by kernel_rfl) (by simp) (readyG.cons (by rfl) (fun K hK => ?_) (readyG.nil))
              refine HB.out.app_c (by rfl) (.tmp 36) (.tmp 37) (by rfl) (by rfl) g1 (by rfl) 0 HG1.out (show (ini n m).clock.length ≤ 10 by simp [ini]; omega) ?_
              intro v Wd tg hB hL
              obtain ⟨V1, e1, hv⟩ := Kd.R_slice hB.nw.c
              dsimp only at hv
              rw [List.length_append, List.length_singleton] at hv
              subst hv
              refine hK.out _ _ (fun _ => of7 hB.bw) ?_
              clear hK K
              (try simp only [Act.put, List.setIfInBounds_toArray, List.set_cons_zero, List.set_cons_succ])
              refine bl2 (hB) (hL _ _ _ HG2.out) (hL _ _ _ HG3.out) ?_
              clear hB hL HB HG1 HG2 HG3
              intro Wc HB HG2 HG3
              refine anyG_take (i := 12) [13] (v := ?_) rfl (by kernel_rfl) (fun _ _ _ h => h) (Or.inl ⟨by rfl, ?_⟩) (of7 HB.out.bw) ?_
              rotate_left
              · intro w' hS; (try dsimp only at hS); go_simp; (try with_reducible rfl)
              (try simp only [Act.put, List.setIfInBounds_toArray, List.set_cons_zero, List.set_cons_succ])
              refine anyG_ready (rs := [7]) (by kernel_rfl) (by simp) (readyG.cons (by rfl) (fun K hK => ?_) (readyG.nil))
              refine HB.out.app_l (by rfl) (.tmp 40) (.tmp 41) (by rfl) (by rfl) g2 (by rfl) 0 HG2.out (show (ini n m).life.length ≤ 10 by simp [ini]; omega) ?_
              intro v Wd tg hB hL
              obtain ⟨V2, e2, hv⟩ := Kd.R_slice hB.nw.l
              dsimp only at hv
              rw [List.length_append, List.length_singleton] at hv
              subst hv
              refine hK.out _ _ (fun _ => of7 hB.bw) ?_
              clear hK K
              (try simp only [Act.put, List.setIfInBounds_toArray, List.set_cons_zero, List.set_cons_succ])
              refine bl1 (hB) (hL _ _ _ HG3.out) ?_
              clear hB hL HB HG2 HG3
              intro Wc HB HG3
              refine anyG_ready (rs := [11]) (by kernel_rfl) (by simp) (readyG.cons (by rfl) (fun K hK => ?_) (readyG.nil))
              refine HB.out.app_u (by rfl) (.tmp 44) (.tmp 45) (by rfl) (by rfl) g3 (by rfl) true HG3.out (show (ini n m).up.length ≤ 10 by simp [ini]; omega) ?_
              intro v Wd tg hB hL
              obtain ⟨V3, e3, hv⟩ := Kd.R_slice hB.nw.u
              dsimp only at hv
              rw [List.length_append, List.length_singleton] at hv
              subst hv
              refine hK.out _ _ (fun _ => of7 hB.bw) ?_
              clear hK K
              (try simp only [Act.put, List.setIfInBounds_toArray, List.set_cons_zero, List.set_cons_succ])
              refine bl0 (hB) ?_
              clear hB hL HB HG3
              intro Wc HB
              refine anyG_ready (rs := [13]) (by kernel_rfl) (by simp) (readyG.cons (by rfl) (fun K hK => ?_) (readyG.nil))
              have q3 := (blk_cell HB.out.bw 3).trans rfl
              have q3f := blk_frozen HB.out.bw 3
              go_simp
              refine hK.out _ _ (fun h => absurd (show true = false from h) (by decide)) ?_
              clear hK K q3 q3f
              (try simp only [Act.put, List.setIfInBounds_toArray, List.set_cons_zero, List.set_cons_succ])
              refine bl0 (HB.out.put_c _) ?_
              clear HB
              intro Wc HB
              refine anyG_ready (rs := [14]) (by kernel_rfl) (by simp) (readyG.cons (by rfl) (fun K hK => ?_) (readyG.nil))
              go_simp
              refine hK.out _ _ (fun h => absurd (show true = false from h) (by decide)) ?_
              clear hK K
              (try simp only [Act.put, List.setIfInBounds_toArray, List.set_cons_zero, List.set_cons_succ])
              refine anyG_ready (rs := [15]) (by kernel_rfl) (by simp) (readyG.cons (by rfl) (fun K hK => ?_) (readyG.nil))
              have q3 := (blk_cell HB.out.bw 4).trans rfl
              have q3f := blk_frozen HB.out.bw 4
              go_simp
              refine hK.out _ _ (fun h => absurd (show true = false from h) (by decide)) ?_
              clear hK K q3 q3f
              (try simp only [Act.put, List.setIfInBounds_toArray, List.set_cons_zero, List.set_cons_succ])
              refine bl0 (HB.out.put_l _) ?_
              clear HB
              intro Wc HB
              refine anyG_ready (rs := [16]) (by kernel_rfl) (by simp) (readyG.cons (by rfl) (fun K hK => ?_) (readyG.nil))
              go_simp
              refine hK.out _ _ (fun h => absurd (show true = false from h) (by decide)) ?_
              clear hK K
              (try simp only [Act.put, List.setIfInBounds_toArray, List.set_cons_zero, List.set_cons_succ])
              refine anyG_ready (rs := [17]) (by kernel_rfl) (by simp) (readyG.cons (by rfl) (fun K hK => ?_) (readyG.nil))
              have q3 := (blk_cell HB.out.bw 5).trans rfl
              have q3f := blk_frozen HB.out.bw 5
              go_simp
              refine hK.out _ _ (fun h => absurd (show true = false from h) (by decide)) ?_
              clear hK K q3 q3f
              (try simp only [Act.put, List.setIfInBounds_toArray, List.set_cons_zero, List.set_cons_succ])
              refine bl0 (HB.out.put_u _) ?_
              clear HB
              intro Wc HB
              refine anyG_done (by kernel_rfl) ?_
              go_wp2
              go_meet
              case rel => exact ⟨rfl, _, _, HB.out⟩
          · go_simp
            refine hK.out _ _ (fun _ => of7 (HB.out.alloc _).bw) ?_
            clear hK K
            (try simp only [Act.put, List.setIfInBounds_toArray, List.set_cons_zero, List.set_cons_succ])
            have hg := HB.out.lay [.bool true] 4
            generalize Wc.heap.size = g3 at hg ⊢
            refine bl2 (HB.out.alloc _) (HG1.out.alloc _) (hg) ?_
            clear HB HG1
            intro Wc HB HG1 HG3
            clear hg
            refine anyG_ready (rs := [3, 6]) (by kernel_rfl) (by simp) (readyG.cons (by rfl) (fun K hK => ?_) (readyG.cons (by rfl) (fun K hK => ?_) (readyG.nil)))
            · refine HB.out.app_c (by rfl) (.tmp 36) (.tmp 37) (by rfl) (by rfl) g1 (by rfl) 0 HG1.out (show (ini n m).clock.length ≤ 10 by simp [ini]; omega) ?_
              intro v Wd tg hB hL
              obtain ⟨V1, e1, hv⟩ := Kd.R_slice hB.nw.c
              dsimp only at hv
              rw [List.length_append, List.length_singleton] at hv
              subst hv
              refine hK.out _ _ (fun _ => of7 hB.bw) ?_
              clear hK K
              (try simp only [Act.put, List.setIfInBounds_toArray, List.set_cons_zero, List.set_cons_succ])
              refine bl1 (hB) (hL _ _ _ HG3.out) ?_
              clear hB hL HB HG1 HG3
              intro Wc HB HG3
              refine anyG_take (i := 12) [13] (v := ?_) rfl (by kernel_rfl) (fun _ _ _ h => h) (Or.inl ⟨by rfl, ?_⟩) (of7 HB.out.bw) ?_
              rotate_left
              · intro w' hS; (try dsimp only at hS); go_simp; (try with_reducible rfl)
              (try simp only [Act.put, List.setIfInBounds_toArray, List.set_cons_zero, List.set_cons_succ])
              refine anyG_ready (rs := [6]) (by kernel_rfl) (by simp) (readyG.cons (by rfl) (fun K hK => ?_) (readyG.nil))
              go_simp
              refine hK.out _ _ (fun _ => of7 (HB.out.alloc _).bw) ?_
              clear hK K
              (try simp only [Act.put, List.setIfInBounds_toArray, List.set_cons_zero, List.set_cons_succ])
              have hg := HB.out.lay [.int .i64 0] 3
              generalize Wc.heap.size = g2 at hg ⊢
              refine bl2 (HB.out.alloc _) (HG3.out.alloc _) (hg) ?_
              clear HB HG3
              intro Wc HB HG3 HG2
              clear hg
              refine anyG_ready (rs := [7]) (by kernel_rfl) (by simp) (readyG.cons (by rfl) (fun K hK => ?_) (readyG.nil))
              refine HB.out.app_l (by rfl) (.tmp 40) (.tmp 41) (by rfl) (by rfl) g2 (by rfl) 0 HG2.out (show (ini n m).life.length ≤ 10 by simp [ini]; omega) ?_
              intro v Wd tg hB hL
              obtain ⟨V2, e2, hv⟩ := Kd.R_slice hB.nw.l
              dsimp only at hv
              rw [List.length_append, List.length_singleton] at hv
              subst hv
              refine hK.out _ _ (fun _ => of7 hB.bw) ?_
              clear hK K
              (try simp only [Act.put, List.setIfInBounds_toArray, List.set_cons_zero, List.set_cons_succ])
              refine bl1 (hB) (hL _ _ _ HG3.out) ?_
              clear hB hL HB HG3 HG2
              intro Wc HB HG3
              refine anyG_ready (rs := [11]) (by kernel_rfl) (by simp) (readyG.cons (by rfl) (fun K hK => ?_) (readyG.nil))
              refine HB.out.app_u (by rfl) (.tmp 44) (.tmp 45) (by rfl) (by rfl) g3 (by rfl) true HG3.out (show (ini n m).up.length ≤ 10 by simp [ini]; omega) ?_
              intro v Wd tg hB hL
              obtain ⟨V3, e3, hv⟩ := Kd.R_slice hB.nw.u
              dsimp only at hv
              rw [List.length_append, List.length_singleton] at hv
              subst hv
              refine hK.out _ _ (fun _ => of7 hB.bw) ?_
              clear hK K
              (try simp only [Act.put, List.setIfInBounds_toArray, List.set_cons_zero, List.set_cons_succ])
              refine bl0 (hB) ?_
              clear hB hL HB HG3
              intro Wc HB
              refine anyG_ready (rs := [13]) (by kernel_rfl) (by simp) (readyG.cons (by rfl) (fun K hK => ?_) (readyG.nil))
              have q3 := (blk_cell HB.out.bw 3).trans rfl
              have q3f := blk_frozen HB.out.bw 3
              go_simp
              refine hK.out _ _ (fun h => absurd (show true = false from h) (by decide)) ?_
              clear hK K q3 q3f
              (try simp only [Act.put, List.setIfInBounds_toArray, List.set_cons_zero, List.set_cons_succ])
              refine bl0 (HB.out.put_c _) ?_
              clear HB
              intro Wc HB
              refine anyG_ready (rs := [14]) (by kernel_rfl) (by simp) (readyG.cons (by rfl) (fun K hK => ?_) (readyG.nil))
              go_simp
              refine hK.out _ _ (fun h => absurd (show true = false from h) (by decide)) ?_
              clear hK K
              (try simp only [Act.put, List.setIfInBounds_toArray, List.set_cons_zero, List.set_cons_succ])
              refine anyG_ready (rs := [15]) (by kernel_rfl) (by simp) (readyG.cons (by rfl) (fun K hK => ?_) (readyG.nil))
              have q3 := (blk_cell HB.out.bw 4).trans rfl
              have q3f := blk_frozen HB.out.bw 4
              go_simp
              refine hK.out _ _ (fun h => absurd (show true = false from h) (by decide)) ?_
              clear hK K q3 q3f
              (try simp only [Act.put, List.setIfInBounds_toArray, List.set_cons_zero, List.set_cons_succ])
              refine bl0 (HB.out.put_l _) ?_
              clear HB
              intro Wc HB
              refine anyG_ready (rs := [16]) (by kernel_rfl) (by simp) (readyG.cons (by rfl) (fun K hK => ?_) (readyG.nil))
              go_simp
              refine hK.out _ _ (fun h => absurd (show true = false from h) (by decide)) ?_
              clear hK K
              (try simp only [Act.put, List.setIfInBounds_toArray, List.set_cons_zero, List.set_cons_succ])
              refine anyG_ready (rs := [17]) (by kernel_rfl) (by simp) (readyG.cons (by rfl) (fun K hK => ?_) (readyG.nil))
              have q3 := (blk_cell HB.out.bw 5).trans rfl
              have q3f := blk_frozen HB.out.bw 5
              go_simp
              refine hK.out _ _ (fun h => absurd (show true = false from h) (by decide)) ?_
              clear hK K q3 q3f
              (try simp only [Act.put, List.setIfInBounds_toArray, List.set_cons_zero, List.set_cons_succ])
              refine bl0 (HB.out.put_u _) ?_
              clear HB
              intro Wc HB
              refine anyG_done (by kernel_rfl) ?_
              go_wp2
              go_meet
              case rel => exact ⟨rfl, _, _, HB.out⟩
            · go_simp
              refine hK.out _ _ (fun _ => of7 (HB.out.alloc _).bw) ?_
              clear hK K
              (try simp only [Act.put, List.setIfInBounds_toArray, List.set_cons_zero, List.set_cons_succ])
              have hg := HB.out.lay [.int .i64 0] 3
              generalize Wc.heap.size = g2 at hg ⊢
              refine bl3 (HB.out.alloc _) (HG1.out.alloc _) (HG3.out.alloc _) (hg) ?_
              clear HB HG1 HG3
              intro Wc HB HG1 HG3 HG2
              clear hg
              refine anyG_ready (rs := [3]) (by kernel_rfl) (by simp) (readyG.cons (by rfl) (fun K hK => ?_) (readyG.nil))
              refine HB.out.app_c (by rfl) (.tmp 36) (.tmp 37) (by rfl) (by rfl) g1 (by rfl) 0 HG1.out (show (ini n m).clock.length ≤ 10 by simp [ini]; omega) ?_
              intro v Wd tg hB hL
              obtain ⟨V1, e1, hv⟩ := Kd.R_slice hB.nw.c
              dsimp only at hv
              rw [List.length_append, List.length_singleton] at hv
              subst hv
              refine hK.out _ _ (fun _ => of7 hB.bw) ?_
              clear hK K
              (try simp only [Act.put, List.setIfInBounds_toArray, List.set_cons_zero, List.set_cons_succ])
              refine bl2 (hB) (hL _ _ _ HG3.out) (hL _ _ _ HG2.out) ?_
              clear hB hL HB HG1 HG3 HG2
              intro Wc HB HG3 HG2
              refine anyG_take (i := 12) [13] (v := ?_) rfl (by kernel_rfl) (fun _ _ _ h => h) (Or.inl ⟨by rfl, ?_⟩) (of7 HB.out.bw) ?_
              rotate_left
              · intro w' hS; (try dsimp only at hS); go_simp; (try with_reducible rfl)
              (try simp only [Act.put, List.setIfInBounds_toArray, List.set_cons_zero, List.set_cons_succ])
              refine anyG_ready (rs := [7]) (by kernel_rfl) (by simp) (readyG.cons (by rfl) (fun K hK => ?_) (readyG.nil))
              refine HB.out.app_l (by rfl) (.tmp 40) (.tmp 41) (by rfl) (by rfl) g2 (by rfl) 0 HG2.out (show (ini n m).life.length ≤ 10 by simp [ini]; omega) ?_
              intro v Wd tg hB hL
              obtain ⟨V2, e2, hv⟩ := Kd.R_slice hB.nw.l
              dsimp only at hv
              rw [List.length_append, List.length_singleton] at hv
              subst hv
              refine hK.out _ _ (fun _ => of7 hB.bw) ?_
              clear hK K
              (try simp only [Act.put, List.setIfInBounds_toArray, List.set_cons_zero, List.set_cons_succ])
              refine bl1 (hB) (hL _ _ _ HG3.out) ?_
              clear hB hL HB HG3 HG2
              intro Wc HB HG3
              refine anyG_ready (rs := [11]) (by kernel_rfl) (by simp) (readyG.cons (by rfl) (fun K hK => ?_) (readyG.nil))
              refine HB.out.app_u (by rfl) (.tmp 44) (.tmp 45) (by rfl) (by rfl) g3 (by rfl) true HG3.out (show (ini n m).up.length ≤ 10 by simp [ini]; omega) ?_
              intro v Wd tg hB hL
              obtain ⟨V3, e3, hv⟩ := Kd.R_slice hB.nw.u
              dsimp only at hv
              rw [List.length_append, List.length_singleton] at hv
              subst hv
              refine hK.out _ _ (fun _ => of7 hB.bw) ?_
              clear hK K
              (try simp only [Act.put, List.setIfInBounds_toArray, List.set_cons_zero, List.set_cons_succ])
              refine bl0 (hB) ?_
              clear hB hL HB HG3
              intro Wc HB
              refine anyG_ready (rs := [13]) (by kernel_rfl) (by simp) (readyG.cons (by rfl) (fun K hK => ?_) (readyG.nil))
              have q3 := (blk_cell HB.out.bw 3).trans rfl
              have q3f := blk_frozen HB.out.bw 3
              go_simp
              refine hK.out _ _ (fun h => absurd (show true = false from h) (by decide)) ?_
              clear hK K q3 q3f
              (try simp only [Act.put, List.setIfInBounds_toArray, List.set_cons_zero, List.set_cons_succ])
              refine bl0 (HB.out.put_c _) ?_
              clear HB
              intro Wc HB
              refine anyG_ready (rs := [14]) (by kernel_rfl) (by simp) (readyG.cons (by rfl) (fun K hK => ?_) (readyG.nil))
              go_simp
              refine hK.out _ _ (fun h => absurd (show true = false from h) (by decide)) ?_
              clear hK K
              (try simp only [Act.put, List.setIfInBounds_toArray, List.set_cons_zero, List.set_cons_succ])
              refine anyG_ready (rs := [15]) (by kernel_rfl) (by simp) (readyG.cons (by rfl) (fun K hK => ?_) (readyG.nil))
              have q3 := (blk_cell HB.out.bw 4).trans rfl
              have q3f := blk_frozen HB.out.bw 4
              go_simp
              refine hK.out _ _ (fun h => absurd (show true = false from h) (by decide)) ?_
              clear hK K q3 q3f
              (try simp only [Act.put, List.setIfInBounds_toArray, List.set_cons_zero, List.set_cons_succ])
              refine bl0 (HB.out.put_l _) ?_
              clear HB
              intro Wc HB
              refine anyG_ready (rs := [16]) (by kernel_rfl) (by simp) (readyG.cons (by rfl) (fun K hK => ?_) (readyG.nil))
              go_simp
              refine hK.out _ _ (fun h => absurd (show true = false from h) (by decide)) ?_
              clear hK K
              (try simp only [Act.put, List.setIfInBounds_toArray, List.set_cons_zero, List.set_cons_succ])
              refine anyG_ready (rs := [17]) (by kernel_rfl) (by simp) (readyG.cons (by rfl) (fun K hK => ?_) (readyG.nil))
              have q3 := (blk_cell HB.out.bw 5).trans rfl
              have q3f := blk_frozen HB.out.bw 5
              go_simp
              refine hK.out _ _ (fun h => absurd (show true = false from h) (by decide)) ?_
              clear hK K q3 q3f
              (try simp only [Act.put, List.setIfInBounds_toArray, List.set_cons_zero, List.set_cons_succ])
              refine bl0 (HB.out.put_u _) ?_
              clear HB
              intro Wc HB
              refine anyG_done (by kernel_rfl) ?_
              go_wp2
              go_meet
              case rel => exact ⟨rfl, _, _, HB.out⟩
        · go_simp
          refine hK.out _ _ (fun _ => of7 (HB.out.alloc _).bw) ?_
          clear hK K
          (try simp only [Act.put, List.setIfInBounds_toArray, List.set_cons_zero, List.set_cons_succ])
          have hg := HB.out.lay [.int .i64 0] 3
          generalize Wc.heap.size = g2 at hg ⊢
          refine bl1 (HB.out.alloc _) (hg) ?_
          clear HB
          intro Wc HB HG2
          clear hg
          refine anyG_ready (rs := [2, 10]) (by kernel_rfl) (by simp) (readyG.cons (by rfl) (fun K hK => ?_) (readyG.cons (by rfl) (fun K hK => ?_) (readyG.nil)))
          · go_simp
            refine hK.out _ _ (fun _ => of7 (HB.out.alloc _).bw) ?_
            clear hK K
            (try simp only [Act.put, List.setIfInBounds_toArray, List.set_cons_zero, List.set_cons_succ])
            have hg := HB.out.lay [.int .i64 0] 2
            generalize Wc.heap.size = g1 at hg ⊢
            refine bl2 (HB.out.alloc _) (HG2.out.alloc _) (hg) ?_
            clear HB HG2
            intro Wc HB HG2 HG1
            clear hg
            refine anyG_ready (rs := [3, 10]) (by kernel_rfl) (by simp) (readyG.cons (by rfl) (fun K hK => ?_) (readyG.cons (by rfl) (fun K hK => ?_) (readyG.nil)))
            · refine HB.out.app_c (by rfl) (.tmp 36) (.tmp 37) (by rfl) (by rfl) g1 (by rfl) 0 HG1.out (show (ini n m).clock.length ≤ 10 by simp [ini]; omega) ?_
              intro v Wd tg hB hL
              obtain ⟨V1, e1, hv⟩ := Kd.R_slice hB.nw.c
              dsimp only at hv
              rw [List.length_append, List.length_singleton] at hv
              subst hv
              refine hK.out _ _ (fun _ => of7 hB.bw) ?_
              clear hK K
              (try simp only [Act.put, List.setIfInBounds_toArray, List.set_cons_zero, List.set_cons_succ])
              refine bl1 (hB) (hL _ _ _ HG2.out) ?_
              clear hB hL HB HG2 HG1
              intro Wc HB HG2
              refine anyG_take (i := 12) [13] (v := ?_) rfl (by kernel_rfl) (fun _ _ _ h => h) (Or.inl ⟨by rfl, ?_⟩) (of7 HB.out.bw) ?_
              rotate_left
              · intro w' hS; (try dsimp only at hS); go_simp; (try with_reducible rfl)
              (try simp only [Act.put, List.setIfInBounds_toArray, List.set_cons_zero, List.set_cons_succ])
              refine anyG_ready (rs := [7, 10]) (by kernel_rfl) (by simp) (readyG.cons (by rfl) (fun K hK => ?_) (readyG.cons (by rfl) (fun K hK => ?_) (readyG.nil)))
              · refine HB.out.app_l (by rfl) (.tmp 40) (.tmp 41) (by rfl) (by rfl) g2 (by rfl) 0 HG2.out (show (ini n m).life.length ≤ 10 by simp [ini]; omega) ?_
                intro v Wd tg hB hL
                obtain ⟨V2, e2, hv⟩ := Kd.R_slice hB.nw.l
                dsimp only at hv
                rw [List.length_append, List.length_singleton] at hv
                subst hv
                refine hK.out _ _ (fun _ => of7 hB.bw) ?_
                clear hK K
                (try simp only [Act.put, List.setIfInBounds_toArray, List.set_cons_zero, List.set_cons_succ])
                refine bl0 (hB) ?_
                clear hB hL HB HG2
                intro Wc HB
                refine anyG_ready (rs := [10]) (by kernel_rfl) (by simp) (readyG.cons (by rfl) (fun K hK => ?_) (readyG.nil))
                go_simp
                refine hK.out _ _ (fun _ => of7 (HB.out.alloc _).bw) ?_
                clear hK K
                (try simp only [Act.put, List.setIfInBounds_toArray, List.set_cons_zero, List.set_cons_succ])
                have hg := HB.out.lay [.bool true] 4
                generalize Wc.heap.size = g3 at hg ⊢
                refine bl1 (HB.out.alloc _) (hg) ?_
                clear HB
                intro Wc HB HG3
                clear hg
                refine anyG_ready (rs := [11]) (by kernel_rfl) (by simp) (readyG.cons (by rfl) (fun K hK => ?_) (readyG.nil))
                refine HB.out.app_u (by rfl) (.tmp 44) (.tmp 45) (by rfl) (by rfl) g3 (by rfl) true HG3.out (show (ini n m).up.length ≤ 10 by simp [ini]; omega) ?_
                intro v Wd tg hB hL
                obtain ⟨V3, e3, hv⟩ := Kd.R_slice hB.nw.u
                dsimp only at hv
                rw [List.length_append, List.length_singleton] at hv
                subst hv
                refine hK.out _ _ (fun _ => of7 hB.bw) ?_
                clear hK K
                (try simp only [Act.put, List.setIfInBounds_toArray, List.set_cons_zero, List.set_cons_succ])
                refine bl0 (hB) ?_
                clear hB hL HB HG3
                intro Wc HB
                refine anyG_ready (rs := [13]) (by kernel_rfl) (by simp) (readyG.cons (by rfl) (fun K hK => ?_) (readyG.nil))
                have q3 := (blk_cell HB.out.bw 3).trans rfl
                have q3f := blk_frozen HB.out.bw 3
                go_simp
                refine hK.out _ _ (fun h => absurd (show true = false from h) (by decide)) ?_
                clear hK K q3 q3f
                (try simp only [Act.put, List.setIfInBounds_toArray, List.set_cons_zero, List.set_cons_succ])
                refine bl0 (HB.out.put_c _) ?_
                clear HB
                intro Wc HB
                refine anyG_ready (rs := [14]) (by kernel_rfl) (by simp) (readyG.cons (by rfl) (fun K hK => ?_) (readyG.nil))
                go_simp
                refine hK.out _ _ (fun h => absurd (show true = false from h) (by decide)) ?_
                clear hK K
                (try simp only [Act.put, List.setIfInBounds_toArray, List.set_cons_zero, List.set_cons_succ])
                refine anyG_ready (rs := [15]) (by kernel_rfl) (by simp) (readyG.cons (by rfl) (fun K hK => ?_) (readyG.nil))
                have q3 := (blk_cell HB.out.bw 4).trans rfl
                have q3f := blk_frozen HB.out.bw 4
                go_simp
                refine hK.out _ _ (fun h => absurd (show true = false from h) (by decide)) ?_
                clear hK K q3 q3f
                (try simp only [Act.put, List.setIfInBounds_toArray, List.set_cons_zero, List.set_cons_succ])
                refine bl0 (HB.out.put_l _) ?_
                clear HB
                intro Wc HB
                refine anyG_ready (rs := [16]) (by kernel_rfl) (by simp) (readyG.cons (by rfl) (fun K hK => ?_) (readyG.nil))
                go_simp
                refine hK.out _ _ (fun h => absurd (show true = false from h) (by decide)) ?_
                clear hK K
                (try simp only [Act.put, List.setIfInBounds_toArray, List.set_cons_zero, List.set_cons_succ])
                refine anyG_ready (rs := [17]) (by kernel_rfl) (by simp) (readyG.cons (by rfl) (fun K hK => ?_) (readyG.nil))
                have q3 := (blk_cell HB.out.bw 5).trans rfl
                have q3f := blk_frozen HB.out.bw 5
                go_simp
                refine hK.out _ _ (fun h => absurd (show true = false from h) (by decide)) ?_
                clear hK K q3 q3f
                (try simp only [Act.put, List.setIfInBounds_toArray, List.set_cons_zero, List.set_cons_succ])
                refine bl0 (HB.out.put_u _) ?_
                clear HB
                intro Wc HB
                refine anyG_done (by kernel_rfl) ?_
                go_wp2
                go_meet
                case rel => exact ⟨rfl, _, _, HB.out⟩
              · go_simp
                refine hK.out _ _ (fun _ => of7 (HB.out.alloc _).bw) ?_
                clear hK K
                (try simp only [Act.put, List.setIfInBounds_toArray, List.set_cons_zero, List.set_cons_succ])
                have hg := HB.out.lay [.bool true] 4
                generalize Wc.heap.size = g3 at hg ⊢
                refine bl2 (HB.out.alloc _) (HG2.out.alloc _) (hg) ?_
                clear HB HG2
                intro Wc HB HG2 HG3
                clear hg
                refine anyG_ready (rs := [7]) (by kernel_rfl) (by simp) (readyG.cons (by rfl) (fun K hK => ?_) (readyG.nil))
                refine HB.out.app_l (by rfl) (.tmp 40) (.tmp 41) (by rfl) (by rfl) g2 (by rfl) 0 HG2.out (show (ini n m).life.length ≤ 10 by simp [ini]; omega) ?_
                intro v Wd tg hB hL
                obtain ⟨V2, e2, hv⟩ := Kd.R_slice hB.nw.l
                dsimp only at hv
                rw [List.length_append, List.length_singleton] at hv
                subst hv
                refine hK.out _ _ (fun _ => of7 hB.bw) ?_
                clear hK K
                (try simp only [Act.put, List.setIfInBounds_toArray, List.set_cons_zero, List.set_cons_succ])
                refine bl1 (hB) (hL _ _ _ HG3.out) ?_
                clear hB hL HB HG2 HG3
                intro Wc HB HG3
                refine anyG_ready (rs := [11]) (by kernel_rfl) (by simp) (readyG.cons (by rfl) (fun K hK => ?_) (readyG.nil))
                refine HB.out.app_u (by rfl) (.tmp 44) (.tmp 45) (by rfl) (by rfl) g3 (by rfl) true HG3.out (show (ini n m).up.length ≤ 10 by simp [ini]; omega) ?_
                intro v Wd tg hB hL
                obtain ⟨V3, e3, hv⟩ := Kd.R_slice hB.nw.u
                dsimp only at hv
                rw [List.length_append, List.length_singleton] at hv
                subst hv
                refine hK.out _ _ (fun _ => of7 hB.bw) ?_
                clear hK K
                (try simp only [Act.put, List.setIfInBounds_toArray, List.set_cons_zero, List.set_cons_succ])
                refine bl0 (hB) ?_
                clear hB hL HB HG3
                intro Wc HB
                refine anyG_ready (rs := [13]) (by kernel_rfl) (by simp) (readyG.cons (by rfl) (fun K hK => ?_) (readyG.nil))
                have q3 := (blk_cell HB.out.bw 3).trans rfl
                have q3f := blk_frozen HB.out.bw 3
                go_simp
                refine hK.out _ _ (fun h => absurd (show true = false from h) (by decide)) ?_
                clear hK K q3 q3f
                (try simp only [Act.put, List.setIfInBounds_toArray, List.set_cons_zero, List.set_cons_succ])
                refine bl0 (HB.out.put_c _) ?_
                clear HB
                intro Wc HB
                refine anyG_ready (rs := [14]) (by kernel_rfl) (by simp) (readyG.cons (by rfl) (fun K hK => ?_) (readyG.nil))
                go_simp
                refine hK.out _ _ (fun h => absurd (show true = false from h) (by decide)) ?_
                clear hK K
                (try simp only [Act.put, List.setIfInBounds_toArray, List.set_cons_zero, List.set_cons_succ])
                refine anyG_ready (rs := [15]) (by kernel_rfl) (by simp) (readyG.cons (by rfl) (fun K hK => ?_) (readyG.nil))
                have q3 := (blk_cell HB.out.bw 4).trans rfl
                have q3f := blk_frozen HB.out.bw 4
                go_simp
                refine hK.out _ _ (fun h => absurd (show true = false from h) (by decide)) ?_
                clear hK K q3 q3f
                (try simp only [Act.put, List.setIfInBounds_toArray, List.set_cons_zero, List.set_cons_succ])
                refine bl0 (HB.out.put_l _) ?_
                clear HB
                intro Wc HB
                refine anyG_ready (rs := [16]) (by kernel_rfl) (by simp) (readyG.cons (by rfl) (fun K hK => ?_) (readyG.nil))
                go_simp
                refine hK.out _ _ (fun h => absurd (show true = false from h) (by decide)) ?_
                clear hK K
                (try simp only [Act.put, List.setIfInBounds_toArray, List.set_cons_zero, List.set_cons_succ])
                refine anyG_ready (rs := [17]) (by kernel_rfl) (by simp) (readyG.cons (by rfl) (fun K hK => ?_) (readyG.nil))
                have q3 := (blk_cell HB.out.bw 5).trans rfl
                have q3f := blk_frozen HB.out.bw 5
                go_simp
                refine hK.out _ _ (fun h => absurd (show true = false from h) (by decide)) ?_
                clear hK K q3 q3f
                (try simp only [Act.put, List.setIfInBounds_toArray, List.set_cons_zero, List.set_cons_succ])
                refine bl0 (HB.out.put_u _) ?_
                clear HB
                intro Wc HB
                refine anyG_done (by kernel_rfl) ?_
                go_wp2
                go_meet
                case rel => exact ⟨rfl, _, _, HB.out⟩
            · go_simp
              refine hK.out _ _ (fun _ => of7 (HB.out.alloc _).bw) ?_
              clear hK K
              (try simp only [Act.put, List.setIfInBounds_toArray, List.set_cons_zero, List.set_cons_succ])
              have hg := HB.out.lay [.bool true] 4
              generalize Wc.heap.size = g3 at hg ⊢
              refine bl3 (HB.out.alloc _) (HG2.out.alloc _) (HG1.out.alloc _) (hg) ?_
              clear HB HG2 HG1
              intro Wc HB HG2 HG1 HG3
              clear hg
              refine anyG_ready (rs := [3]) (by kernel_rfl) (by simp) (readyG.cons (by rfl) (fun K hK => ?_) (readyG.nil))
              refine HB.out.app_c (by rfl) (.tmp 36) (.tmp 37) (by rfl) (by rfl) g1 (by rfl) 0 HG1.out (show (ini n m).clock.length ≤ 10 by simp [ini]; omega) ?_
              intro v Wd tg hB hL
              obtain ⟨V1, e1, hv⟩ := Kd.R_slice hB.nw.c
              dsimp only at hv
              rw [List.length_append, List.length_singleton] at hv
              subst hv
              refine hK.out _ _ (fun _ => of7 hB.bw) ?_
              clear hK K
              (try simp only [Act.put, List.setIfInBounds_toArray, List.set_cons_zero, List.set_cons_succ])
              refine bl2 (hB) (hL _ _ _ HG2.out) (hL _ _ _ HG3.out) ?_
              clear hB hL HB HG2 HG1 HG3
              intro Wc HB HG2 HG3
              refine anyG_take (i := 12) [13] (v := ?_) rfl (by kernel_rfl) (fun _ _ _ h => h) (Or.inl ⟨by rfl, ?_⟩) (of7 HB.out.bw) ?_
              rotate_left
              · intro w' hS; (try dsimp only at hS); go_simp; (try with_reducible rfl)
              (try simp only [Act.put, List.setIfInBounds_toArray, List.set_cons_zero, List.set_cons_succ])
              refine anyG_ready (rs := [7]) (by kernel_rfl) (by simp) (readyG.cons (by rfl) (fun K hK => ?_) (readyG.nil))
              refine HB.out.app_l (by rfl) (.tmp 40) (.tmp 41) (by rfl) (by rfl) g2 (by rfl) 0 HG2.out (show (ini n m).life.length ≤ 10 by simp [ini]; omega) ?_
              intro v Wd tg hB hL
              obtain ⟨V2, e2, hv⟩ := Kd.R_slice hB.nw.l
              dsimp only at hv
              rw [List.length_append, List.length_singleton] at hv
              subst hv
              refine hK.out _ _ (fun _ => of7 hB.bw) ?_
              clear hK K
              (try simp only [Act.put, List.setIfInBounds_toArray, List.set_cons_zero, List.set_cons_succ])
              refine bl1 (hB) (hL _ _ _ HG3.out) ?_
              clear hB hL HB HG2 HG3
              intro Wc HB HG3
              refine anyG_ready (rs := [11]) (by kernel_rfl) (by simp) (readyG.cons (by rfl) (fun K hK => ?_) (readyG.nil))
              refine HB.out.app_u (by rfl) (.tmp 44) (.tmp 45) (by rfl) (by rfl) g3 (by rfl) true HG3.out (show (ini n m).up.length ≤ 10 by simp [ini]; omega) ?_
              intro v Wd tg hB hL
              obtain ⟨V3, e3, hv⟩ := Kd.R_slice hB.nw.u
              dsimp only at hv
              rw [List.length_append, List.length_singleton] at hv
              subst hv
              refine hK.out _ _ (fun _ => of7 hB.bw) ?_
              clear hK K
              (try simp only [Act.put, List.setIfInBounds_toArray, List.set_cons_zero, List.set_cons_succ])
              refine bl0 (hB) ?_
              clear hB hL HB HG3
              intro Wc HB
              refine anyG_ready (rs := [13]) (by kernel_rfl) (by simp) (readyG.cons (by rfl) (fun K hK => ?_) (readyG.nil))
              have q3 := (blk_cell HB.out.bw 3).trans rfl
              have q3f := blk_frozen HB.out.bw 3
              go_simp
              refine hK.out _ _ (fun h => absurd (show true = false from h) (by decide)) ?_
              clear hK K q3 q3f
              (try simp only [Act.put, List.setIfInBounds_toArray, List.set_cons_zero, List.set_cons_succ])
              refine bl0 (HB.out.put_c _) ?_
              clear HB
              intro Wc HB
              refine anyG_ready (rs := [14]) (by kernel_rfl) (by simp) (readyG.cons (by rfl) (fun K hK => ?_) (readyG.nil))
              go_simp
              refine hK.out _ _ (fun h => absurd (show true = false from h) (by decide)) ?_
              clear hK K
              (try simp only [Act.put, List.setIfInBounds_toArray, List.set_cons_zero, List.set_cons_succ])
              refine anyG_ready (rs := [15]) (by kernel_rfl) (by simp) (readyG.cons (by rfl) (fun K hK => ?_) (readyG.nil))
              have q3 := (blk_cell HB.out.bw 4).trans rfl
              have q3f := blk_frozen HB.out.bw 4
              go_simp
              refine hK.out _ _ (fun h => absurd (show true = false from h) (by decide)) ?_
              clear hK K q3 q3f
              (try simp only [Act.put, List.setIfInBounds_toArray, List.set_cons_zero, List.set_cons_succ])
              refine bl0 (HB.out.put_l _) ?_
              clear HB
              intro Wc HB
              refine anyG_ready (rs := [16]) (by kernel_rfl) (by simp) (readyG.cons (by rfl) (fun K hK => ?_) (readyG.nil))
              go_simp
              refine hK.out _ _ (fun h => absurd (show true = false from h) (by decide)) ?_
              clear hK K
              (try simp only [Act.put, List.setIfInBounds_toArray, List.set_cons_zero, List.set_cons_succ])
              refine anyG_ready (rs := [17]) (by kernel_rfl) (by simp) (readyG.cons (by rfl) (fun K hK => ?_) (readyG.nil))
              have q3 := (blk_cell HB.out.bw 5).trans rfl
              have q3f := blk_frozen HB.out.bw 5
              go_simp
              refine hK.out _ _ (fun h => absurd (show true = false from h) (by decide)) ?_
              clear hK K q3 q3f
              (try simp only [Act.put, List.setIfInBounds_toArray, List.set_cons_zero, List.set_cons_succ])
              refine bl0 (HB.out.put_u _) ?_
              clear HB
              intro Wc HB
              refine anyG_done (by kernel_rfl) ?_
              go_wp2
              go_meet
              case rel => exact ⟨rfl, _, _, HB.out⟩
          · go_simp
            refine hK.out _ _ (fun _ => of7 (HB.out.alloc _).bw) ?_
            clear hK K
            (try simp only [Act.put, List.setIfInBounds_toArray, List.set_cons_zero, List.set_cons_succ])
            have hg := HB.out.lay [.bool true] 4
            generalize Wc.heap.size = g3 at hg ⊢
            refine bl2 (HB.out.alloc _) (HG2.out.alloc _) (hg) ?_
            clear HB HG2
            intro Wc HB HG2 HG3
            clear hg
            refine anyG_ready (rs := [2]) (by kernel_rfl) (by simp) (readyG.cons (by rfl) (fun K hK => ?_) (readyG.nil))
            go_simp
            refine hK.out _ _ (fun _ => of7 (HB.out.alloc _).bw) ?_
            clear hK K
            (try simp only [Act.put, List.setIfInBounds_toArray, List.set_cons_zero, List.set_cons_succ])
            have hg := HB.out.lay [.int .i64 0] 2
            generalize Wc.heap.size = g1 at hg ⊢
            refine bl3 (HB.out.alloc _) (HG2.out.alloc _) (HG3.out.alloc _) (hg) ?_
            clear HB HG2 HG3
            intro Wc HB HG2 HG3 HG1
            clear hg
            refine anyG_ready (rs := [3]) (by kernel_rfl) (by simp) (readyG.cons (by rfl) (fun K hK => ?_) (readyG.nil))
            refine HB.out.app_c (by rfl) (.tmp 36) (.tmp 37) (by rfl) (by rfl) g1 (by rfl) 0 HG1.out (show (ini n m).clock.length ≤ 10 by simp [ini]; omega) ?_
            intro v Wd tg hB hL
            obtain ⟨V1, e1, hv⟩ := Kd.R_slice hB.nw.c
            dsimp only at hv
            rw [List.length_append, List.length_singleton] at hv
            subst hv
            refine hK.out _ _ (fun _ => of7 hB.bw) ?_
            clear hK K
            (try simp only [Act.put, List.setIfInBounds_toArray, List.set_cons_zero, List.set_cons_succ])
            refine bl2 (hB) (hL _ _ _ HG2.out) (hL _ _ _ HG3.out) ?_
            clear hB hL HB HG2 HG3 HG1
            intro Wc HB HG2 HG3
            refine anyG_take (i := 12) [13] (v := ?_) rfl (by kernel_rfl) (fun _ _ _ h => h) (Or.inl ⟨by rfl, ?_⟩) (of7 HB.out.bw) ?_
            rotate_left
            · intro w' hS; (try dsimp only at hS); go_simp; (try with_reducible rfl)
            (try simp only [Act.put, List.setIfInBounds_toArray, List.set_cons_zero, List.set_cons_succ])
            refine anyG_ready (rs := [7]) (by kernel_rfl) (by simp) (readyG.cons (by rfl) (fun K hK => ?_) (readyG.nil))
            refine HB.out.app_l (by rfl) (.tmp 40) (.tmp 41) (by rfl) (by rfl) g2 (by rfl) 0 HG2.out (show (ini n m).life.length ≤ 10 by simp [ini]; omega) ?_
            intro v Wd tg hB hL
            obtain ⟨V2, e2, hv⟩ := Kd.R_slice hB.nw.l
            dsimp only at hv
            rw [List.length_append, List.length_singleton] at hv
            subst hv
            refine hK.out _ _ (fun _ => of7 hB.bw) ?_
            clear hK K
            (try simp only [Act.put, List.setIfInBounds_toArray, List.set_cons_zero, List.set_cons_succ])
            refine bl1 (hB) (hL _ _ _ HG3.out) ?_
            clear hB hL HB HG2 HG3
            intro Wc HB HG3
            refine anyG_ready (rs := [11]) (by kernel_rfl) (by simp) (readyG.cons (by rfl) (fun K hK => ?_) (readyG.nil))
            refine HB.out.app_u (by rfl) (.tmp 44) (.tmp 45) (by rfl) (by rfl) g3 (by rfl) true HG3.out (show (ini n m).up.length ≤ 10 by simp [ini]; omega) ?_
            intro v Wd tg hB hL
            obtain ⟨V3, e3, hv⟩ := Kd.R_slice hB.nw.u
            dsimp only at hv
            rw [List.length_append, List.length_singleton] at hv
            subst hv
            refine hK.out _ _ (fun _ => of7 hB.bw) ?_
            clear hK K
            (try simp only [Act.put, List.setIfInBounds_toArray, List.set_cons_zero, List.set_cons_succ])
            refine bl0 (hB) ?_
            clear hB hL HB HG3
            intro Wc HB
            refine anyG_ready (rs := [13]) (by kernel_rfl) (by simp) (readyG.cons (by rfl) (fun K hK => ?_) (readyG.nil))
            have q3 := (blk_cell HB.out.bw 3).trans rfl
            have q3f := blk_frozen HB.out.bw 3
            go_simp
            refine hK.out _ _ (fun h => absurd (show true = false from h) (by decide)) ?_
            clear hK K q3 q3f
            (try simp only [Act.put, List.setIfInBounds_toArray, List.set_cons_zero, List.set_cons_succ])
            refine bl0 (HB.out.put_c _) ?_
            clear HB
            intro Wc HB
            refine anyG_ready (rs := [14]) (by kernel_rfl) (by simp) (readyG.cons (by rfl) (fun K hK => ?_) (readyG.nil))
            go_simp
            refine hK.out _ _ (fun h => absurd (show true = false from h) (by decide)) ?_
            clear hK K
            (try simp only [Act.put, List.setIfInBounds_toArray, List.set_cons_zero, List.set_cons_succ])
            refine anyG_ready (rs := [15]) (by kernel_rfl) (by simp) (readyG.cons (by rfl) (fun K hK => ?_) (readyG.nil))
            have q3 := (blk_cell HB.out.bw 4).trans rfl
            have q3f := blk_frozen HB.out.bw 4
            go_simp
            refine hK.out _ _ (fun h => absurd (show true = false from h) (by decide)) ?_
            clear hK K q3 q3f
            (try simp only [Act.put, List.setIfInBounds_toArray, List.set_cons_zero, List.set_cons_succ])
            refine bl0 (HB.out.put_l _) ?_
            clear HB
            intro Wc HB
            refine anyG_ready (rs := [16]) (by kernel_rfl) (by simp) (readyG.cons (by rfl) (fun K hK => ?_) (readyG.nil))
            go_simp
            refine hK.out _ _ (fun h => absurd (show true = false from h) (by decide)) ?_
            clear hK K
            (try simp only [Act.put, List.setIfInBounds_toArray, List.set_cons_zero, List.set_cons_succ])
            refine anyG_ready (rs := [17]) (by kernel_rfl) (by simp) (readyG.cons (by rfl) (fun K hK => ?_) (readyG.nil))
            have q3 := (blk_cell HB.out.bw 5).trans rfl
            have q3f := blk_frozen HB.out.bw 5
            go_simp
            refine hK.out _ _ (fun h => absurd (show true = false from h) (by decide)) ?_
            clear hK K q3 q3f
            (try simp only [Act.put, List.setIfInBounds_toArray, List.set_cons_zero, List.set_cons_succ])
            refine bl0 (HB.out.put_u _) ?_
            clear HB
            intro Wc HB
            refine anyG_done (by kernel_rfl) ?_
            go_wp2
            go_meet
            case rel => exact ⟨rfl, _, _, HB.out⟩
        · go_simp
          refine hK.out _ _ (fun _ => of7 (HB.out.alloc _).bw) ?_
          clear hK K
          (try simp only [Act.put, List.setIfInBounds_toArray, List.set_cons_zero, List.set_cons_succ])
          have hg := HB.out.lay [.bool true] 4
          generalize Wc.heap.size = g3 at hg ⊢
          refine bl1 (HB.out.alloc _) (hg) ?_
          clear HB
          intro Wc HB HG3
          clear hg
          refine anyG_ready (rs := [2, 6]) (by kernel_rfl) (by simp) (readyG.cons (by rfl) (fun K hK => ?_) (readyG.cons (by rfl) (fun K hK => ?_) (readyG.nil)))
          · go_simp
            refine hK.out _ _ (fun _ => of7 (HB.out.alloc _).bw) ?_
            clear hK K
            (try simp only [Act.put, List.setIfInBounds_toArray, List.set_cons_zero, List.set_cons_succ])
            have hg := HB.out.lay [.int .i64 0] 2
            generalize Wc.heap.size = g1 at hg ⊢
            refine bl2 (HB.out.alloc _) (HG3.out.alloc _) (hg) ?_
            clear HB HG3
            intro Wc HB HG3 HG1
            clear hg
            refine anyG_ready (rs := [3, 6]) (by kernel_rfl) (by simp) (readyG.cons (by rfl) (fun K hK => ?_) (readyG.cons (by rfl) (fun K hK => ?_) (readyG.nil)))
            · refine HB.out.app_c (by rfl) (.tmp 36) (.tmp 37) (by rfl) (by rfl) g1 (by rfl) 0 HG1.out (show (ini n m).clock.length ≤ 10 by simp [ini]; omega) ?_
              intro v Wd tg hB hL
              obtain ⟨V1, e1, hv⟩ := Kd.R_slice hB.nw.c
              dsimp only at hv
              rw [List.length_append, List.length_singleton] at hv
              subst hv
              refine hK.out _ _ (fun _ => of7 hB.bw) ?_
              clear hK K
              (try simp only [Act.put, List.setIfInBounds_toArray, List.set_cons_zero, List.set_cons_succ])
              refine bl1 (hB) (hL _ _ _ HG3.out) ?_
              clear hB hL HB HG3 HG1
              intro Wc HB HG3
              refine anyG_take (i := 12) [13] (v := ?_) rfl (by kernel_rfl) (fun _ _ _ h => h) (Or.inl ⟨by rfl, ?_⟩) (of7 HB.out.bw) ?_
              rotate_left
              · intro w' hS; (try dsimp only at hS); go_simp; (try with_reducible rfl)
              (try simp only [Act.put, List.setIfInBounds_toArray, List.set_cons_zero, List.set_cons_succ])
              refine anyG_ready (rs := [6]) (by kernel_rfl) (by simp) (readyG.cons (by rfl) (fun K hK => ?_) (readyG.nil))
              go_simp
              refine hK.out _ _ (fun _ => of7 (HB.out.alloc _).bw) ?_
              clear hK K
              (try simp only [Act.put, List.setIfInBounds_toArray, List.set_cons_zero, List.set_cons_succ])
              have hg := HB.out.lay [.int .i64 0] 3
              generalize Wc.heap.size = g2 at hg ⊢
              refine bl2 (HB.out.alloc _) (HG3.out.alloc _) (hg) ?_
              clear HB HG3
              intro Wc HB HG3 HG2
              clear hg
              refine anyG_ready (rs := [7]) (by kernel_rfl) (by simp) (readyG.cons (by rfl) (fun K hK => ?_) (readyG.nil))
              refine HB.out.app_l (by rfl) (.tmp 40) (.tmp 41) (by rfl) (by rfl) g2 (by rfl) 0 HG2.out (show (ini n m).life.length ≤ 10 by simp [ini]; omega) ?_
              intro v Wd tg hB hL
              obtain ⟨V2, e2, hv⟩ := Kd.R_slice hB.nw.l
              dsimp only at hv
              rw [List.length_append, List.length_singleton] at hv
              subst hv
              refine hK.out _ _ (fun _ => of7 hB.bw) ?_
              clear hK K
              (try simp only [Act.put, List.setIfInBounds_toArray, List.set_cons_zero, List.set_cons_succ])
              refine bl1 (hB) (hL _ _ _ HG3.out) ?_
              clear hB hL HB HG3 HG2
              intro Wc HB HG3
              refine anyG_ready (rs := [11]) (by kernel_rfl) (by simp) (readyG.cons (by rfl) (fun K hK => ?_) (readyG.nil))
              refine HB.out.app_u (by rfl) (.tmp 44) (.tmp 45) (by rfl) (by rfl) g3 (by rfl) true HG3.out (show (ini n m).up.length ≤ 10 by simp [ini]; omega) ?_
              intro v Wd tg hB hL
              obtain ⟨V3, e3, hv⟩ := Kd.R_slice hB.nw.u
              dsimp only at hv
              rw [List.length_append, List.length_singleton] at hv
              subst hv
              refine hK.out _ _ (fun _ => of7 hB.bw) ?_
              clear hK K
              (try simp only [Act.put, List.setIfInBounds_toArray, List.set_cons_zero, List.set_cons_succ])
              refine bl0 (hB) ?_
              clear hB hL HB HG3
              intro Wc HB
              refine anyG_ready (rs := [13]) (by kernel_rfl) (by simp) (readyG.cons (by rfl) (fun K hK => ?_) (readyG.nil))
              have q3 := (blk_cell HB.out.bw 3).trans rfl
              have q3f := blk_frozen HB.out.bw 3
              go_simp
              refine hK.out _ _ (fun h => absurd (show true = false from h) (by decide)) ?_
              clear hK K q3 q3f
              (try simp only [Act.put, List.setIfInBounds_toArray, List.set_cons_zero, List.set_cons_succ])
              refine bl0 (HB.out.put_c _) ?_
              clear HB
              intro Wc HB
              refine anyG_ready (rs := [14]) (by kernel_rfl) (by simp) (readyG.cons (by rfl) (fun K hK => ?_) (readyG.nil))
              go_simp
              refine hK.out _ _ (fun h => absurd (show true = false from h) (by decide)) ?_
              clear hK K
              (try simp only [Act.put, List.setIfInBounds_toArray, List.set_cons_zero, List.set_cons_succ])
              refine anyG_ready (rs := [15]) (by kernel_rfl) (by simp) (readyG.cons (by rfl) (fun K hK => ?_) (readyG.nil))
              have q3 := (blk_cell HB.out.bw 4).trans rfl
              have q3f := blk_frozen HB.out.bw 4
              go_simp
              refine hK.out _ _ (fun h => absurd (show true = false from h) (by decide)) ?_
              clear hK K q3 q3f
              (try simp only [Act.put, List.setIfInBounds_toArray, List.set_cons_zero, List.set_cons_succ])
              refine bl0 (HB.out.put_l _) ?_
              clear HB
              intro Wc HB
              refine anyG_ready (rs := [16]) (by kernel_rfl) (by simp) (readyG.cons (by rfl) (fun K hK => ?_) (readyG.nil))
              go_simp
              refine hK.out _ _ (fun h => absurd (show true = false from h) (by decide)) ?_
              clear hK K
              (try simp only [Act.put, List.setIfInBounds_toArray, List.set_cons_zero, List.set_cons_succ])
              refine anyG_ready (rs := [17]) (by kernel_rfl) (by simp) (readyG.cons (by rfl) (fun K hK => ?_) (readyG.nil))
              have q3 := (blk_cell HB.out.bw 5).trans rfl
              have q3f := blk_frozen HB.out.bw 5
              go_simp
              refine hK.out _ _ (fun h => absurd (show true = false from h) (by decide)) ?_
              clear hK K q3 q3f
              (try simp only [Act.put, List.setIfInBounds_toArray, List.set_cons_zero, List.set_cons_succ])
              refine bl0 (HB.out.put_u _) ?_
              clear HB
              intro Wc HB
              refine anyG_done (by kernel_rfl) ?_
              go_wp2
              go_meet
              case rel => exact ⟨rfl, _, _, HB.out⟩
            · go_simp
              refine hK.out _ _ (fun _ => of7 (HB.out.alloc _).bw) ?_
              clear hK K
              (try simp only [Act.put, List.setIfInBounds_toArray, List.set_cons_zero, List.set_cons_succ])
              have hg := HB.out.lay [.int .i64 0] 3
              generalize Wc.heap.size = g2 at hg ⊢
              refine bl3 (HB.out.alloc _) (HG3.out.alloc _) (HG1.out.alloc _) (hg) ?_
              clear HB HG3 HG1
              intro Wc HB HG3 HG1 HG2
              clear hg
              refine anyG_ready (rs := [3]) (by kernel_rfl) (by simp) (readyG.cons (by rfl) (fun K hK => ?_) (readyG.nil))
              refine HB.out.app_c (by rfl) (.tmp 36) (.tmp 37) (by rfl) (by rfl) g1 (by rfl) 0 HG1.out (show (ini n m).clock.length ≤ 10 by simp [ini]; omega) ?_
              intro v Wd tg hB hL
              obtain ⟨V1, e1, hv⟩ := Kd.R_slice hB.nw.c
              dsimp only at hv
              rw [List.length_append, List.length_singleton] at hv
              subst hv
              refine hK.out _ _ (fun _ => of7 hB.bw) ?_
              clear hK K
              (try simp only [Act.put, List.setIfInBounds_toArray, List.set_cons_zero, List.set_cons_succ])
              refine bl2 (hB) (hL _ _ _ HG3.out) (hL _ _ _ HG2.out) ?_
              clear hB hL HB HG3 HG1 HG2
              intro Wc HB HG3 HG2
              refine anyG_take (i := 12) [13] (v := ?_) rfl (by kernel_rfl) (fun _ _ _ h => h) (Or.inl ⟨by rfl, ?_⟩) (of7 HB.out.bw) ?_
              rotate_left
              · intro w' hS; (try dsimp only at hS); go_simp; (try with_reducible rfl)
              (try simp only [Act.put, List.setIfInBounds_toArray, List.set_cons_zero, List.set_cons_succ])
              refine anyG_ready (rs := [7]) (by kernel_rfl) (by simp) (readyG.cons (by rfl) (fun K hK => ?_) (readyG.nil))
              refine HB.out.app_l (by rfl) (.tmp 40) (.tmp 41) (by rfl) (by rfl) g2 (by rfl) 0 HG2.out (show (ini n m).life.length ≤ 10 by simp [ini]; omega) ?_
              intro v Wd tg hB hL
              obtain ⟨V2, e2, hv⟩ := Kd.R_slice hB.nw.l
              dsimp only at hv
              rw [List.length_append, List.length_singleton] at hv
              subst hv
              refine hK.out _ _ (fun _ => of7 hB.bw) ?_
              clear hK K
              (try simp only [Act.put, List.setIfInBounds_toArray, List.set_cons_zero, List.set_cons_succ])
              refine bl1 (hB) (hL _ _ _ HG3.out) ?_
              clear hB hL HB HG3 HG2
              intro Wc HB HG3
              refine anyG_ready (rs := [11]) (by kernel_rfl) (by simp) (readyG.cons (by rfl) (fun K hK => ?_) (readyG.nil))
              refine HB.out.app_u (by rfl) (.tmp 44) (.tmp 45) (by rfl) (by rfl) g3 (by rfl) true HG3.out (show (ini n m).up.length ≤ 10 by simp [ini]; omega) ?_
              intro v Wd tg hB hL
              obtain ⟨V3, e3, hv⟩ := Kd.R_slice hB.nw.u
              dsimp only at hv
              rw [List.length_append, List.length_singleton] at hv
              subst hv
              refine hK.out _ _ (fun _ => of7 hB.bw) ?_
              clear hK K
              (try simp only [Act.put, List.setIfInBounds_toArray, List.set_cons_zero, List.set_cons_succ])
              refine bl0 (hB) ?_
              clear hB hL HB HG3
              intro Wc HB
              refine anyG_ready (rs := [13]) (by kernel_rfl) (by simp) (readyG.cons (by rfl) (fun K hK => ?_) (readyG.nil))
              have q3 := (blk_cell HB.out.bw 3).trans rfl
              have q3f := blk_frozen HB.out.bw 3
              go_simp
              refine hK.out _ _ (fun h => absurd (show true = false from h) (by decide)) ?_
              clear hK K q3 q3f
              (try simp only [Act.put, List.setIfInBounds_toArray, List.set_cons_zero, List.set_cons_succ])
              refine bl0 (HB.out.put_c _) ?_
              clear HB
              intro Wc HB
              refine anyG_ready (rs := [14]) (by kernel_rfl) (by simp) (readyG.cons (by rfl) (fun K hK => ?_) (readyG.nil))
              go_simp
              refine hK.out _ _ (fun h => absurd (show true = false from h) (by decide)) ?_
              clear hK K
              (try simp only [Act.put, List.setIfInBounds_toArray, List.set_cons_zero, List.set_cons_succ])
              refine anyG_ready (rs := [15]) (by kernel_rfl) (by simp) (readyG.cons (by rfl) (fun K hK => ?_) (readyG.nil))
              have q3 := (blk_cell HB.out.bw 4).trans rfl
              have q3f := blk_frozen HB.out.bw 4
              go_simp
              refine hK.out _ _ (fun h => absurd (show true = false from h) (by decide)) ?_
              clear hK K q3 q3f
              (try simp only [Act.put, List.setIfInBounds_toArray, List.set_cons_zero, List.set_cons_succ])
              refine bl0 (HB.out.put_l _) ?_
              clear HB
              intro Wc HB
              refine anyG_ready (rs := [16]) (by kernel_rfl) (by simp) (readyG.cons (by rfl) (fun K hK => ?_) (readyG.nil))
              go_simp
              refine hK.out _ _ (fun h => absurd (show true = false from h) (by decide)) ?_
              clear hK K
              (try simp only [Act.put, List.setIfInBounds_toArray, List.set_cons_zero, List.set_cons_succ])
              refine anyG_ready (rs := [17]) (by kernel_rfl) (by simp) (readyG.cons (by rfl) (fun K hK => ?_) (readyG.nil))
              have q3 := (blk_cell HB.out.bw 5).trans rfl
              have q3f := blk_frozen HB.out.bw 5
              go_simp
              refine hK.out _ _ (fun h => absurd (show true = false from h) (by decide)) ?_
              clear hK K q3 q3f
              (try simp only [Act.put, List.setIfInBounds_toArray, List.set_cons_zero, List.set_cons_succ])
              refine bl0 (HB.out.put_u _) ?_
              clear HB
              intro Wc HB
              refine anyG_done (by kernel_rfl) ?_
              go_wp2
              go_meet
              case rel => exact ⟨rfl, _, _, HB.out⟩
          · go_simp
            refine hK.out _ _ (fun _ => of7 (HB.out.alloc _).bw) ?_
            clear hK K
            (try simp only [Act.put, List.setIfInBounds_toArray, List.set_cons_zero, List.set_cons_succ])
            have hg := HB.out.lay [.int .i64 0] 3
            generalize Wc.heap.size = g2 at hg ⊢
            refine bl2 (HB.out.alloc _) (HG3.out.alloc _) (hg) ?_
            clear HB HG3
            intro Wc HB HG3 HG2
            clear hg
            refine anyG_ready (rs := [2]) (by kernel_rfl) (by simp) (readyG.cons (by rfl) (fun K hK => ?_) (readyG.nil))
            go_simp
            refine hK.out _ _ (fun _ => of7 (HB.out.alloc _).bw) ?_
            clear hK K
            (try simp only [Act.put, List.setIfInBounds_toArray, List.set_cons_zero, List.set_cons_succ])
            have hg := HB.out.lay [.int .i64 0] 2
            generalize Wc.heap.size = g1 at hg ⊢
            refine bl3 (HB.out.alloc _) (HG3.out.alloc _) (HG2.out.alloc _) (hg) ?_
            clear HB HG3 HG2
            intro Wc HB HG3 HG2 HG1
            clear hg
            refine anyG_ready (rs := [3]) (by kernel_rfl) (by simp) (readyG.cons (by rfl) (fun K hK => ?_) (readyG.nil))
            refine HB.out.app_c (by rfl) (.tmp 36) (.tmp 37) (by rfl) (by rfl) g1 (by rfl) 0 HG1.out (show (ini n m).clock.length ≤ 10 by simp [ini]; omega) ?_
            intro v Wd tg hB hL
            obtain ⟨V1, e1, hv⟩ := Kd.R_slice hB.nw.c
            dsimp only at hv
            rw [List.length_append, List.length_singleton] at hv
            subst hv
            refine hK.out _ _ (fun _ => of7 hB.bw) ?_
            clear hK K
            (try simp only [Act.put, List.setIfInBounds_toArray, List.set_cons_zero, List.set_cons_succ])
            refine bl2 (hB) (hL _ _ _ HG3.out) (hL _ _ _ HG2.out) ?_
            clear hB hL HB HG3 HG2 HG1
            intro Wc HB HG3 HG2
            refine anyG_take (i := 12) [13] (v := ?_) rfl (by kernel_rfl) (fun _ _ _ h => h) (Or.inl ⟨by rfl, ?_⟩) (of7 HB.out.bw) ?_
            rotate_left
            · intro w' hS; (try dsimp only at hS); go_simp; (try with_reducible rfl)
            (try simp only [Act.put, List.setIfInBounds_toArray, List.set_cons_zero, List.set_cons_succ])
            refine anyG_ready (rs := [7]) (by kernel_rfl) (by simp) (readyG.cons (by rfl) (fun K hK => ?_) (readyG.nil))
            refine HB.out.app_l (by rfl) (.tmp 40) (.tmp 41) (by rfl) (by rfl) g2 (by rfl) 0 HG2.out (show (ini n m).life.length ≤ 10 by simp [ini]; omega) ?_
            intro v Wd tg hB hL
            obtain ⟨V2, e2, hv⟩ := Kd.R_slice hB.nw.l
            dsimp only at hv
            rw [List.length_append, List.length_singleton] at hv
            subst hv
            refine hK.out _ _ (fun _ => of7 hB.bw) ?_
            clear hK K
            (try simp only [Act.put, List.setIfInBounds_toArray, List.set_cons_zero, List.set_cons_succ])
            refine bl1 (hB) (hL _ _ _ HG3.out) ?_
            clear hB hL HB HG3 HG2
            intro Wc HB HG3
            refine anyG_ready (rs := [11]) (by kernel_rfl) (by simp) (readyG.cons (by rfl) (fun K hK => ?_) (readyG.nil))
            refine HB.out.app_u (by rfl) (.tmp 44) (.tmp 45) (by rfl) (by rfl) g3 (by rfl) true HG3.out (show (ini n m).up.length ≤ 10 by simp [ini]; omega) ?_
            intro v Wd tg hB hL
            obtain ⟨V3, e3, hv⟩ := Kd.R_slice hB.nw.u
            dsimp only at hv
            rw [List.length_append, List.length_singleton] at hv
            subst hv
            refine hK.out _ _ (fun _ => of7 hB.bw) ?_
            clear hK K
            (try simp only [Act.put, List.setIfInBounds_toArray, List.set_cons_zero, List.set_cons_succ])
            refine bl0 (hB) ?_
            clear hB hL HB HG3
            intro Wc HB
            refine anyG_ready (rs := [13]) (by kernel_rfl) (by simp) (readyG.cons (by rfl) (fun K hK => ?_) (readyG.nil))
            have q3 := (blk_cell HB.out.bw 3).trans rfl
            have q3f := blk_frozen HB.out.bw 3
            go_simp
            refine hK.out _ _ (fun h => absurd (show true = false from h) (by decide)) ?_
            clear hK K q3 q3f
            (try simp only [Act.put, List.setIfInBounds_toArray, List.set_cons_zero, List.set_cons_succ])
            refine bl0 (HB.out.put_c _) ?_
            clear HB
            intro Wc HB
            refine anyG_ready (rs := [14]) (by kernel_rfl) (by simp) (readyG.cons (by rfl) (fun K hK => ?_) (readyG.nil))
            go_simp
            refine hK.out _ _ (fun h => absurd (show true = false from h) (by decide)) ?_
            clear hK K
            (try simp only [Act.put, List.setIfInBounds_toArray, List.set_cons_zero, List.set_cons_succ])
            refine anyG_ready (rs := [15]) (by kernel_rfl) (by simp) (readyG.cons (by rfl) (fun K hK => ?_) (readyG.nil))
            have q3 := (blk_cell HB.out.bw 4).trans rfl
            have q3f := blk_frozen HB.out.bw 4
            go_simp
            refine hK.out _ _ (fun h => absurd (show true = false from h) (by decide)) ?_
            clear hK K q3 q3f
            (try simp only [Act.put, List.setIfInBounds_toArray, List.set_cons_zero, List.set_cons_succ])
            refine bl0 (HB.out.put_l _) ?_
            clear HB
            intro Wc HB
            refine anyG_ready (rs := [16]) (by kernel_rfl) (by simp) (readyG.cons (by rfl) (fun K hK => ?_) (readyG.nil))
            go_simp
            refine hK.out _ _ (fun h => absurd (show true = false from h) (by decide)) ?_
            clear hK K
            (try simp only [Act.put, List.setIfInBounds_toArray, List.set_cons_zero, List.set_cons_succ])
            refine anyG_ready (rs := [17]) (by kernel_rfl) (by simp) (readyG.cons (by rfl) (fun K hK => ?_) (readyG.nil))
            have q3 := (blk_cell HB.out.bw 5).trans rfl
            have q3f := blk_frozen HB.out.bw 5
            go_simp
            refine hK.out _ _ (fun h => absurd (show true = false from h) (by decide)) ?_
            clear hK K q3 q3f
            (try simp only [Act.put, List.setIfInBounds_toArray, List.set_cons_zero, List.set_cons_succ])
            refine bl0 (HB.out.put_u _) ?_
            clear HB
            intro Wc HB
            refine anyG_done (by kernel_rfl) ?_
            go_wp2
            go_meet
            case rel => exact ⟨rfl, _, _, HB.out⟩
      case rest =>
        obtain ⟨rfl, x1, tg, hB⟩ := hcut
        obtain ⟨A1, A2, A3, A4, A5, A6, A7, A8, c1, c2, c3, c4, c5, c6, c7, c8, hx⟩ := hB.nw.open
        obtain ⟨raw, vc, vl, vu, vv, vd, vr, vg, vb⟩ := x1
        injection hx with hx0 hx1 hx2 hx3 hx4 hx5 hx6 hx7 hx8
        subst hx1 hx2 hx3 hx4 hx5 hx6 hx7 hx8
        clear hx0
        have HB := Lib.hid hB
        clear hB
        go_upto_region 8 with (fail)
        refine anyG_start 11 (fun w' => w'.cell? ⟨gw, 6, none⟩ = some (.slice A4 (ini n m).votes.length c4) ∧ w'.cell? ⟨gw, 7, none⟩ = some (.slice A5 (ini n m).leads.length c5) ∧ w'.cell? ⟨gl, 0, none⟩ = some (.int .u64 0) ∧ w'.cell? ⟨gl, 1, none⟩ = some (.slice Ar n cr)) (by kernel_rfl) ?_
        refine bl0 (HB.out.below (below_drew (Below.refl _ _))) ?_
        clear HB
        intro Wc HB
        refine anyG_take (i := 0) [11] (v := ?_) rfl (by kernel_rfl) (fun _ _ _ h => h) (Or.inl ⟨by rfl, ?_⟩) (of8 HB.out.bw HB.out.bl) ?_
        rotate_left
        · intro w' hS; (try dsimp only at hS); go_simp; (try with_reducible rfl)
        (try simp only [Act.put, List.setIfInBounds_toArray, List.set_cons_zero, List.set_cons_succ])
        refine anyG_take (i := 1) [11] (v := ?_) rfl (by kernel_rfl) (fun _ _ _ h => h) (Or.inl ⟨by rfl, ?_⟩) (of8 HB.out.bw HB.out.bl) ?_
        rotate_left
        · intro w' hS; (try dsimp only at hS); go_simp; (try with_reducible rfl)
        (try simp only [Act.put, List.setIfInBounds_toArray, List.set_cons_zero, List.set_cons_succ])
        refine anyG_take (i := 5) [11] (v := ?_) rfl (by kernel_rfl) (fun _ _ _ h => h) (Or.inl ⟨by rfl, ?_⟩) (of8 HB.out.bw HB.out.bl) ?_
        rotate_left
        · intro w' hS; (try dsimp only at hS); go_simp; (try with_reducible rfl)
        (try simp only [Act.put, List.setIfInBounds_toArray, List.set_cons_zero, List.set_cons_succ])
        refine anyG_take (i := 6) [11] (v := ?_) rfl (by kernel_rfl) (fun _ _ _ h => h) (Or.inl ⟨by rfl, ?_⟩) (of8 HB.out.bw HB.out.bl) ?_
        rotate_left
        · intro w' hS; (try dsimp only at hS); go_simp; (try with_reducible rfl)
        (try simp only [Act.put, List.setIfInBounds_toArray, List.set_cons_zero, List.set_cons_succ])
        refine anyG_take (i := 7) [11, 9, 8] (v := ?_) rfl (by kernel_rfl) (fun _ _ _ h => h) (Or.inl ⟨by rfl, ?_⟩) (of8 HB.out.bw HB.out.bl) ?_
        rotate_left
        · intro w' hS; (try dsimp only at hS); go_simp; (try with_reducible rfl)
        (try simp only [Act.put, List.setIfInBounds_toArray, List.set_cons_zero, List.set_cons_succ])
        refine anyG_ready (rs := [2, 8]) (by kernel_rfl) (by simp) (readyG.cons (by rfl) (fun K hK => ?_) (readyG.cons (by rfl) (fun K hK => ?_) (readyG.nil)))
        · go_simp
          refine (vote_New.calls 0 (-1) 0 0 _ rfl).mono ?_
          rintro e w1 ⟨rfl, hb⟩
          try go_simp
          refine hK.out _ _ (fun _ => of8 (HB.out.below hb).bw (HB.out.below hb).bl) ?_
          clear hK K
          (try simp only [Act.put, List.setIfInBounds_toArray, List.set_cons_zero, List.set_cons_succ])
          refine bl0 (HB.out.below hb) ?_
          clear HB
          intro Wc HB
          clear hb
          refine anyG_ready (rs := [3, 8]) (by kernel_rfl) (by simp) (readyG.cons (by rfl) (fun K hK => ?_) (readyG.cons (by rfl) (fun K hK => ?_) (readyG.nil)))
          · go_simp
            refine hK.out _ _ (fun _ => of8 (HB.out.alloc _).bw (HB.out.alloc _).bl) ?_
            clear hK K
            (try simp only [Act.put, List.setIfInBounds_toArray, List.set_cons_zero, List.set_cons_succ])
            have hg := HB.out.lay [.int .u64 0, .int .i64 (-1), .int .i64 0, .int .i64 0] 38
            generalize Wc.heap.size = g4 at hg ⊢
            refine bl1 (HB.out.alloc _) (hg) ?_
            clear HB
            intro Wc HB HG4
            clear hg
            refine anyG_ready (rs := [4, 8]) (by kernel_rfl) (by simp) (readyG.cons (by rfl) (fun K hK => ?_) (readyG.cons (by rfl) (fun K hK => ?_) (readyG.nil)))
            · refine HB.out.app_v (by rfl) (.tmp 51) (.tmp 53) (by rfl) (by rfl) g4 (by rfl) (⟨0, -1, 0, 0⟩ : S38) HG4.out (show (ini n m).votes.length ≤ 10 by simp [ini]; omega) ?_
              intro v Wd tg hB hL
              obtain ⟨V4, e4, hv⟩ := Kd.R_slice hB.nw.v
              dsimp only at hv
              rw [List.length_append, List.length_singleton] at hv
              subst hv
              refine hK.out _ _ (fun _ => of8 hB.bw hB.bl) ?_
              clear hK K
              (try simp only [Act.put, List.setIfInBounds_toArray, List.set_cons_zero, List.set_cons_succ])
              refine bl0 (hB) ?_
              clear hB hL HB HG4
              intro Wc HB
              refine anyG_take (i := 10) [11] (v := ?_) rfl (by kernel_rfl) (fun _ _ _ h => h) (Or.inl ⟨by rfl, ?_⟩) (of8 HB.out.bw HB.out.bl) ?_
              rotate_left
              · intro w' hS; (try dsimp only at hS); go_simp; (try with_reducible rfl)
              (try simp only [Act.put, List.setIfInBounds_toArray, List.set_cons_zero, List.set_cons_succ])
              refine anyG_ready (rs := [8]) (by kernel_rfl) (by simp) (readyG.cons (by rfl) (fun K hK => ?_) (readyG.nil))
              go_simp
              refine hK.out _ _ (fun _ => of8 (HB.out.alloc _).bw (HB.out.alloc _).bl) ?_
              clear hK K
              (try simp only [Act.put, List.setIfInBounds_toArray, List.set_cons_zero, List.set_cons_succ])
              have hg := HB.out.lay [.int .u64 0, .slice Ar n cr] 52
              generalize Wc.heap.size = g5 at hg ⊢
              refine bl1 (HB.out.alloc _) (hg) ?_
              clear HB
              intro Wc HB HG5
              clear hg
              refine anyG_ready (rs := [9]) (by kernel_rfl) (by simp) (readyG.cons (by rfl) (fun K hK => ?_) (readyG.nil))
              refine HB.out.app_d (by rfl) (.tmp 56) (.tmp 58) (by rfl) (by rfl) g5 (by rfl) HG5.out (show (ini n m).leads.length ≤ 10 by simp [ini]; omega) ?_
              intro v Wd tg hB hL
              obtain ⟨V5, e5, hv⟩ := Kd.R_slice hB.nw.d
              dsimp only at hv
              rw [List.length_append, List.length_singleton] at hv
              subst hv
              refine hK.out _ _ (fun _ => of8 hB.bw hB.bl) ?_
              clear hK K
              (try simp only [Act.put, List.setIfInBounds_toArray, List.set_cons_zero, List.set_cons_succ])
              refine bl0 (hB) ?_
              clear hB hL HB HG5
              intro Wc HB
              refine anyG_ready (rs := [11]) (by kernel_rfl) (by simp) (readyG.cons (by rfl) (fun K hK => ?_) (readyG.nil))
              have q3 := (blk_cell HB.out.bw 6).trans rfl
              have q3f := blk_frozen HB.out.bw 6
              go_simp
              refine hK.out _ _ (fun h => absurd (show true = false from h) (by decide)) ?_
              clear hK K q3 q3f
              (try simp only [Act.put, List.setIfInBounds_toArray, List.set_cons_zero, List.set_cons_succ])
              refine bl0 (HB.out.put_v _) ?_
              clear HB
              intro Wc HB
              refine anyG_ready (rs := [12]) (by kernel_rfl) (by simp) (readyG.cons (by rfl) (fun K hK => ?_) (readyG.nil))
              go_simp
              refine hK.out _ _ (fun h => absurd (show true = false from h) (by decide)) ?_
              clear hK K
              (try simp only [Act.put, List.setIfInBounds_toArray, List.set_cons_zero, List.set_cons_succ])
              refine anyG_ready (rs := [13]) (by kernel_rfl) (by simp) (readyG.cons (by rfl) (fun K hK => ?_) (readyG.nil))
              have q3 := (blk_cell HB.out.bw 7).trans rfl
              have q3f := blk_frozen HB.out.bw 7
              go_simp
              refine hK.out _ _ (fun h => absurd (show true = false from h) (by decide)) ?_
              clear hK K q3 q3f
              (try simp only [Act.put, List.setIfInBounds_toArray, List.set_cons_zero, List.set_cons_succ])
              refine bl0 (HB.out.put_d _) ?_
              clear HB
              intro Wc HB
              refine anyG_done (by kernel_rfl) ?_
              go_wp2
              go_roundg (n - (m + 1))
              case measure => have := a2.out; omega
              case rel => exact ⟨m + 1, by first | rfl | go_num | (simp; done), ⟨by omega⟩, ⟨by omega⟩, _, tg, ⟨by rw [← ini_succ]; exact HB.out.bb⟩⟩
            · go_simp
              refine hK.out _ _ (fun _ => of8 (HB.out.alloc _).bw (HB.out.alloc _).bl) ?_
              clear hK K
              (try simp only [Act.put, List.setIfInBounds_toArray, List.set_cons_zero, List.set_cons_succ])
              have hg := HB.out.lay [.int .u64 0, .slice Ar n cr] 52
              generalize Wc.heap.size = g5 at hg ⊢
              refine bl2 (HB.out.alloc _) (HG4.out.alloc _) (hg) ?_
              clear HB HG4
              intro Wc HB HG4 HG5
              clear hg
              refine anyG_ready (rs := [4]) (by kernel_rfl) (by simp) (readyG.cons (by rfl) (fun K hK => ?_) (readyG.nil))
              refine HB.out.app_v (by rfl) (.tmp 51) (.tmp 53) (by rfl) (by rfl) g4 (by rfl) (⟨0, -1, 0, 0⟩ : S38) HG4.out (show (ini n m).votes.length ≤ 10 by simp [ini]; omega) ?_
              intro v Wd tg hB hL
              obtain ⟨V4, e4, hv⟩ := Kd.R_slice hB.nw.v
              dsimp only at hv
              rw [List.length_append, List.length_singleton] at hv
              subst hv
              refine hK.out _ _ (fun _ => of8 hB.bw hB.bl) ?_
              clear hK K
              (try simp only [Act.put, List.setIfInBounds_toArray, List.set_cons_zero, List.set_cons_succ])
              refine bl1 (hB) (hL _ _ _ HG5.out) ?_
              clear hB hL HB HG4 HG5
              intro Wc HB HG5
              refine anyG_take (i := 10) [11] (v := ?_) rfl (by kernel_rfl) (fun _ _ _ h => h) (Or.inl ⟨by rfl, ?_⟩) (of8 HB.out.bw HB.out.bl) ?_
              rotate_left
              · intro w' hS; (try dsimp only at hS); go_simp; (try with_reducible rfl)
              (try simp only [Act.put, List.setIfInBounds_toArray, List.set_cons_zero, List.set_cons_succ])
              refine anyG_ready (rs := [9]) (by kernel_rfl) (by simp) (readyG.cons (by rfl) (fun K hK => ?_) (readyG.nil))
              refine HB.out.app_d (by rfl) (.tmp 56) (.tmp 58) (by rfl) (by rfl) g5 (by rfl) HG5.out (show (ini n m).leads.length ≤ 10 by simp [ini]; omega) ?_
              intro v Wd tg hB hL
              obtain ⟨V5, e5, hv⟩ := Kd.R_slice hB.nw.d
              dsimp only at hv
              rw [List.length_append, List.length_singleton] at hv
              subst hv
              refine hK.out _ _ (fun _ => of8 hB.bw hB.bl) ?_
              clear hK K
              (try simp only [Act.put, List.setIfInBounds_toArray, List.set_cons_zero, List.set_cons_succ])
              refine bl0 (hB) ?_
              clear hB hL HB HG5
              intro Wc HB
              refine anyG_ready (rs := [11]) (by kernel_rfl) (by simp) (readyG.cons (by rfl) (fun K hK => ?_) (readyG.nil))
              have q3 := (blk_cell HB.out.bw 6).trans rfl
              have q3f := blk_frozen HB.out.bw 6
              go_simp
              refine hK.out _ _ (fun h => absurd (show true = false from h) (by decide)) ?_
              clear hK K q3 q3f
              (try simp only [Act.put, List.setIfInBounds_toArray, List.set_cons_zero, List.set_cons_succ])
              refine bl0 (HB.out.put_v _) ?_
              clear HB
              intro Wc HB
              refine anyG_ready (rs := [12]) (by kernel_rfl) (by simp) (readyG.cons (by rfl) (fun K hK => ?_) (readyG.nil))
              go_simp
              refine hK.out _ _ (fun h => absurd (show true = false from h) (by decide)) ?_
              clear hK K
              (try simp only [Act.put, List.setIfInBounds_toArray, List.set_cons_zero, List.set_cons_succ])
              refine anyG_ready (rs := [13]) (by kernel_rfl) (by simp) (readyG.cons (by rfl) (fun K hK => ?_) (readyG.nil))
              have q3 := (blk_cell HB.out.bw 7).trans rfl
              have q3f := blk_frozen HB.out.bw 7
              go_simp
              refine hK.out _ _ (fun h => absurd (show true = false from h) (by decide)) ?_
              clear hK K q3 q3f
              (try simp only [Act.put, List.setIfInBounds_toArray, List.set_cons_zero, List.set_cons_succ])
              refine bl0 (HB.out.put_d _) ?_
              clear HB
              intro Wc HB
              refine anyG_done (by kernel_rfl) ?_
              go_wp2
              go_roundg (n - (m + 1))
              case measure => have := a2.out; omega
              case rel => exact ⟨m + 1, by first | rfl | go_num | (simp; done), ⟨by omega⟩, ⟨by omega⟩, _, tg, ⟨by rw [← ini_succ]; exact HB.out.bb⟩⟩
          · go_simp
            refine hK.out _ _ (fun _ => of8 (HB.out.alloc _).bw (HB.out.alloc _).bl) ?_
            clear hK K
            (try simp only [Act.put, List.setIfInBounds_toArray, List.set_cons_zero, List.set_cons_succ])
            have hg := HB.out.lay [.int .u64 0, .slice Ar n cr] 52
            generalize Wc.heap.size = g5 at hg ⊢
            refine bl1 (HB.out.alloc _) (hg) ?_
            clear HB
            intro Wc HB HG5
            clear hg
            refine anyG_ready (rs := [3]) (by kernel_rfl) (by simp) (readyG.cons (by rfl) (fun K hK => ?_) (readyG.nil))
            go_simp
            refine hK.out _ _ (fun _ => of8 (HB.out.alloc _).bw (HB.out.alloc _).bl) ?_
            clear hK K
            (try simp only [Act.put, List.setIfInBounds_toArray, List.set_cons_zero, List.set_cons_succ])
            have hg := HB.out.lay [.int .u64 0, .int .i64 (-1), .int .i64 0, .int .i64 0] 38
            generalize Wc.heap.size = g4 at hg ⊢
            refine bl2 (HB.out.alloc _) (HG5.out.alloc _) (hg) ?_
            clear HB HG5
            intro Wc HB HG5 HG4
            clear hg
            refine anyG_ready (rs := [4]) (by kernel_rfl) (by simp) (readyG.cons (by rfl) (fun K hK => ?_) (readyG.nil))
            refine HB.out.app_v (by rfl) (.tmp 51) (.tmp 53) (by rfl) (by rfl) g4 (by rfl) (⟨0, -1, 0, 0⟩ : S38) HG4.out (show (ini n m).votes.length ≤ 10 by simp [ini]; omega) ?_
            intro v Wd tg hB hL
            obtain ⟨V4, e4, hv⟩ := Kd.R_slice hB.nw.v
            dsimp only at hv
            rw [List.length_append, List.length_singleton] at hv
            subst hv
            refine hK.out _ _ (fun _ => of8 hB.bw hB.bl) ?_
            clear hK K
            (try simp only [Act.put, List.setIfInBounds_toArray, List.set_cons_zero, List.set_cons_succ])
            refine bl1 (hB) (hL _ _ _ HG5.out) ?_
            clear hB hL HB HG5 HG4
            intro Wc HB HG5
            refine anyG_take (i := 10) [11] (v := ?_) rfl (by kernel_rfl) (fun _ _ _ h => h) (Or.inl ⟨by rfl, ?_⟩) (of8 HB.out.bw HB.out.bl) ?_
            rotate_left
            · intro w' hS; (try dsimp only at hS); go_simp; (try with_reducible rfl)
            (try simp only [Act.put, List.setIfInBounds_toArray, List.set_cons_zero, List.set_cons_succ])
            refine anyG_ready (rs := [9]) (by kernel_rfl) (by simp) (readyG.cons (by rfl) (fun K hK => ?_) (readyG.nil))
            refine HB.out.app_d (by rfl) (.tmp 56) (.tmp 58) (by rfl) (by rfl) g5 (by rfl) HG5.out (show (ini n m).leads.length ≤ 10 by simp [ini]; omega) ?_
            intro v Wd tg hB hL
            obtain ⟨V5, e5, hv⟩ := Kd.R_slice hB.nw.d
            dsimp only at hv
            rw [List.length_append, List.length_singleton] at hv
            subst hv
            refine hK.out _ _ (fun _ => of8 hB.bw hB.bl) ?_
            clear hK K
            (try simp only [Act.put, List.setIfInBounds_toArray, List.set_cons_zero, List.set_cons_succ])
            refine bl0 (hB) ?_
            clear hB hL HB HG5
            intro Wc HB
            refine anyG_ready (rs := [11]) (by kernel_rfl) (by simp) (readyG.cons (by rfl) (fun K hK => ?_) (readyG.nil))
            have q3 := (blk_cell HB.out.bw 6).trans rfl
            have q3f := blk_frozen HB.out.bw 6
            go_simp
            refine hK.out _ _ (fun h => absurd (show true = false from h) (by decide)) ?_
            clear hK K q3 q3f
            (try simp only [Act.put, List.setIfInBounds_toArray, List.set_cons_zero, List.set_cons_succ])
            refine bl0 (HB.out.put_v _) ?_
            clear HB
            intro Wc HB
            refine anyG_ready (rs := [12]) (by kernel_rfl) (by simp) (readyG.cons (by rfl) (fun K hK => ?_) (readyG.nil))
            go_simp
            refine hK.out _ _ (fun h => absurd (show true = false from h) (by decide)) ?_
            clear hK K
            (try simp only [Act.put, List.setIfInBounds_toArray, List.set_cons_zero, List.set_cons_succ])
            refine anyG_ready (rs := [13]) (by kernel_rfl) (by simp) (readyG.cons (by rfl) (fun K hK => ?_) (readyG.nil))
            have q3 := (blk_cell HB.out.bw 7).trans rfl
            have q3f := blk_frozen HB.out.bw 7
            go_simp
            refine hK.out _ _ (fun h => absurd (show true = false from h) (by decide)) ?_
            clear hK K q3 q3f
            (try simp only [Act.put, List.setIfInBounds_toArray, List.set_cons_zero, List.set_cons_succ])
            refine bl0 (HB.out.put_d _) ?_
            clear HB
            intro Wc HB
            refine anyG_done (by kernel_rfl) ?_
            go_wp2
            go_roundg (n - (m + 1))
            case measure => have := a2.out; omega
            case rel => exact ⟨m + 1, by first | rfl | go_num | (simp; done), ⟨by omega⟩, ⟨by omega⟩, _, tg, ⟨by rw [← ini_succ]; exact HB.out.bb⟩⟩
        · go_simp
          refine hK.out _ _ (fun _ => of8 (HB.out.alloc _).bw (HB.out.alloc _).bl) ?_
          clear hK K
          (try simp only [Act.put, List.setIfInBounds_toArray, List.set_cons_zero, List.set_cons_succ])
          have hg := HB.out.lay [.int .u64 0, .slice Ar n cr] 52
          generalize Wc.heap.size = g5 at hg ⊢
          refine bl1 (HB.out.alloc _) (hg) ?_
          clear HB
          intro Wc HB HG5
          clear hg
          refine anyG_ready (rs := [2]) (by kernel_rfl) (by simp) (readyG.cons (by rfl) (fun K hK => ?_) (readyG.nil))
          go_simp
          refine (vote_New.calls 0 (-1) 0 0 _ rfl).mono ?_
          rintro e w1 ⟨rfl, hb⟩
          try go_simp
          refine hK.out _ _ (fun _ => of8 (HB.out.below hb).bw (HB.out.below hb).bl) ?_
          clear hK K
          (try simp only [Act.put, List.setIfInBounds_toArray, List.set_cons_zero, List.set_cons_succ])
          refine bl1 (HB.out.below hb) (HG5.out.below hb) ?_
          clear HB HG5
          intro Wc HB HG5
          clear hb
          refine anyG_ready (rs := [3]) (by kernel_rfl) (by simp) (readyG.cons (by rfl) (fun K hK => ?_) (readyG.nil))
          go_simp
          refine hK.out _ _ (fun _ => of8 (HB.out.alloc _).bw (HB.out.alloc _).bl) ?_
          clear hK K
          (try simp only [Act.put, List.setIfInBounds_toArray, List.set_cons_zero, List.set_cons_succ])
          have hg := HB.out.lay [.int .u64 0, .int .i64 (-1), .int .i64 0, .int .i64 0] 38
          generalize Wc.heap.size = g4 at hg ⊢
          refine bl2 (HB.out.alloc _) (HG5.out.alloc _) (hg) ?_
          clear HB HG5
          intro Wc HB HG5 HG4
          clear hg
          refine anyG_ready (rs := [4]) (by kernel_rfl) (by simp) (readyG.cons (by rfl) (fun K hK => ?_) (readyG.nil))
          refine HB.out.app_v (by rfl) (.tmp 51) (.tmp 53) (by rfl) (by rfl) g4 (by rfl) (⟨0, -1, 0, 0⟩ : S38) HG4.out (show (ini n m).votes.length ≤ 10 by simp [ini]; omega) ?_
          intro v Wd tg hB hL
          obtain ⟨V4, e4, hv⟩ := Kd.R_slice hB.nw.v
          dsimp only at hv
          rw [List.length_append, List.length_singleton] at hv
          subst hv
          refine hK.out _ _ (fun _ => of8 hB.bw hB.bl) ?_
          clear hK K
          (try simp only [Act.put, List.setIfInBounds_toArray, List.set_cons_zero, List.set_cons_succ])
          refine bl1 (hB) (hL _ _ _ HG5.out) ?_
          clear hB hL HB HG5 HG4
          intro Wc HB HG5
          refine anyG_take (i := 10) [11] (v := ?_) rfl (by kernel_rfl) (fun _ _ _ h => h) (Or.inl ⟨by rfl, ?_⟩) (of8 HB.out.bw HB.out.bl) ?_
          rotate_left
          · intro w' hS; (try dsimp only at hS); go_simp; (try with_reducible rfl)
          (try simp only [Act.put, List.setIfInBounds_toArray, List.set_cons_zero, List.set_cons_succ])
          refine anyG_ready (rs := [9]) (by kernel_rfl) (by simp) (readyG.cons (by rfl) (fun K hK => ?_) (readyG.nil))
          refine HB.out.app_d (by rfl) (.tmp 56) (.tmp 58) (by rfl) (by rfl) g5 (by rfl) HG5.out (show (ini n m).leads.length ≤ 10 by simp [ini]; omega) ?_
          intro v Wd tg hB hL
          obtain ⟨V5, e5, hv⟩ := Kd.R_slice hB.nw.d
          dsimp only at hv
          rw [List.length_append, List.length_singleton] at hv
          subst hv
          refine hK.out _ _ (fun _ => of8 hB.bw hB.bl) ?_
          clear hK K
          (try simp only [Act.put, List.setIfInBounds_toArray, List.set_cons_zero, List.set_cons_succ])
          refine bl0 (hB) ?_
          clear hB hL HB HG5
          intro Wc HB
          refine anyG_ready (rs := [11]) (by kernel_rfl) (by simp) (readyG.cons (by rfl) (fun K hK => ?_) (readyG.nil))
          have q3 := (blk_cell HB.out.bw 6).trans rfl
          have q3f := blk_frozen HB.out.bw 6
          go_simp
          refine hK.out _ _ (fun h => absurd (show true = false from h) (by decide)) ?_
          clear hK K q3 q3f
          (try simp only [Act.put, List.setIfInBounds_toArray, List.set_cons_zero, List.set_cons_succ])
          refine bl0 (HB.out.put_v _) ?_
          clear HB
          intro Wc HB
          refine anyG_ready (rs := [12]) (by kernel_rfl) (by simp) (readyG.cons (by rfl) (fun K hK => ?_) (readyG.nil))
          go_simp
          refine hK.out _ _ (fun h => absurd (show true = false from h) (by decide)) ?_
          clear hK K
          (try simp only [Act.put, List.setIfInBounds_toArray, List.set_cons_zero, List.set_cons_succ])
          refine anyG_ready (rs := [13]) (by kernel_rfl) (by simp) (readyG.cons (by rfl) (fun K hK => ?_) (readyG.nil))
          have q3 := (blk_cell HB.out.bw 7).trans rfl
          have q3f := blk_frozen HB.out.bw 7
          go_simp
          refine hK.out _ _ (fun h => absurd (show true = false from h) (by decide)) ?_
          clear hK K q3 q3f
          (try simp only [Act.put, List.setIfInBounds_toArray, List.set_cons_zero, List.set_cons_succ])
          refine bl0 (HB.out.put_d _) ?_
          clear HB
          intro Wc HB
          refine anyG_done (by kernel_rfl) ?_
          go_wp2
          go_roundg (n - (m + 1))
          case measure => have := a2.out; omega
          case rel => exact ⟨m + 1, by first | rfl | go_num | (simp; done), ⟨by omega⟩, ⟨by omega⟩, _, tg, ⟨by rw [← ini_succ]; exact HB.out.bb⟩⟩
    · have e : m = n := by have := a1.out; omega
      subst e
      go_upto_region 9 with (fail)
      refine reg_ret5 62 (gw := gw) (gs := gs) (by rfl) (by rfl) (by rfl) (by rfl) (by rfl) (by rfl) (by rfl) (by rfl) (by rfl) a3.out.bw a3.out.bs (by rfl) (by rfl) (by simp [Value.oneCell']) ?_
      go_wp2
      exact bodyPost_ret (results_cell_row rfl _ _ gs 80 _ (0, 0) _ (by rfl) (setRow_heap _ gs _ _ 80 (0, 0) a3.out.bs) Try.underlying80 rfl info80s) rfl ⟨_, tag, rfl, a3.out.nw.setRow a3.out.ts a3.out.s_ (Nat.le_trans a3.out.b0 a3.out.s_) _⟩
end Go.Proofs.Ytgfblogneggpmaa.One
namespace Go.Proofs.Ytgfblogneggpmaa.One
open Go.RowKit Go.Proofs.Ytgfblogneggpmaa.Fn Go.Proofs.YtgfblogneggpmaaW.PrintWords Go.Proofs.YtgfblogneggpmaaW.PrintLast Go.Proofs.YtgfblogneggpmaaW.PrintMore Go.Proofs.Ytgfblogneggpmaa.Vote Go.Proofs.Ytgfblogneggpmaa.Clk Go.Proofs.Ytgfblogneggpmaa.Thr
set_option linter.unusedVariables false
set_option linter.unusedSimpArgs false
set_option maxRecDepth 100000
/-- Something that happens. -/
structure Hap where
  f0 : Int
  f1 : Int
  f2 : Int
def zhap : Hap := ⟨(0 : Int), (0 : Int), (0 : Int)⟩
def khap : Kd Hap := Kd.iso (Kd.pair (Kd.int .u8) (Kd.pair (Kd.int .u8) (Kd.int .u8))) (fun x : Hap => (x.f0, x.f1, x.f2))
theorem khap_open {w : World} {x : Hap} {cs : List Value} (h : khap.K w x cs) : cs = [.int .u8 x.f0, .int .u8 x.f1, .int .u8 x.f2] := by
  obtain ⟨_, _, rfl, rfl, ⟨_, _, rfl, rfl, rfl⟩⟩ := h
  exact rfl
theorem at_hap {w : World} {A : Option Addr} {n : Nat} {xs : List Hap} (h : Kd.C khap w A n xs) (i : Nat) (h1 : i < n) : ∃ ad, A = some ad ∧ w.cell? (ad.add (i * 3)) = some (.int .u8 (xs.getD i zhap).f0) ∧ w.cell? ⟨(ad.add (i * 3)).block, (ad.add (i * 3)).off + 1, none⟩ = some (.int .u8 (xs.getD i zhap).f1) ∧ w.cell? ⟨(ad.add (i * 3)).block, (ad.add (i * 3)).off + 2, none⟩ = some (.int .u8 (xs.getD i zhap).f2) := by
  obtain ⟨ad, c, e, _, hK, hc0⟩ := Kd.C_get h zhap (i : Int) (by omega) (by omega)
  have hc : ∀ j u, c[j]? = some u → w.cell? (ad.add (i * 3 + j)) = some u := hc0
  obtain rfl := khap_open hK
  exact ⟨ad, e, hc 0 _ rfl, by rw [← add_field _ _ 1 (by omega)]; exact hc 1 _ rfl, by rw [← add_field _ _ 2 (by omega)]; exact hc 2 _ rfl⟩
theorem valid_eq {t d r e now : Int} {l : List Int} (hm : mayt t d r) (hl : leadok l = true) : lead_Valid.f t d r e l now = some (decide (0 ≤ thr l (maj l.length) ∧ now < thr l (maj l.length) + ((hold t d r : Nat) : Int))) := by
  unfold lead_Valid.f
  rw [until_eq, if_pos ⟨hm, hl⟩, Option.bind_some]
  by_cases h : thr l (maj l.length) < 0
  · rw [if_pos h]
    simp only [Bool.false_eq_true, if_false]
    rw [decide_eq_false (by omega)]
  · rw [if_neg h]
    simp only [if_true]
    congr 1
    exact decide_eq_decide.2 (by omega)
def St.valb (s : St) (t d r : Int) (n : Nat) (a : Int) : Bool := s.isup a && decide (0 ≤ thr (s.ld a).f1 (maj n) ∧ s.clk a < thr (s.ld a).f1 (maj n) + ((hold t d r : Nat) : Int))
theorem St.valb_val {s : St} {t d r : Int} {n : Nat} {a : Int} (h : s.valb t d r n a = true) : s.val t d r n a := by
  unfold St.valb at h
  rw [Bool.and_eq_true, decide_eq_true_eq] at h
  exact ⟨h.1, h.2.1, h.2.2⟩
def St.cnt (s : St) (t d r : Int) (n m : Nat) : Nat := (List.range m).countP (fun k : Nat => s.valb t d r n (k : Int))
theorem St.cnt_succ (s : St) (t d r : Int) (n m : Nat) : s.cnt t d r n (m + 1) = s.cnt t d r n m + if s.valb t d r n (m : Int) = true then 1 else 0 := by
  unfold St.cnt
  rw [List.range_succ, List.countP_append]
  simp [List.countP_cons]
theorem St.cnt_le (s : St) (t d r : Int) (n m : Nat) : s.cnt t d r n m ≤ m := by
  unfold St.cnt
  have := List.countP_le_length (p := fun k : Nat => s.valb t d r n (k : Int)) (l := List.range m)
  rwa [List.length_range] at this
theorem St.cnt_one (s : St) (t d r : Int) (n : Nat) : ∀ m : Nat, 1 ≤ s.cnt t d r n m → ∃ a : Nat, a < m ∧ s.valb t d r n (a : Int) = true
  | 0, h => by simp [St.cnt] at h
  | m + 1, h => by
    rw [St.cnt_succ] at h
    by_cases q : s.valb t d r n (m : Int) = true
    · exact ⟨m, by omega, q⟩
    · rw [if_neg q] at h
      obtain ⟨a, h1, h2⟩ := St.cnt_one s t d r n m (by omega)
      exact ⟨a, by omega, h2⟩
theorem St.cnt_two (s : St) (t d r : Int) (n : Nat) : ∀ m : Nat, 2 ≤ s.cnt t d r n m → ∃ a b : Nat, a < b ∧ b < m ∧ s.valb t d r n (a : Int) = true ∧ s.valb t d r n (b : Int) = true
  | 0, h => by simp [St.cnt] at h
  | m + 1, h => by
    rw [St.cnt_succ] at h
    by_cases q : s.valb t d r n (m : Int) = true
    · rw [if_pos q] at h
      obtain ⟨a, h1, h2⟩ := St.cnt_one s t d r n m (by omega)
      exact ⟨a, m, h1, by omega, h2, q⟩
    · rw [if_neg q] at h
      obtain ⟨a, b, h1, h2, h3, h4⟩ := St.cnt_two s t d r n m (by omega)
      exact ⟨a, b, h1, by omega, h3, h4⟩
theorem not_near {t d r : Int} (hm : mayt t d r) {n i : Nat} (hn : 1 ≤ n) {s : St} (hd : Bd t n i s) (hg : Gh t n s) (h : 2 ≤ s.cnt t d r n n) : rnear n s.beats d r = false := by
  obtain ⟨a, b, h1, h2, h3, h4⟩ := St.cnt_two s t d r n n h
  cases hr : rnear n s.beats d r with
  | false => rfl
  | true => exact (one_leads hm hn hd hg ((rnear_iff n s.beats d r).1 hr) (a := (a : Int)) (b := (b : Int)) ⟨by omega, by omega⟩ ⟨by omega, by omega⟩ (by omega) (St.valb_val h3) (St.valb_val h4)).elim
theorem rep_get {α : Type} (n : Nat) (x dflt : α) {k : Int} (h : isn n k) : (List.replicate n x).getD k.toNat dflt = x := by
  have : k.toNat < n := by have := h.1; have := h.2; omega
  simp [this]
theorem Bd.ini {t : Int} {n : Nat} (ht : 0 ≤ t) : Bd t n 0 (ini n n) where
  lc := by simp [One.ini]
  ll := by simp [One.ini]
  lu := by simp [One.ini]
  lv := by simp [One.ini]
  lld := by simp [One.ini]
  ck := fun a ha => by rw [show (One.ini n n).clk a = 0 from rep_get n 0 0 ha]; omega
  lf := fun a ha => by rw [show (One.ini n n).lf a = 0 from rep_get n 0 0 ha]; omega
  vo := fun a ha => by rw [show (One.ini n n).vo a = ⟨0, -1, 0, 0⟩ from rep_get n _ z38 ha]; exact ⟨.inl rfl, by simp only; omega, by simp only; omega, by simp only; omega⟩
  ld := fun a ha => by
    rw [show (One.ini n n).ld a = ⟨0, none_ n⟩ from rep_get n _ z52 ha]
    exact ⟨⟨by simp only; omega, by simp only [One.ini]; omega⟩, by simp [none_], fun x hx => by rw [none_mem hx]; omega⟩
  tp := by simp [One.ini]
  rl := by simp [One.ini]
  rq := fun p hp => by simp [One.ini] at hp
  gl := by simp [One.ini]
  gr := fun p hp => by simp [One.ini] at hp
  bl := by simp [One.ini]
theorem Gh.ini {t : Int} {n : Nat} : Gh t n (ini n n) where
  ok := rfl
  up := fun a ha => by
    rw [show (One.ini n n).isup a = true from rep_get n true false ha]
    exact ⟨fun _ => by show (0 : Int) ≤ since _ _ a 0; simp [since], fun _ => rfl⟩
  rq := fun p hp => by simp [One.ini] at hp
  gr := fun p hp => by simp [One.ini] at hp
  ask := fun a ha v hv h => by
    rw [show (One.ini n n).ld a = ⟨0, none_ n⟩ from rep_get n _ z52 ha, show (none_ n).getD v.toNat 0 = -1 from rep_get n (-1) 0 hv] at h
    omega
/-- The law's own blocks: the terms, and the nodes. -/
structure Ls (W0 : World) (t d r : Int) (gt g7 : Nat) (W : World) (tag : Nat → Nat) (x : NV) (s : St) : Prop where
  nw : Nw W0 W0.heap.size W0 (fun _ => 0) W tag x s
  bt : W.heap[gt]? = some (.cells #[.int .i64 t, .int .i64 d, .int .i64 r] 23 (0, 0))
  b7 : W.heap[g7]? = some (nblk t d r x s.top true)
  tt : tag gt = 0
  t7 : tag g7 = 0
  ne : gt ≠ g7
  wt : W0.heap.size ≤ gt
  w7 : W0.heap.size ≤ g7
section
variable {W0 W w1 : World} {t d r : Int} {gt g7 : Nat} {tag tag' : Nat → Nat} {x x' : NV} {s s' : St}
theorem Ls.below (h : Ls W0 t d r gt g7 W tag x s) (hb : Below W.heap.size W w1) : Ls W0 t d r gt g7 w1 tag x s :=
  { h with nw := h.nw.below hb, bt := blk_below h.bt hb, b7 := blk_below h.b7 hb }
/-- Behind a step: what is stored is what it left. -/
theorem Ls.step (h : Ls W0 t d r gt g7 W tag x s) (hN : Nw W0 W0.heap.size W tag w1 tag' x' s') : Ls W0 t d r gt g7 (w1.setRow g7 #[.int .i64 t, .int .i64 d, .int .i64 r, x'.c, x'.l, x'.u, x'.v, x'.d, x'.r, x'.g, x'.b, .int .u64 s'.top, .bool true]) tag' x' s' := by
  have t1 : tag' gt = 0 := (hN.tg gt (blk_lt h.bt)).trans h.tt
  have t2 : tag' g7 = 0 := (hN.tg g7 (blk_lt h.b7)).trans h.t7
  have b1 := (hN.kp gt (blk_lt h.bt) h.tt).trans h.bt
  have b2 := (hN.kp g7 (blk_lt h.b7) h.t7).trans h.b7
  exact ⟨(h.nw.back hN).setRow t2 h.w7 h.w7 _, (setRow_other _ g7 gt _ h.ne).trans b1, setRow_heap w1 g7 _ _ 80 (0, 0) b2, t1, t2, h.ne, h.wt, h.w7⟩
theorem Ls.start {W1 w2 : World} {n : Nat} {x' : NV} {tag' : Nat → Nat} (hW : Below W0.heap.size W0 W1) (hlt : W0.heap.size < W1.heap.size) (hbt : W1.heap[W0.heap.size]? = some (.cells #[.int .i64 t, .int .i64 d, .int .i64 r] 23 (0, 0))) (hN : Nw W0 W0.heap.size W1 (fun _ => 0) w2 tag' x' (ini n n)) :
    Ls W0 t d r W0.heap.size w2.heap.size (w2.alloc (nblk t d r x' 0 true)) tag' x' (ini n n) := by
  have h1 := (Nw.nil_ (Below.refl _ _) (Nat.le_refl _) hW n).back hN
  have hal := below_alloc (Below.refl w2.heap.size w2) (nblk t d r x' 0 true)
  have hs := hN.size
  exact ⟨h1.alloc _, blk_below ((hN.kp _ hlt rfl).trans hbt) hal, blk_new w2 _, hN.tg _ hlt, h1.fresh _ (Nat.le_refl _), by omega, Nat.le_refl _, by omega⟩
end
/-- A struct whose block is known may be loaded first. -/
theorem yields_row {P : Program} {ops : Array Oper} {S : World → Prop} {o : Oper} {a : Act} (hgd : o.guard = none) (ty : TypeId) (x : Operand) (ho : o.op = .load ty x) (g : Nat) (hx : a.eval x = .pointer (some ⟨g, 0, none⟩)) (t : TypeId) (cs : Array Value) (fr : Nat × Nat) (dd : TypeDesc) (hg : ∀ w, S w → w.heap[g]? = some (.cells cs t fr))
    (hu : P.underlying ty = some dd) (hd : (match dd with | .struct _ | .array _ _ => true | _ => false) = true) (hi : (P.info? ty).map (·.size) = some cs.size) : YieldsIf P ops S o (.agg cs) a :=
  Or.inl ⟨by simp [Region.wanted, hgd], fun w hS => by
    unfold execOp
    simp only [ho, hx, Instr.loadAt, Instr.sureAddr, Sem.run_bind, Sem.run_pure, Result.andThen_ok, run_loadVar_row w g t ty cs fr dd (hg w hS) hu hd hi]⟩
set_option maxHeartbeats 4000000 in
theorem lone_no (t d r : Int) (nn : Int) (A : Option Addr) (c : Nat) (l : List Hap) (W0 : World) (hc : l.length ≤ c) (hl : Kd.C khap W0 A l.length l) (hnn : 0 ≤ nn ∧ nn ≤ 255) (hw : ∀ x, x ∈ l → (0 ≤ x.f0 ∧ x.f0 ≤ 255) ∧ (0 ≤ x.f1 ∧ x.f1 ≤ 255) ∧ (0 ≤ x.f2 ∧ x.f2 ≤ 255)) (hlen : l.length ≤ 1000000000000000) (hm : ¬mayt t d r) : Calls Try.prog 14 #[.agg #[.int .i64 t, .int .i64 d, .int .i64 r], .int .u8 nn, .slice A l.length c] W0 (fun e w' => e = .returned (.bool true) ∧ Below W0.heap.size W0 w') := by
  have hu23 := Try.underlying23
  have hu80 := Try.underlying80
  have hu84 := Try.underlying84
  have hu52 := Try.underlying52
  obtain ⟨K, hK⟩ : ∃ K, 1000000 ≤ K := ⟨1000000, Nat.le_refl _⟩
  have h1 := rhold_eq K hK t d r
  rw [if_neg hm] at h1
  have H1 := Lib.hid h1
  clear h1 hl hw
  go_enter Try.func14, Try.ntmps14
  go_wp2_with (first | (go_at_call 15; refine (tattleref17_Hold.calls _ _ _ _ _ _ H1.out).mono ?_; rintro e w1 ⟨rfl, hb⟩; have HB := Lib.hid ((below_alloc (Below.refl _ _) _).trans (hb.mono (by simp))); clear hb) | (go_at_call 24; refine (tattlelaw18_awakeT.calls true _ rfl).mono ?_; rintro e w2 ⟨rfl, hb⟩; have HB2 := Lib.hid (HB.out.trans (hb.mono HB.out.size)); clear hb))
  all_goals exact bodyPost_ret (results_tmp rfl _ _ _) rfl ⟨rfl, HB2.out⟩
set_option maxHeartbeats 4000000 in
theorem lone_yes (t d r : Int) (nn : Int) (A : Option Addr) (c : Nat) (l : List Hap) (W0 : World) (hc : l.length ≤ c) (hl : Kd.C khap W0 A l.length l) (hnn : 0 ≤ nn ∧ nn ≤ 255) (hw : ∀ x, x ∈ l → (0 ≤ x.f0 ∧ x.f0 ≤ 255) ∧ (0 ≤ x.f1 ∧ x.f1 ≤ 255) ∧ (0 ≤ x.f2 ∧ x.f2 ≤ 255)) (hlen : l.length ≤ 1000000000000000) (hm : mayt t d r) : Calls Try.prog 14 #[.agg #[.int .i64 t, .int .i64 d, .int .i64 r], .int .u8 nn, .slice A l.length c] W0 (fun e w' => e = .returned (.bool true) ∧ Below W0.heap.size W0 w') := by
  have hu23 := Try.underlying23
  have hu80 := Try.underlying80
  have hu84 := Try.underlying84
  have hu52 := Try.underlying52
  obtain ⟨K, hK⟩ : ∃ K, 1000000 ≤ K := ⟨1000000, Nat.le_refl _⟩
  have h1 := rhold_eq K hK t d r
  rw [if_pos hm] at h1
  have H1 := Lib.hid h1
  have hh0 : ((((hold t d r : Nat) : Int)) == 0) = false := beq_eq_false_iff_ne.2 (by have := hm.2.2.2.2.2.2; omega)
  obtain ⟨q, hq⟩ : ∃ q : Nat, nn % 4 = (q : Int) := ⟨(nn % 4).toNat, by omega⟩
  have hq4 : q < 4 := by omega
  have HM := Lib.hid hm
  have HL := Lib.hid hl
  have HW := Lib.hid hw
  clear h1 hl hw hm
  go_enter Try.func14, Try.ntmps14
  go_upto_region 3 with (first | (go_at_call 15; refine (tattleref17_Hold.calls _ _ _ _ _ _ H1.out).mono ?_; rintro e w1 ⟨rfl, hb⟩; have HB := Lib.hid hb; clear hb))
  refine wp_gen (fun W1 => W1.heap[W0.heap.size]? = some (.cells #[.int .i64 t, .int .i64 d, .int .i64 r] 23 (0, 0)) ∧ Below W0.heap.size W0 W1) ⟨blk_below (blk_new W0 _) HB.out, (below_alloc (Below.refl _ _) _).trans (HB.out.mono (by simp))⟩ ?_
  rintro W1 ⟨hb1, hb2⟩
  have y0 : W1.cell? ⟨W0.heap.size, 0, none⟩ = some (.int .i64 t) := (blk_cell hb1 0).trans rfl
  have y1 : W1.cell? ⟨W0.heap.size, 1, none⟩ = some (.int .i64 d) := (blk_cell hb1 1).trans rfl
  have y2 : W1.cell? ⟨W0.heap.size, 2, none⟩ = some (.int .i64 r) := (blk_cell hb1 2).trans rfl
  have HB1 := Lib.hid hb1
  have HB2 := Lib.hid hb2
  clear hb1 hb2 HB
  go_upto_region 4 with (first | (go_at_call 34; refine (begin_ok W0 _ W0.heap.size HB2.out HB2.out.size t d r (2 + q) (by omega)).mono ?_; rintro e w2 ⟨x', tag', rfl, hN⟩; obtain ⟨B1, B2, B3, B4, B5, B6, B7, B8, d1, d2, d3, d4, d5, d6, d7, d8, hx'⟩ := hN.open; obtain ⟨raw', vc', vl', vu', vv', vd', vr', vg', vb'⟩ := x'; injection hx' with k0 k1 k2 k3 k4 k5 k6 k7 k8; subst k1 k2 k3 k4 k5 k6 k7 k8; clear k0; have HN := Lib.hid hN; clear hN))
  refine wp_gen (fun W2 => ∃ (x : NV) (tag : Nat → Nat), Ls W0 t d r W0.heap.size w2.heap.size W2 tag x (ini (2 + q) (2 + q))) ⟨_, tag', Ls.start HB2.out (blk_lt HB1.out) HB1.out HN.out⟩ ?_
  rintro W2 ⟨x, tg, hL⟩
  generalize w2.heap.size = g7 at hL ⊢
  obtain ⟨n, hn⟩ : ∃ n, n = 2 + q := ⟨_, rfl⟩
  rw [← hn] at hL
  have hn2 : 2 ≤ n ∧ n ≤ 5 := by omega
  have HLS := Lib.hid hL
  have ht0 : 0 ≤ t := by have := HM.out.1; omega
  have HBD := Lib.hid (Bd.ini (t := t) (n := n) ht0)
  have HGH := Lib.hid (Gh.ini (t := t) (n := n))
  clear hL hn hq hq4 y0 y1 y2 HB1 HB2 hh0 hnn HN
  go_wp2_with fail
  go_loopg [8] 90 (fun gg v8 wr => ∃ i : Nat, v8 = .int .i64 (i : Int) ∧ Aside0 (i ≤ l.length ∧ i ≤ 90) ∧ Aside0 (90 ≤ gg + i) ∧ ∃ (s : St) (x : NV) (tag : Nat → Nat), Aside0 (Ls W0 t d r W0.heap.size g7 wr tag x s) ∧ Aside0 (Bd t n i s) ∧ Aside0 (Gh t n s))
  case atStart => exact ⟨0, rfl, ⟨by omega⟩, ⟨by omega⟩, ini n n, x, tg, ⟨HLS.out⟩, ⟨HBD.out⟩, ⟨HGH.out⟩⟩
  case round =>
    obtain ⟨i, rfl, a1, a2, s, x, tag, a3, a4, a5⟩ := hrel
    obtain ⟨A1, A2, A3, A4, A5, A6, A7, A8, c1, c2, c3, c4, c5, c6, c7, c8, hx⟩ := a3.out.nw.open
    obtain ⟨raw_c, vc_, vl_, vu_, vv_, vd_, vr_, vg_, vb_⟩ := x
    injection hx with hx0 hx1 hx2 hx3 hx4 hx5 hx6 hx7 hx8
    subst hx1 hx2 hx3 hx4 hx5 hx6 hx7 hx8
    clear hx0
    obtain ⟨z0, z1, z2, z3, z4, z5, z6, z7, z8, z9, z10, z11, z12⟩ := nblk_cells a3.out.b7
    clear z0 z1 z2 z3 z4 z5 z6 z7 z8 z9 z10 z11
    by_cases hi : i < l.length ∧ i < 90
    · have hi1 : (i : Int) < (l.length : Int) := by omega
      have hi2 : (i : Int) < 90 := by omega
      have hi0 : (0 : Int) ≤ (i : Int) := by omega
      go_upto_region 7 with (fail)
      clear z12
      go_cut [8] (fun s8 wx => s8 = .int .i64 (i : Int) ∧ ∃ (s' : St) (x' : NV) (tag' : Nat → Nat), Ls W0 t d r W0.heap.size g7 wx tag' x' s' ∧ Stp t n s s')
      case first =>
        obtain ⟨ad, hA, _, _, _⟩ := at_hap HL.out i hi.1
        have hel := fun (w : World) (hb : Below W0.heap.size W0 w) => at_hap (Kd.C_below HL.out hb) i hi.1
        obtain ⟨w0, w1, w2⟩ := HW.out (l.getD i zhap) (by simp [hi.1])
        obtain ⟨E, hE⟩ : ∃ E, E = l.getD i zhap := ⟨_, rfl⟩
        rw [← hE] at w0 w1 w2
        simp only [← hE] at hel
        clear hE
        obtain ⟨k, a, b⟩ := E
        simp only at w0 w1 w2 hel
        subst hA
        have hel2 : (∀ w, Below W0.heap.size W0 w → w.cell? (ad.add (i * 3)) = some (.int .u8 k) ∧ w.cell? ⟨(ad.add (i * 3)).block, (ad.add (i * 3)).off + 1, none⟩ = some (.int .u8 a) ∧ w.cell? ⟨(ad.add (i * 3)).block, (ad.add (i * 3)).off + 2, none⟩ = some (.int .u8 b)) := fun w hb => by
          obtain ⟨ad2, e, q⟩ := hel w hb
          injection e with e
          subst e
          exact q
        have HEL := Lib.hid hel2
        clear hel hel2
        refine anyG_start 6 (fun w' => w'.heap[g7]? = some (nblk t d r ⟨raw_c, .slice A1 s.clock.length c1, .slice A2 s.life.length c2, .slice A3 s.up.length c3, .slice A4 s.votes.length c4, .slice A5 s.leads.length c5, .slice A6 s.reqs.length c6, .slice A7 s.grs.length c7, .slice A8 s.beats.length c8⟩ s.top true) ∧ w'.cell? (ad.add (i * 3)) = some (.int .u8 k) ∧ w'.cell? ⟨(ad.add (i * 3)).block, (ad.add (i * 3)).off + 1, none⟩ = some (.int .u8 a) ∧ w'.cell? ⟨(ad.add (i * 3)).block, (ad.add (i * 3)).off + 2, none⟩ = some (.int .u8 b)) (by kernel_rfl) ?_
        refine anyG_gen (fun W' => Ls W0 t d r W0.heap.size g7 W' tag ⟨raw_c, .slice A1 s.clock.length c1, .slice A2 s.life.length c2, .slice A3 s.up.length c3, .slice A4 s.votes.length c4, .slice A5 s.leads.length c5, .slice A6 s.reqs.length c6, .slice A7 s.grs.length c7, .slice A8 s.beats.length c8⟩ s) (a3.out.below (below_drew (Below.refl _ _))) ?_
        intro Wc hLc
        have HLC := Lib.hid hLc
        clear hLc
        refine anyG_take (i := 0) [6] rfl (by kernel_rfl) (fun _ _ _ h => h) (yields_row (by rfl) 80 (.tmp 7) (by rfl) g7 (by rfl) 80 #[.int .i64 t, .int .i64 d, .int .i64 r, .slice A1 s.clock.length c1, .slice A2 s.life.length c2, .slice A3 s.up.length c3, .slice A4 s.votes.length c4, .slice A5 s.leads.length c5, .slice A6 s.reqs.length c6, .slice A7 s.grs.length c7, .slice A8 s.beats.length c8, .int .u64 s.top, .bool true] (0, 0) _ (fun w hS => hS.1) Try.underlying80 rfl info80s) (And.intro HLC.out.b7 (HEL.out _ HLC.out.nw.bel)) ?_
        (try simp only [Act.put, List.setIfInBounds_toArray, List.set_cons_zero, List.set_cons_succ])
        refine anyG_take (i := 1) [6] (v := ?_) rfl (by kernel_rfl) (fun _ _ _ h => h) (Or.inl ⟨by rfl, ?_⟩) (And.intro HLC.out.b7 (HEL.out _ HLC.out.nw.bel)) ?_
        rotate_left
        · intro w' hS; (try dsimp only at hS); go_simp; (try with_reducible rfl)
        (try simp only [Act.put, List.setIfInBounds_toArray, List.set_cons_zero, List.set_cons_succ])
        refine anyG_take (i := 2) [6] (v := ?_) rfl (by kernel_rfl) (fun _ _ _ h => h) (Or.inl ⟨by rfl, ?_⟩) (And.intro HLC.out.b7 (HEL.out _ HLC.out.nw.bel)) ?_
        rotate_left
        · intro w' hS; (try dsimp only at hS); go_simp; (try with_reducible rfl)
        (try simp only [Act.put, List.setIfInBounds_toArray, List.set_cons_zero, List.set_cons_succ])
        refine anyG_take (i := 3) [6] (v := ?_) rfl (by kernel_rfl) (fun _ _ _ h => h) (Or.inl ⟨by rfl, ?_⟩) (And.intro HLC.out.b7 (HEL.out _ HLC.out.nw.bel)) ?_
        rotate_left
        · intro w' hS; (try dsimp only at hS); go_simp; (try with_reducible rfl)
        (try simp only [Act.put, List.setIfInBounds_toArray, List.set_cons_zero, List.set_cons_succ])
        refine anyG_take (i := 4) [6] (v := ?_) rfl (by kernel_rfl) (fun _ _ _ h => h) (Or.inl ⟨by rfl, ?_⟩) (And.intro HLC.out.b7 (HEL.out _ HLC.out.nw.bel)) ?_
        rotate_left
        · intro w' hS; (try dsimp only at hS); go_simp; (try with_reducible rfl)
        (try simp only [Act.put, List.setIfInBounds_toArray, List.set_cons_zero, List.set_cons_succ])
        refine anyG_ready (rs := [5]) (by kernel_rfl) (by simp) ?_
        refine readyG.cons (by rfl) (fun K hK => ?_) readyG.nil
        go_simp
        refine (happens_any W0 W0.heap.size Wc tag ⟨raw_c, .slice A1 s.clock.length c1, .slice A2 s.life.length c2, .slice A3 s.up.length c3, .slice A4 s.votes.length c4, .slice A5 s.leads.length c5, .slice A6 s.reqs.length c6, .slice A7 s.grs.length c7, .slice A8 s.beats.length c8⟩ s t d r n i HLC.out.nw.anew a4.out hi.2 hn2 HM.out k a b w0 w1 w2).mono ?_
        rintro e wN ⟨x', tag', s', hst, rfl, hN⟩
        obtain ⟨B1, B2, B3, B4, B5, B6, B7, B8, d1, d2, d3, d4, d5, d6, d7, d8, hx⟩ := hN.open
        obtain ⟨raw_d, vc_, vl_, vu_, vv_, vd_, vr_, vg_, vb_⟩ := x'
        injection hx with hx0 hx1 hx2 hx3 hx4 hx5 hx6 hx7 hx8
        subst hx1 hx2 hx3 hx4 hx5 hx6 hx7 hx8
        clear hx0
        have HN := Lib.hid hN
        have HST := Lib.hid hst
        have HG7 := Lib.hid ((hN.kp g7 (blk_lt HLC.out.b7) HLC.out.t7).trans HLC.out.b7)
        clear hN hst
        (try go_simp)
        refine hK.out _ _ (fun _ => And.intro HG7.out (HEL.out _ HN.out.bel)) ?_
        clear hK K
        (try simp only [Act.put, List.setIfInBounds_toArray, List.set_cons_zero, List.set_cons_succ])
        refine anyG_ready (rs := [6]) (by kernel_rfl) (by simp) ?_
        refine readyG.cons (by rfl) (fun K hK => ?_) readyG.nil
        rw [if_pos (by rfl)]
        refine wp_store_row 80 (.tmp 7) (.tmp 40) (by rfl) g7 #[.int .i64 t, .int .i64 d, .int .i64 r, .slice B1 s'.clock.length d1, .slice B2 s'.life.length d2, .slice B3 s'.up.length d3, .slice B4 s'.votes.length d4, .slice B5 s'.leads.length d5, .slice B6 s'.reqs.length d6, .slice B7 s'.grs.length d7, .slice B8 s'.beats.length d8, .int .u64 s'.top, .bool true] (by rfl) (by rfl) 80 _ HG7.out info80s (by rfl) (by simp [Value.oneCell']) ?_
        refine hK.out _ _ (fun h => absurd (show true = false from h) (by decide)) ?_
        clear hK K
        (try simp only [Act.put, List.setIfInBounds_toArray, List.set_cons_zero, List.set_cons_succ])
        refine anyG_done (by kernel_rfl) ?_
        go_wp2
        go_meet
        case rel => exact ⟨rfl, s', _, tag', HLC.out.step HN.out, HST.out⟩
      case rest =>
        obtain ⟨rfl, s', x', tag', hL', hst⟩ := hcut
        obtain ⟨hd', hg'⟩ := hst.inv ht0 hn2.2 a4.out a5.out
        obtain ⟨B1, B2, B3, B4, B5, B6, B7, B8, d1, d2, d3, d4, d5, d6, d7, d8, hx⟩ := hL'.nw.open
        obtain ⟨raw_d, vc_, vl_, vu_, vv_, vd_, vr_, vg_, vb_⟩ := x'
        injection hx with hx0 hx1 hx2 hx3 hx4 hx5 hx6 hx7 hx8
        subst hx1 hx2 hx3 hx4 hx5 hx6 hx7 hx8
        clear hx0
        have HL' := Lib.hid hL'
        have HD' := Lib.hid hd'
        have HG' := Lib.hid hg'
        clear hL' hst hd' hg'
        go_wp2_with fail
        go_loopg [9, 10] n (fun gg v9 v10 wr => ∃ a : Nat, v10 = .int .i64 (a : Int) ∧ v9 = .int .i64 ((s'.cnt t d r n a : Nat) : Int) ∧ Aside0 (a ≤ n) ∧ Aside0 (n ≤ gg + a) ∧ Aside0 (Ls W0 t d r W0.heap.size g7 wr tag' ⟨raw_d, .slice B1 s'.clock.length d1, .slice B2 s'.life.length d2, .slice B3 s'.up.length d3, .slice B4 s'.votes.length d4, .slice B5 s'.leads.length d5, .slice B6 s'.reqs.length d6, .slice B7 s'.grs.length d7, .slice B8 s'.beats.length d8⟩ s'))
        case atStart => exact ⟨0, rfl, rfl, ⟨Nat.zero_le _⟩, ⟨by omega⟩, ⟨HL'.out⟩⟩
        case round =>
          obtain ⟨a, rfl, rfl, b1, b2, b3⟩ := hrel
          obtain ⟨z0, z1, z2, z3, z4, z5, z6, z7, z8, z9, z10, z11, z12⟩ := nblk_cells b3.out.b7
          by_cases ha : a < n
          · have hac : (a : Int) < (s'.clock.length : Int) := by rw [HD'.out.lc]; omega
            have ha0 : (0 : Int) ≤ (a : Int) := by omega
            clear z0 z1 z2 z4 z6 z8 z9 z10 z11 z12
            go_upto_region 12 with (fail)
            go_cut [66] (fun s66 wx => s66 = .bool (s'.valb t d r n (a : Int)) ∧ ∃ wa, Aside0 (Ls W0 t d r W0.heap.size g7 wa tag' ⟨raw_d, .slice B1 s'.clock.length d1, .slice B2 s'.life.length d2, .slice B3 s'.up.length d3, .slice B4 s'.votes.length d4, .slice B5 s'.leads.length d5, .slice B6 s'.reqs.length d6, .slice B7 s'.grs.length d7, .slice B8 s'.beats.length d8⟩ s') ∧ Below wa.heap.size wa wx)
            case first =>
              obtain ⟨gu, cu, eu, _, lu, tu, hu2⟩ := b3.out.nw.row_u (show 0 < s'.up.length by rw [HD'.out.lu]; omega)
              obtain ⟨gd, cd, ed, _, ld, td, hd2⟩ := b3.out.nw.row_d (show 0 < s'.leads.length by rw [HD'.out.lld]; omega)
              obtain ⟨gc, cc, ec, _, lc, tc, hc2⟩ := b3.out.nw.row_c (show 0 < s'.clock.length by omega)
              obtain ⟨u0, _⟩ := hu2 a (by rw [HD'.out.lu]; omega)
              obtain ⟨Ad, nd, ⟨p0, p1⟩, dv, _⟩ := hd2 a (by rw [HD'.out.lld]; omega)
              obtain ⟨c0, _⟩ := hc2 a (by omega)
              injection eu with eu eu2 eu3
              injection ed with ed ed2 ed3
              injection ec with ec ec2 ec3
              clear eu2 ed2 ec2
              subst eu ed ec eu3 ed3 ec3
              have hau : (a : Int) < (s'.up.length : Int) := by rw [HD'.out.lu]; omega
              have had : (a : Int) < (s'.leads.length : Int) := by rw [HD'.out.lld]; omega
              have e1 : s'.up.getD a false = s'.isup (a : Int) := by unfold St.isup; rw [Int.toNat_natCast]
              have e2 : s'.leads.getD a z52 = s'.ld (a : Int) := by unfold St.ld; rw [Int.toNat_natCast]
              have e3 : s'.clock.getD a 0 = s'.clk (a : Int) := by unfold St.clk; rw [Int.toNat_natCast]
              rw [e1] at u0
              rw [e2] at p0 p1 dv
              rw [e3] at c0
              have y0 : wr.cell? ⟨W0.heap.size, 0, none⟩ = some (.int .i64 t) := (blk_cell b3.out.bt 0).trans rfl
              have y1 : wr.cell? ⟨W0.heap.size, 1, none⟩ = some (.int .i64 d) := (blk_cell b3.out.bt 1).trans rfl
              have y2 : wr.cell? ⟨W0.heap.size, 2, none⟩ = some (.int .i64 r) := (blk_cell b3.out.bt 2).trans rfl
              obtain ⟨_, ll2, ll3⟩ := HD'.out.ld (a : Int) ⟨by omega, by omega⟩
              have hi90 := hi.2
              have hlok : leadok (s'.ld (a : Int)).f1 = true := leadok_of (by omega) (by omega) (fun x hx => by have := ll3 x hx; omega)
              have hvf : s'.isup (a : Int) = true → lead_Valid.f t d r (s'.ld (a : Int)).f0 (s'.ld (a : Int)).f1 (s'.clk (a : Int)) = some (s'.valb t d r n (a : Int)) := fun hu => by
                rw [valid_eq HM.out hlok, ll2]
                unfold St.valb
                rw [hu, Bool.true_and]
              obtain ⟨vb, hvb⟩ : ∃ vb, vb = s'.valb t d r n (a : Int) := ⟨_, rfl⟩
              rw [← hvb] at hvf
              have HVB := Lib.hid hvb
              obtain ⟨L, hL⟩ : ∃ L, L = s'.ld (a : Int) := ⟨_, rfl⟩
              obtain ⟨ck, hck⟩ : ∃ ck, ck = s'.clk (a : Int) := ⟨_, rfl⟩
              rw [← hL] at p0 p1 dv
              rw [← hck] at c0
              rw [← hL, ← hck] at hvf
              clear e1 e2 e3 hL hck hlok ll2 ll3 hu2 hd2 hc2 hvb
              obtain ⟨le, ll⟩ := L
              simp only at p0 p1 dv hvf
              have HDV := Lib.hid dv
              have lt7 := blk_lt b3.out.b7
              have ltt := blk_lt b3.out.bt
              cases hu : s'.isup (a : Int) with
              | true =>
                have HVF := Lib.hid (hvf hu)
                rw [hu] at u0
                clear hvf dv hu
                go_region_held3 (fun w' => w'.cell? ⟨g7, 5, none⟩ = some (.slice (some ⟨gu, 0, none⟩) s'.up.length d3) ∧ w'.cell? ⟨g7, 7, none⟩ = some (.slice (some ⟨gd, 0, none⟩) s'.leads.length d5) ∧ w'.cell? ⟨g7, 3, none⟩ = some (.slice (some ⟨gc, 0, none⟩) s'.clock.length d1) ∧ w'.cell? ⟨gu, a, none⟩ = some (.bool true) ∧ w'.cell? ⟨W0.heap.size, 0, none⟩ = some (.int .i64 t) ∧ w'.cell? ⟨W0.heap.size, 1, none⟩ = some (.int .i64 d) ∧ w'.cell? ⟨W0.heap.size, 2, none⟩ = some (.int .i64 r) ∧ w'.cell? ⟨gd, a * 2, none⟩ = some (.int .u64 le) ∧ w'.cell? ⟨gd, a * 2 + 1, none⟩ = some (.slice Ad ll.length nd) ∧ w'.cell? ⟨gc, a, none⟩ = some (.int .i64 ck)) (go_keep)
                  (first | (go_at_call 30
                            refine (lead_Valid.calls t d r le Ad nd ll ck vb _ (Kd.V_reads' (Kd.V_drew HDV.out)).2.2 (Kd.V_reads' HDV.out).2.1 HVF.out).mono ?_
                            rintro e w1 ⟨rfl, hb⟩
                            have hbT : Below wr.heap.size wr w1 := (below_drew (Below.refl _ _)).trans (hb.mono (by simp))
                            have k0 := ((bcell hbT).1 g7 5 lt7).trans z5
                            have k1 := ((bcell hbT).1 g7 7 lt7).trans z7
                            have k2 := ((bcell hbT).1 g7 3 lt7).trans z3
                            have k3 := ((bcell hbT).1 gu a lu).trans u0
                            have k4 := ((bcell hbT).1 W0.heap.size 0 ltt).trans y0
                            have k5 := ((bcell hbT).1 W0.heap.size 1 ltt).trans y1
                            have k6 := ((bcell hbT).1 W0.heap.size 2 ltt).trans y2
                            have k7 := ((bcell hbT).1 gd (a * 2) ld).trans p0
                            have k8 := ((bcell hbT).1 gd (a * 2 + 1) ld).trans p1
                            have k9 := ((bcell hbT).1 gc a lc).trans c0
                            have HBT := Lib.hid hbT
                            clear hbT hb))
                all_goals (go_wp2; go_meet; case rel => exact ⟨congrArg Value.bool HVB.out, wr, b3, HBT.out⟩)
              | false =>
                have hvb2 : vb = false := by rw [HVB.out]; unfold St.valb; rw [hu]; rfl
                subst hvb2
                rw [hu] at u0
                clear hvf dv hu p0 p1 c0 y0 y1 y2 z3 z7
                refine wp_region_held_drew (S := fun w' => w'.cell? ⟨g7, 5, none⟩ = some (.slice (some ⟨gu, 0, none⟩) s'.up.length d3) ∧ w'.cell? ⟨gu, a, none⟩ = some (.bool false)) (by kernel_rfl) (by go_keep) (fun hHeld => ?_)
                refine wpAnyH_take (i := 0) (v := ?_) rfl (by kernel_rfl) (by kernel_rfl) (by kernel_rfl) (fun _ _ _ h => h) (Or.inl ⟨by rfl, ?_⟩) (by assumption) ?_
                rotate_left
                · intro w' hS; (try dsimp only at hS); go_simp; (try with_reducible rfl)
                (try simp only [Act.put, List.setIfInBounds_toArray, List.set_cons_zero, List.set_cons_succ])
                refine wpAnyH_take (i := 1) (v := ?_) rfl (by kernel_rfl) (by kernel_rfl) (by kernel_rfl) (fun _ _ _ h => h) (Or.inl ⟨by rfl, ?_⟩) (by assumption) ?_
                rotate_left
                · intro w' hS; (try dsimp only at hS); go_simp; (try with_reducible rfl)
                (try simp only [Act.put, List.setIfInBounds_toArray, List.set_cons_zero, List.set_cons_succ])
                refine wpAnyH_take (i := 2) (v := ?_) rfl (by kernel_rfl) (by kernel_rfl) (by kernel_rfl) (fun _ _ _ h => h) (Or.inl ⟨by rfl, ?_⟩) (by assumption) ?_
                rotate_left
                · intro w' hS; (try dsimp only at hS); go_simp; (try with_reducible rfl)
                (try simp only [Act.put, List.setIfInBounds_toArray, List.set_cons_zero, List.set_cons_succ])
                refine wpAnyH_take (i := 3) (v := ?_) rfl (by kernel_rfl) (by kernel_rfl) (by kernel_rfl) (fun _ _ _ h => h) (Or.inl ⟨by rfl, ?_⟩) (by assumption) ?_
                rotate_left
                · intro w' hS; (try dsimp only at hS); go_simp; (try with_reducible rfl)
                (try simp only [Act.put, List.setIfInBounds_toArray, List.set_cons_zero, List.set_cons_succ])
                refine wpAnyH_take (i := 4) (v := ?_) rfl (by kernel_rfl) (by kernel_rfl) (by kernel_rfl) (fun _ _ _ h => h) (Or.inl ⟨by rfl, ?_⟩) (by assumption) ?_
                rotate_left
                · intro w' hS; (try dsimp only at hS); go_simp; (try with_reducible rfl)
                (try simp only [Act.put, List.setIfInBounds_toArray, List.set_cons_zero, List.set_cons_succ])
                refine wpAnyH_take (i := 5) (v := ?_) rfl (by kernel_rfl) (by kernel_rfl) (by kernel_rfl) (fun _ _ _ h => h) (Or.inl ⟨by rfl, ?_⟩) (by assumption) ?_
                rotate_left
                · intro w' hS; (try dsimp only at hS); go_simp; (try with_reducible rfl)
                (try simp only [Act.put, List.setIfInBounds_toArray, List.set_cons_zero, List.set_cons_succ])
                refine wpAnyH_take (i := 6) (v := undef) rfl (by kernel_rfl) (by kernel_rfl) (by kernel_rfl) (fun _ _ _ h => h) (Or.inr ⟨by kernel_rfl, rfl⟩) (by assumption) ?_
                (try simp only [Act.put, List.setIfInBounds_toArray, List.set_cons_zero, List.set_cons_succ])
                refine wpAnyH_take (i := 7) (v := undef) rfl (by kernel_rfl) (by kernel_rfl) (by kernel_rfl) (fun _ _ _ h => h) (Or.inr ⟨by kernel_rfl, rfl⟩) (by assumption) ?_
                (try simp only [Act.put, List.setIfInBounds_toArray, List.set_cons_zero, List.set_cons_succ])
                refine wpAnyH_take (i := 8) (v := undef) rfl (by kernel_rfl) (by kernel_rfl) (by kernel_rfl) (fun _ _ _ h => h) (Or.inr ⟨by kernel_rfl, rfl⟩) (by assumption) ?_
                (try simp only [Act.put, List.setIfInBounds_toArray, List.set_cons_zero, List.set_cons_succ])
                refine wpAnyH_take (i := 9) (v := undef) rfl (by kernel_rfl) (by kernel_rfl) (by kernel_rfl) (fun _ _ _ h => h) (Or.inr ⟨by kernel_rfl, rfl⟩) (by assumption) ?_
                (try simp only [Act.put, List.setIfInBounds_toArray, List.set_cons_zero, List.set_cons_succ])
                refine wpAnyH_take (i := 10) (v := undef) rfl (by kernel_rfl) (by kernel_rfl) (by kernel_rfl) (fun _ _ _ h => h) (Or.inr ⟨by kernel_rfl, rfl⟩) (by assumption) ?_
                (try simp only [Act.put, List.setIfInBounds_toArray, List.set_cons_zero, List.set_cons_succ])
                refine wpAnyH_take (i := 11) (v := undef) rfl (by kernel_rfl) (by kernel_rfl) (by kernel_rfl) (fun _ _ _ h => h) (Or.inr ⟨by kernel_rfl, rfl⟩) (by assumption) ?_
                (try simp only [Act.put, List.setIfInBounds_toArray, List.set_cons_zero, List.set_cons_succ])
                refine wpAnyH_take (i := 12) (v := undef) rfl (by kernel_rfl) (by kernel_rfl) (by kernel_rfl) (fun _ _ _ h => h) (Or.inr ⟨by kernel_rfl, rfl⟩) (by assumption) ?_
                (try simp only [Act.put, List.setIfInBounds_toArray, List.set_cons_zero, List.set_cons_succ])
                refine wpAnyH_take (i := 13) (v := undef) rfl (by kernel_rfl) (by kernel_rfl) (by kernel_rfl) (fun _ _ _ h => h) (Or.inr ⟨by kernel_rfl, rfl⟩) (by assumption) ?_
                (try simp only [Act.put, List.setIfInBounds_toArray, List.set_cons_zero, List.set_cons_succ])
                refine wpAnyH_take (i := 14) (v := undef) rfl (by kernel_rfl) (by kernel_rfl) (by kernel_rfl) (fun _ _ _ h => h) (Or.inr ⟨by kernel_rfl, rfl⟩) (by assumption) ?_
                (try simp only [Act.put, List.setIfInBounds_toArray, List.set_cons_zero, List.set_cons_succ])
                refine wpAnyH_take (i := 15) (v := undef) rfl (by kernel_rfl) (by kernel_rfl) (by kernel_rfl) (fun _ _ _ h => h) (Or.inr ⟨by kernel_rfl, rfl⟩) (by assumption) ?_
                (try simp only [Act.put, List.setIfInBounds_toArray, List.set_cons_zero, List.set_cons_succ])
                refine wpAnyH_take (i := 16) (v := undef) rfl (by kernel_rfl) (by kernel_rfl) (by kernel_rfl) (fun _ _ _ h => h) (Or.inr ⟨by kernel_rfl, rfl⟩) (by assumption) ?_
                (try simp only [Act.put, List.setIfInBounds_toArray, List.set_cons_zero, List.set_cons_succ])
                refine wpAnyH_take (i := 17) (v := undef) rfl (by kernel_rfl) (by kernel_rfl) (by kernel_rfl) (fun _ _ _ h => h) (Or.inr ⟨by kernel_rfl, rfl⟩) (by assumption) ?_
                (try simp only [Act.put, List.setIfInBounds_toArray, List.set_cons_zero, List.set_cons_succ])
                refine wpAnyH_take (i := 18) (v := ?_) rfl (by kernel_rfl) (by kernel_rfl) (by kernel_rfl) (fun _ _ _ h => h) (Or.inl ⟨by rfl, ?_⟩) (by assumption) ?_
                rotate_left
                · intro w' hS; (try dsimp only at hS); go_simp; (try with_reducible rfl)
                (try simp only [Act.put, List.setIfInBounds_toArray, List.set_cons_zero, List.set_cons_succ])
                refine wpAnyH_done (by kernel_rfl) ?_ _
                go_wp2
                go_meet
                case rel => exact ⟨congrArg Value.bool HVB.out, wr, b3, below_drew (Below.refl _ _)⟩
            case rest =>
              obtain ⟨rfl, wa, hla, hbx⟩ := hcut
              have HLX := Lib.hid (hla.out.below hbx)
              clear hla hbx z3 z5 z7
              have hcl := s'.cnt_le t d r n a
              cases hv : s'.valb t d r n (a : Int) with
              | true =>
                go_wp2
                go_roundg (n - (a + 1))
                case measure => have := b2.out; omega
                case rel => exact ⟨a + 1, by first | rfl | go_num | (simp; done), by rw [St.cnt_succ, if_pos hv]; rfl, ⟨by omega⟩, ⟨by omega⟩, ⟨HLX.out⟩⟩
              | false =>
                go_wp2
                go_roundg (n - (a + 1))
                case measure => have := b2.out; omega
                case rel => exact ⟨a + 1, by first | rfl | go_num | (simp; done), by rw [St.cnt_succ, hv]; rfl, ⟨by omega⟩, ⟨by omega⟩, ⟨HLX.out⟩⟩
          · obtain rfl : a = n := by have := b1.out; omega
            have hcl := s'.cnt_le t d r a a
            have hac : ¬(a : Int) < (s'.clock.length : Int) := by rw [HD'.out.lc]; omega
            have y1 : wr.cell? ⟨W0.heap.size, 1, none⟩ = some (.int .i64 d) := (blk_cell b3.out.bt 1).trans rfl
            have y2 : wr.cell? ⟨W0.heap.size, 2, none⟩ = some (.int .i64 r) := (blk_cell b3.out.bt 2).trans rfl
            clear z0 z1 z2 z4 z5 z6 z7 z8 z9 z11 z12
            have hi90 := hi.2
            by_cases h2 : 2 ≤ s'.cnt t d r a a
            · have hgt : (1 : Int) < ((s'.cnt t d r a a : Nat) : Int) := by omega
              have hnr := not_near HM.out (by omega) HD'.out HG'.out h2
              have hwh : ∀ j, j < s'.beats.length → pwh s'.beats j = 0 ∨ pwh s'.beats j = 1 ∨ pwh s'.beats j = 2 := fun j hj => (okb_at _ _ HG'.out.ok hj).2.2.2
              have hbl := HD'.out.bl
              have hbn : bnd d r := by have := HM.out; unfold mayt at this; unfold bnd; omega
              obtain ⟨K2, hK2⟩ : ∃ K2, 1000000 ≤ K2 := ⟨1000000, Nat.le_refl _⟩
              have hne := rnear_eq (n := a) hwh (by omega) hbn (by omega) K2 hK2
              rw [hnr, ← HD'.out.lc] at hne
              have HNE := Lib.hid hne
              have HRB := Lib.hid (Kd.R_reads' b3.out.nw.b).2
              clear hnr hwh hbl hbn hne h2
              go_wp2_with (first | (go_at_call 36; refine (tattleref04_Near.calls _ _ _ _ _ _ _ _ _ HRB.out.2 HRB.out.1 HNE.out).mono ?_; rintro e w2 ⟨rfl, hdr⟩; have HLY := Lib.hid (b3.out.below hdr.below); clear hdr))
              go_roundg (90 - (i + 1))
              case measure => have := a2.out; omega
              case rel => exact ⟨i + 1, by first | rfl | go_num | (simp; done), ⟨by omega⟩, ⟨by omega⟩, s', _, tag', ⟨HLY.out⟩, ⟨HD'.out⟩, ⟨HG'.out⟩⟩
            · have hgt : ¬(1 : Int) < ((s'.cnt t d r a a : Nat) : Int) := by omega
              go_wp2
              go_roundg (90 - (i + 1))
              case measure => have := a2.out; omega
              case rel => exact ⟨i + 1, by first | rfl | go_num | (simp; done), ⟨by omega⟩, ⟨by omega⟩, s', _, tag', ⟨b3.out⟩, ⟨HD'.out⟩, ⟨HG'.out⟩⟩
    · by_cases hil : i < l.length
      · have hi1 : (i : Int) < (l.length : Int) := by omega
        have hi2 : ¬(i : Int) < 90 := by omega
        go_wp2_with (first | (go_at_call 24; refine (tattlelaw18_awakeT.calls true _ rfl).mono ?_; rintro e w2 ⟨rfl, hb⟩; have HB9 := Lib.hid (a3.out.nw.bel.trans (hb.mono a3.out.nw.bel.size)); clear hb))
        all_goals exact bodyPost_ret (results_tmp rfl _ _ _) rfl ⟨rfl, HB9.out⟩
      · have hi1 : ¬(i : Int) < (l.length : Int) := by omega
        go_wp2_with (first | (go_at_call 24; refine (tattlelaw18_awakeT.calls true _ rfl).mono ?_; rintro e w2 ⟨rfl, hb⟩; have HB9 := Lib.hid (a3.out.nw.bel.trans (hb.mono a3.out.nw.bel.size)); clear hb))
        all_goals exact bodyPost_ret (results_tmp rfl _ _ _) rfl ⟨rfl, HB9.out⟩
def okhap (x : Hap) : Prop := ((Lit.int .u8 x.f0).wf = true) ∧ ((Lit.int .u8 x.f1).wf = true) ∧ ((Lit.int .u8 x.f2).wf = true)
open Go.Proofs.Ytgfblogneggpmaa.Opn in
theorem opens84 : Opens Try.prog 84 khap okhap := opens_struct (fun x : Hap => (x.f0, x.f1, x.f2)) (fun p => ⟨p.1, p.2.1, p.2.2⟩) (fun _ => rfl) Try.underlying84 (by kernel_rfl) (opens_cons rfl (by kernel_rfl) (opens_int Try.underlying5) (opens_cons rfl (by kernel_rfl) (opens_int Try.underlying5) (opens_last rfl (by kernel_rfl) (opens_int Try.underlying5))))
theorem u8_of {x : Int} (h : (Lit.int .u8 x).wf = true) : 0 ≤ x ∧ x ≤ 255 := by
  simp [Lit.wf, IntKind.min, IntKind.max, IntKind.bits, IntKind.signed] at h
  omega
theorem lone_calls (t d r : Int) (nn : Int) (A : Option Addr) (c : Nat) (l : List Hap) (W0 : World) (hc : l.length ≤ c) (hl : Kd.C khap W0 A l.length l) (hnn : (Lit.int .u8 nn).wf = true) (hw : l.length ≤ maxLen ∧ l.length * 3 ≤ 140737488351232 ∧ ∀ x, x ∈ l → okhap x) : Calls Try.prog 14 #[.agg #[.int .i64 t, .int .i64 d, .int .i64 r], .int .u8 nn, .slice A l.length c] W0 (fun e w' => e = .returned (.bool true) ∧ Below W0.heap.size W0 w') := by
  have h1 := u8_of hnn
  have h2 : ∀ x, x ∈ l → (0 ≤ x.f0 ∧ x.f0 ≤ 255) ∧ (0 ≤ x.f1 ∧ x.f1 ≤ 255) ∧ (0 ≤ x.f2 ∧ x.f2 ≤ 255) := fun x hx => ⟨u8_of (hw.2.2 x hx).1, u8_of (hw.2.2 x hx).2.1, u8_of (hw.2.2 x hx).2.2⟩
  have h3 : l.length ≤ 1000000000000000 := by have := hw.2.1; omega
  by_cases hm : mayt t d r
  · exact lone_yes t d r nn A c l W0 hc hl h1 h2 h3 hm
  · exact lone_no t d r nn A c l W0 hc hl h1 h2 h3 hm
end Go.Proofs.Ytgfblogneggpmaa.One
