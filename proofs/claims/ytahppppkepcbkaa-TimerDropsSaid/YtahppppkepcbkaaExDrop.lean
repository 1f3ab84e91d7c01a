/- timer.Drop, by hand: its closure, slices.IndexFunc, clear. -/
import Derived.Test.YtahppppkepcbkaaFnx0
import Derived.Test.YtahppppkepcbkaaFnx22
import Derived.Test.YtahppppkepcbkaaExSort
import Derived.Test.YtahppppkepcbkaaExCheck
namespace Go.Proofs.Ytahppppkepcbkaa.Fn
open Go.RowKit Go.Proofs.YtahppppkepcbkaaW.PrintWords Go.Proofs.YtahppppkepcbkaaW.PrintLast Go.Proofs.YtahppppkepcbkaaW.PrintMore Go.Proofs.Ytahppppkepcbkaa.Tm
set_option linter.unusedVariables false
set_option linter.unusedSimpArgs false
set_option maxRecDepth 100000
/-- Of a kind, and of somebody? -/
def ofb (a1 a2 : Int) (x : S52) : Bool := x.f1 == a1 && x.f2 == a2
set_option maxHeartbeats 400000 in
theorem dropc_call (wr : World) (b1 b2 : Nat) (a1 a2 : Int) (hc1 : wr.cell? ⟨b1, 0, none⟩ = some (.int .i64 a1)) (hf1 : wr.frozen? ⟨b1, 0, none⟩ = false) (hb1 : b1 < wr.heap.size) (hc2 : wr.cell? ⟨b2, 0, none⟩ = some (.int .i64 a2)) (hf2 : wr.frozen? ⟨b2, 0, none⟩ = false) (hb2 : b2 < wr.heap.size) (x : S52) :
    Calls Try.prog 61 #[.agg #[.int .i64 x.f0, .int .i64 x.f1, .int .i64 x.f2, .int .u64 x.f3], .pointer (some ⟨b1, 0, none⟩), .pointer (some ⟨b2, 0, none⟩)] wr fun e w' => e = .returned (.bool (ofb a1 a2 x)) ∧ Below wr.heap.size wr w' := by
  obtain ⟨y0, y1, y2, y3⟩ := x
  have hu52 := Try.underlying52
  have hne1 : b1 ≠ wr.heap.size := by omega
  have hne2 : b2 ≠ wr.heap.size := by omega
  unfold ofb
  cases h1 : (y1 == a1) with
  | true =>
    go_enter Try.func61, Try.ntmps61
    go_wp2
    all_goals
      go_ret
      exact ⟨by simp [h1], (Below.refl _ wr).alloc (Nat.le_refl _) _⟩
  | false =>
    go_enter Try.func61, Try.ntmps61
    go_wp2
    all_goals
      go_ret
      exact ⟨by simp [h1], (Below.refl _ wr).alloc (Nat.le_refl _) _⟩
set_option maxHeartbeats 1000000 in
theorem dropi_any (A : Option Addr) (c : Nat) (l : List S52) (w : World) (b1 b2 : Nat) (p : S52 → Bool) (k : Nat) (r : Int) (hr : Kd.C k52 w A l.length l) (hc : l.length ≤ c) (hm : l.length ≤ 1000)
    (hcall : ∀ (wr : World) (x : S52), Below w.heap.size w wr → Calls Try.prog 61 #[.agg #[.int .i64 x.f0, .int .i64 x.f1, .int .i64 x.f2, .int .u64 x.f3], .pointer (some ⟨b1, 0, none⟩), .pointer (some ⟨b2, 0, none⟩)] wr fun e w' => e = .returned (.bool (p x)) ∧ Below wr.heap.size wr w')
    (hk1 : ∀ j, j < k → p (Tm.g l j) = false) (hk2 : (k < l.length ∧ p (Tm.g l k) = true ∧ r = (k : Int)) ∨ (k = l.length ∧ r = -1)) :
    Calls Try.prog 71 #[.slice A l.length c, .func (.func 61) #[] #[.pointer (some ⟨b1, 0, none⟩), .pointer (some ⟨b2, 0, none⟩)]] w fun e w' => e = .returned (.int .i64 r) ∧ Below w.heap.size w w' := by
  have hu52 := Try.underlying52
  have HR := Lib.hid hr
  have HCALL := Lib.hid hcall
  have HK1 := Lib.hid hk1
  have HK2 := Lib.hid hk2
  have hkl : k ≤ l.length := by omega
  clear hr hcall hk1 hk2
  go_enter Try.func71, Try.ntmps71
  go_wp2_with fail
  go_loopg [5, 8] l.length (fun gg v5 v8 wr => ∃ i : Nat, v8 = .int .i64 (i : Int) ∧ Aside0 (i ≤ k) ∧ Aside0 (l.length ≤ gg + i) ∧ Aside0 (Below w.heap.size w wr))
  case atStart => exact ⟨0, rfl, ⟨Nat.zero_le _⟩, ⟨by omega⟩, ⟨Below.refl _ w⟩⟩
  case round =>
    obtain ⟨i, rfl, a1, a2, a4⟩ := hrel
    by_cases hi : i < l.length
    · obtain ⟨ad, rfl, hx0, hx1, hx2, hx3⟩ := at_T52 (Kd.C_below HR.out a4.out) (i : Int) (by omega) (by omega)
      rw [Int.toNat_natCast, rd_g] at hx0 hx1 hx2 hx3
      have hcl := HCALL.out wr (Tm.g l i) a4.out
      have hp1 := HK1.out i
      have hp2 : i = k → p (Tm.g l i) = true ∧ r = (i : Int) := by
        intro e
        rcases HK2.out with ⟨_, h2, h3⟩ | ⟨h2, _⟩
        · rw [e]; exact ⟨h2, h3⟩
        · omega
      generalize Tm.g l i = x at *
      obtain ⟨x0, x1, x2, x3⟩ := x
      have HCL := Lib.hid hcl
      clear hcl
      by_cases hik : i = k
      · obtain ⟨hp, hri⟩ := hp2 hik
        have HP := Lib.hid hp
        have HRI := Lib.hid hri
        subst hik
        clear hp1 hp2 hp hri
        go_wp2_with fail
        refine HCL.out.mono ?_
        rintro e w1 ⟨rfl, hb⟩
        rw [HP.out]
        have HB := Lib.hid (a4.out.trans (hb.mono a4.out.size))
        clear hb
        go_wp2_with fail
        all_goals
          go_ret
          exact ⟨by rw [HRI.out]; rfl, HB.out⟩
      · have hlt : i < k := by have := a1.out; omega
        have HP := Lib.hid (hp1 hlt)
        have HLT := Lib.hid hlt
        clear hp1 hp2 hik hlt
        go_wp2_with fail
        refine HCL.out.mono ?_
        rintro e w1 ⟨rfl, hb⟩
        rw [HP.out]
        have HB := Lib.hid (a4.out.trans (hb.mono a4.out.size))
        clear hb
        go_wp2_with fail
        all_goals
          go_roundg (l.length - (i + 1))
          case measure => have := a2.out; omega
          case rel => exact ⟨i + 1, by first | rfl | go_num | (simp; done), ⟨HLT.out⟩, ⟨by omega⟩, ⟨HB.out⟩⟩
    · have HF := Lib.hid (show r = -1 by
        rcases HK2.out with ⟨h1, _⟩ | ⟨_, h2⟩
        · have := a1.out; omega
        · exact h2)
      have e : i = l.length := by have := a1.out; omega
      subst e
      go_wp2_with fail
      all_goals
        go_ret
        exact ⟨by rw [HF.out]; rfl, a4.out⟩
/-- n zeroes of a timer. -/
def z4 : List Value := [.int .i64 0, .int .i64 0, .int .i64 0, .int .u64 0]
def zs4 : Nat → List Value
  | 0 => []
  | n + 1 => z4 ++ zs4 n
theorem zs4_len : ∀ n, (zs4 n).length = n * 4
  | 0 => rfl
  | n + 1 => by rw [zs4, List.length_append, zs4_len n]; simp [z4]; omega
theorem zs4_get : ∀ (n i : Nat), (zs4 n)[i]? = if i < n * 4 then z4[i % 4]? else none
  | 0, i => by simp [zs4]
  | n + 1, i => by
    rw [zs4]
    by_cases h : i < 4
    · rw [List.getElem?_append_left (by simp [z4]; omega), Nat.mod_eq_of_lt h, if_pos (by omega)]
    · rw [List.getElem?_append_right (by simp [z4]; omega), zs4_get n, show z4.length = 4 from rfl]
      have e : i % 4 = (i - 4) % 4 := by omega
      by_cases h2 : i - 4 < n * 4
      · rw [if_pos h2, if_pos (by omega), e]
      · rw [if_neg h2, if_neg (by omega)]
theorem zc52 (n : Nat) : (Builtin.zeroCells #[.int .i64 0, .int .i64 0, .int .i64 0, .int .u64 0] n).toList = zs4 n := by
  apply List.ext_getElem?
  intro i
  rw [zs4_get]
  unfold Builtin.zeroCells
  by_cases h : i < n * 4
  · rw [if_pos h]
    have h4 : i % 4 < 4 := Nat.mod_lt _ (by decide)
    simp [h]
    rcases (show i % 4 = 0 ∨ i % 4 = 1 ∨ i % 4 = 2 ∨ i % 4 = 3 by omega) with e | e | e | e <;> rw [e] <;> rfl
  · rw [if_neg h]
    simp [h]
theorem clear52 (W : World) (ty : TypeId) (g o n c : Nat) (hn : 0 < n) (hc : ∀ j, j < n * 4 → (W.cell? ⟨g, o + j, none⟩).isSome = true) (hf : ∀ j, j < n * 4 → W.frozen? ⟨g, o + j, none⟩ = false) :
    (Builtin.clear_ #[54] ty #[.slice (some ⟨g, o, none⟩) n c]).run Try.prog W = .ok (.tuple #[]) (W.setCells g o (zs4 n)) := by
  have hst := run_storeCells_cells (P := Try.prog) g o (zs4 n) 0 W (by rw [zs4_len]; simpa using hc) (by rw [zs4_len]; simpa using hf) (by
    intro v hv
    obtain ⟨i, hi⟩ := List.getElem?_of_mem hv
    rw [zs4_get] at hi
    split at hi
    · have h4 : i % 4 < 4 := Nat.mod_lt _ (by decide)
      rcases (show i % 4 = 0 ∨ i % 4 = 1 ∨ i % 4 = 2 ∨ i % 4 = 3 by omega) with e | e | e | e <;> rw [e] at hi <;> cases hi <;> rfl
    · cases hi)
  simp only [Nat.add_zero] at hst
  obtain ⟨m, rfl⟩ : ∃ m, n = m + 1 := ⟨n - 1, by omega⟩
  have hz : (zeroValue 52).run Try.prog W = .ok (.agg #[.int .i64 0, .int .i64 0, .int .i64 0, .int .u64 0]) W := by kernel_rfl
  have hzc : (Value.agg #[.int .i64 0, .int .i64 0, .int .i64 0, .int .u64 0]).cells = #[.int .i64 0, .int .i64 0, .int .i64 0, .int .u64 0] := rfl
  simp [Builtin.clear_, run_underlying Try.underlying54, hz, hzc, zc52, hst]
/-- Zero timers are stored from place i on. -/
theorem clear_row {base g cap : Nat} {ok : Nat → Prop} : ∀ (n i : Nat) (W : World) (N : Nat) (xs : List S52), Kd.R k52 52 W base ok (.slice (some ⟨g, 0, none⟩) N cap) xs → i + n ≤ N →
    (∃ ys, ys.take i = xs.take i ∧ Kd.R k52 52 (W.setCells g (i * 4) (zs4 n)) base ok (.slice (some ⟨g, 0, none⟩) N cap) ys) ∧ (0 < n → base ≤ g) ∧ ∀ (B : Nat) (w : World), B ≤ base → Below B w W → Below B w (W.setCells g (i * 4) (zs4 n))
  | 0, i, W, N, xs, h, hi => ⟨⟨xs, rfl, h⟩, fun q => absurd q (by decide), fun B w hB hb => hb⟩
  | n + 1, i, W, N, xs, h, hi => by
    obtain ⟨h1, h2⟩ := put52 h i (by omega) ⟨0, 0, 0, 0⟩
    have hge : base ≤ g ∧ g < W.heap.size := by
      obtain ⟨g', cap', e, hg, hgl, _⟩ := Kd.R_form h (by have := (Kd.R_reads' h).1; omega)
      injection e with e1 e2 e3
      injection e1 with e1
      injection e1 with e1
      omega
    have he : W.setCells g (i * 4) (zs4 (n + 1)) = (st4 W g i ⟨0, 0, 0, 0⟩).setCells g ((i + 1) * 4) (zs4 n) := by
      rw [show (i + 1) * 4 = i * 4 + 1 + 1 + 1 + 1 by omega]
      rfl
    rw [he]
    obtain ⟨⟨ys, q1, q2⟩, _, q3⟩ := clear_row n (i + 1) _ N _ h1 (by omega)
    refine ⟨⟨ys, ?_, q2⟩, fun _ => hge.1, fun B w hB hb => q3 B w hB (pw_below_grown hb (some g) (by omega) h2 (fun k hk => by injection hk with hk; omega))⟩
    have := congrArg (List.take i) q1
    rw [List.take_take, List.take_take, show min i (i + 1) = i by omega] at this
    rw [this, List.take_set_of_le (Nat.le_refl _)]
end Go.Proofs.Ytahppppkepcbkaa.Fn
/- timer.Drop, by hand: slices.DeleteFunc. -/
namespace Go.Proofs.Ytahppppkepcbkaa.Fn
open Go.RowKit Go.Proofs.YtahppppkepcbkaaW.PrintWords Go.Proofs.YtahppppkepcbkaaW.PrintLast Go.Proofs.YtahppppkepcbkaaW.PrintMore Go.Proofs.Ytahppppkepcbkaa.Tm
set_option linter.unusedVariables false
set_option linter.unusedSimpArgs false
set_option maxRecDepth 100000
theorem filter_step {p : S52 → Bool} {l : List S52} {j : Nat} (hj : j < l.length) : (l.take (j + 1)).filter p = (l.take j).filter p ++ (if p (Tm.g l j) = true then [Tm.g l j] else []) := by
  have e : l.take (j + 1) = l.take j ++ [Tm.g l j] := by
    rw [List.take_succ_eq_append_getElem hj]
    simp [Tm.g, hj]
  rw [e, List.filter_append, List.filter_cons, List.filter_nil]
theorem g_drop {x l : List S52} {j : Nat} (h : x.drop j = l.drop j) : Tm.g x j = Tm.g l j ∧ x.drop (j + 1) = l.drop (j + 1) := by
  constructor
  · have := congrArg (fun z => z.getD 0 z52) h
    simpa [Tm.g] using this
  · rw [← List.drop_drop, ← List.drop_drop, h]
theorem filter_none {p : S52 → Bool} {l : List S52} (h : ∀ j, j < l.length → p (Tm.g l j) = true) : l.filter p = l := by
  rw [List.filter_eq_self]
  intro a ha
  obtain ⟨i, hi, rfl⟩ := List.mem_iff_getElem.1 ha
  have := h i hi
  simpa [Tm.g, hi] using this
set_option maxHeartbeats 2000000 in
theorem dropd_some (wb W : World) (g c : Nat) (l : List S52) (b1 b2 : Nat) (p : S52 → Bool) (k : Nat) (hb : Below wb.heap.size wb W) (hr : Kd.R k52 52 W wb.heap.size (fun _ => True) (.slice (some ⟨g, 0, none⟩) l.length c) l) (hm : l.length ≤ 1000)
    (hcall : ∀ (wr : World) (x : S52), Below wb.heap.size wb wr → Calls Try.prog 61 #[.agg #[.int .i64 x.f0, .int .i64 x.f1, .int .i64 x.f2, .int .u64 x.f3], .pointer (some ⟨b1, 0, none⟩), .pointer (some ⟨b2, 0, none⟩)] wr fun e w' => e = .returned (.bool (p x)) ∧ Below wr.heap.size wr w')
    (hk : k < l.length) (hk1 : ∀ j, j < k → p (Tm.g l j) = false) (hk2 : p (Tm.g l k) = true) :
    Calls Try.prog 60 #[.slice (some ⟨g, 0, none⟩) l.length c, .func (.func 61) #[] #[.pointer (some ⟨b1, 0, none⟩), .pointer (some ⟨b2, 0, none⟩)]] W fun e w' => ∃ v, e = .returned v ∧ Kd.R k52 52 w' wb.heap.size (fun _ => True) v (l.filter fun x => !p x) ∧ Below wb.heap.size wb w' := by
  have hu52 := Try.underlying52
  have hu54 := Try.underlying54
  have HR := Lib.hid hr
  have HB := Lib.hid hb
  have HCALL := Lib.hid hcall
  have hrr := Kd.R_reads' hr
  have hcap : l.length ≤ c := hrr.2.1
  have HC := Lib.hid hrr.2.2
  obtain ⟨g', c', eg, hgb, hgl, _⟩ := Kd.R_form hr (by omega)
  injection eg with e1 e2 e3
  injection e1 with e1
  injection e1 with e1
  subst e1
  have HGB := Lib.hid hgb
  have HGL := Lib.hid hgl
  have HS := Lib.hid (show l.take k = (l.take (k + 1)).filter fun x => !p x by
    rw [filter_step hk, hk2, if_neg (by decide), List.append_nil]
    symm
    refine filter_none fun j hj => ?_
    rw [List.length_take] at hj
    have e : Tm.g (l.take k) j = Tm.g l j := by simp [Tm.g, show j < k by omega]
    rw [e, hk1 j (by omega)]
    rfl)
  have HK1 := Lib.hid hk1
  have HK2 := Lib.hid hk2
  have hw1 : wrap64 ((k : Int) + 1) = (k : Int) + 1 := by unfold wrap64; omega
  have HW1 := Lib.hid hw1
  have hne : ((k : Int) = -1) = False := by simp
  clear hr hb hcall hrr e2 e3 hgb hgl hk1 hk2
  go_enter Try.func60, Try.ntmps60
  go_wp2_with (go_at_call 71
               refine (dropi_any (some ⟨g, 0, none⟩) c l _ b1 b2 p k (k : Int) HC.out hcap hm (fun wr x h => HCALL.out wr x (HB.out.trans (h.mono HB.out.size))) HK1.out (Or.inl ⟨hk, HK2.out, rfl⟩)).mono ?_
               rintro e w1 ⟨rfl, hb1⟩
               have HB1 := Lib.hid (HB.out.trans (hb1.mono HB.out.size))
               have HR1 := Lib.hid (Kd.R_below HR.out hb1)
               clear hb1)
  go_loopg [5, 6, 7] l.length (fun gg v5 v6 v7 wr => ∃ (i j : Nat) (x : List S52), v5 = .int .i64 (i : Int) ∧ v6 = .int .i64 (j : Int) ∧ Aside0 (i < j) ∧ Aside0 (j ≤ l.length) ∧ Aside0 (l.length ≤ gg + j) ∧ Aside0 (x.length = l.length) ∧ Aside0 (x.take i = (l.take j).filter fun x => !p x) ∧ Aside0 (x.drop j = l.drop j) ∧ Aside0 (Kd.R k52 52 wr wb.heap.size (fun _ => True) (.slice (some ⟨g, 0, none⟩) l.length c) x) ∧ Aside0 (Below wb.heap.size wb wr))
  case atStart => exact ⟨k, k + 1, l, rfl, by first | rfl | go_num | (simp; done), ⟨by omega⟩, ⟨by omega⟩, ⟨by omega⟩, ⟨rfl⟩, ⟨HS.out⟩, ⟨rfl⟩, ⟨HR1.out⟩, ⟨HB1.out⟩⟩
  case round =>
    obtain ⟨i, j, x, rfl, rfl, a1, a2, a3, a4, a5, a6, a7, a8⟩ := hrel
    clear hw1
    have hin : i < l.length := by have := a1.out; have := a2.out; omega
    by_cases hj : j < l.length
    · have hq := g_drop a6.out
      obtain ⟨⟨hx0, hx1, hx2, hx3⟩, hxf⟩ := get52 a7.out j (by omega)
      rw [hq.1] at hx0 hx1 hx2 hx3
      have HXF := Lib.hid hxf
      have hx4 := hxf 0
      have hx5 := hxf 1
      have hx6 := hxf 2
      have hx7 := hxf 3
      rw [Nat.add_zero] at hx4
      have hsz := a8.out.size
      have HSZ := Lib.hid hsz
      have HPF := Lib.hid (show (l.take (j + 1)).filter (fun x => !p x) = (l.take j).filter (fun x => !p x) ++ (if (!p (Tm.g l j)) = true then [Tm.g l j] else []) from filter_step (p := fun x => !p x) hj)
      have HQ2 := Lib.hid hq.2
      obtain ⟨g', c', eg, _, hgl, _⟩ := Kd.R_form a7.out (by have := a4.out; omega)
      injection eg with e1 e2 e3
      injection e1 with e1
      injection e1 with e1
      subst e1
      have hng : g ≠ wr.heap.size := by omega
      have hng' : wr.heap.size ≠ g := by omega
      have hcl := fun W' h => HCALL.out W' (Tm.g l j) h
      have BIN := Lib.hid hin
      have BJ := Lib.hid hj
      clear hq hxf e2 e3 hgl
      generalize Tm.g l j = v at *
      obtain ⟨v0, v1, v2, v3⟩ := v
      have hbb := a8.out.alloc a8.out.size (.cells #[.int .i64 v0, .int .i64 v1, .int .i64 v2, .int .u64 v3] 52)
      have HBB := Lib.hid hbb
      have HCL := Lib.hid hcl
      clear hbb hcl
      go_wp2_with fail
      refine (HCL.out _ HBB.out).mono ?_
      rintro e w1 ⟨rfl, hb⟩
      obtain ⟨f1, f2⟩ := bcell hb
      have hlt : wr.heap.size < (wr.alloc (.cells #[.int .i64 v0, .int .i64 v1, .int .i64 v2, .int .u64 v3] 52)).heap.size := by simp
      have hc0 : w1.cell? ⟨wr.heap.size, 0, none⟩ = some (.int .i64 v0) := (f1 _ _ hlt).trans ((blk_cell (blk_new wr _) 0).trans rfl)
      have hc1 : w1.cell? ⟨wr.heap.size, 1, none⟩ = some (.int .i64 v1) := (f1 _ _ hlt).trans ((blk_cell (blk_new wr _) 1).trans rfl)
      have hc2 : w1.cell? ⟨wr.heap.size, 2, none⟩ = some (.int .i64 v2) := (f1 _ _ hlt).trans ((blk_cell (blk_new wr _) 2).trans rfl)
      have hc3 : w1.cell? ⟨wr.heap.size, 3, none⟩ = some (.int .u64 v3) := (f1 _ _ hlt).trans ((blk_cell (blk_new wr _) 3).trans rfl)
      have hb1 : Below wb.heap.size wb w1 := HBB.out.trans (hb.mono HBB.out.size)
      have hr1 := Kd.R_below (Kd.R_alloc a7.out (.cells #[.int .i64 v0, .int .i64 v1, .int .i64 v2, .int .u64 v3] 52)) hb
      have HB2 := Lib.hid hb1
      have HR2 := Lib.hid hr1
      clear f1 f2 hlt hb hb1 hx0 hx1 hx2 hx3 hx4 hx5 hx6 hx7
      cases hp : p ⟨v0, v1, v2, v3⟩ with
      | true =>
        have hpf := HPF.out
        rw [hp, if_neg (by decide), List.append_nil] at hpf
        have HPF1 := Lib.hid hpf
        clear hpf hr1
        go_wp2_with fail
        all_goals
          go_roundg (l.length - (j + 1))
          case measure => have := a3.out; omega
          case rel => exact ⟨i, j + 1, x, by first | rfl | go_num | (simp; done), by first | rfl | go_num | (simp; done), ⟨by have := a1.out; omega⟩, ⟨BJ.out⟩, ⟨by omega⟩, ⟨a4.out⟩, ⟨by rw [HPF1.out]; exact a5.out⟩, ⟨HQ2.out⟩, ⟨HR2.out⟩, ⟨HB2.out⟩⟩
      | false =>
        have hpf := HPF.out
        rw [hp, if_pos (show (!false) = true from rfl)] at hpf
        have HPF1 := Lib.hid hpf
        obtain ⟨⟨hy0, hy1, hy2, hy3⟩, hyf⟩ := get52 hr1 i BIN.out
        have hy4 := hyf 0
        have hy5 := hyf 1
        have hy6 := hyf 2
        have hy7 := hyf 3
        rw [Nat.add_zero] at hy4
        obtain ⟨hp1, hp2⟩ := put52 hr1 i BIN.out ⟨v0, v1, v2, v3⟩
        have HP1 := Lib.hid hp1
        have HP2 := Lib.hid (pw_below_grown HB2.out (some g) HB2.out.size hp2 (fun q hq => by injection hq with hq; have := HGB.out; omega))
        have HT := Lib.hid (show (x.set i ⟨v0, v1, v2, v3⟩).take (i + 1) = (l.take (j + 1)).filter (fun x => !p x) by
          rw [HPF1.out, ← a5.out]
          have hix : i < x.length := by have := a4.out; have := BIN.out; omega
          rw [List.take_succ_eq_append_getElem (by rw [List.length_set]; exact hix), List.take_set_of_le (Nat.le_refl _), List.getElem_set_self])
        have HD := Lib.hid (show (x.set i ⟨v0, v1, v2, v3⟩).drop (j + 1) = l.drop (j + 1) by
          rw [List.drop_set_of_lt (by have := a1.out; omega)]
          exact HQ2.out)
        clear hpf hr1 hyf hp1 hp2
        generalize Tm.g x i = y at *
        obtain ⟨y0, y1, y2, y3⟩ := y
        go_wp2_with fail
        all_goals
          go_roundg (l.length - (j + 1))
          case measure => have := a3.out; omega
          case rel => exact ⟨i + 1, j + 1, x.set i ⟨v0, v1, v2, v3⟩, by first | rfl | go_num | (simp; done), by first | rfl | go_num | (simp; done), ⟨by have := a1.out; omega⟩, ⟨BJ.out⟩, ⟨by omega⟩, ⟨by rw [List.length_set]; exact a4.out⟩, ⟨HT.out⟩, ⟨HD.out⟩, ⟨HP1.out⟩, ⟨HP2.out⟩⟩
    · have e : j = l.length := by have := a2.out; omega
      subst e
      have hcells : ∀ q, q < (l.length - i) * 4 → (wr.cell? ⟨g, i * 4 + q, none⟩).isSome = true ∧ wr.frozen? ⟨g, i * 4 + q, none⟩ = false := by
        intro q hq
        obtain ⟨⟨t0, t1, t2, t3⟩, tf⟩ := get52 a7.out (i + q / 4) (by omega)
        have hf := tf (q % 4)
        rw [show (i + q / 4) * 4 + q % 4 = i * 4 + q by omega] at hf
        refine ⟨?_, hf⟩
        have hm4 : q % 4 < 4 := Nat.mod_lt _ (by decide)
        rcases (show q % 4 = 0 ∨ q % 4 = 1 ∨ q % 4 = 2 ∨ q % 4 = 3 by omega) with e | e | e | e
        · rw [show i * 4 + q = (i + q / 4) * 4 by omega, t0]; rfl
        · rw [show i * 4 + q = (i + q / 4) * 4 + 1 by omega, t1]; rfl
        · rw [show i * 4 + q = (i + q / 4) * 4 + 2 by omega, t2]; rfl
        · rw [show i * 4 + q = (i + q / 4) * 4 + 3 by omega, t3]; rfl
      have hclr : ∀ ty, (Builtin.clear_ #[54] ty #[.slice (some ⟨g, i * 4, none⟩) (l.length - i) (c - i)]).run Try.prog wr = .ok (.tuple #[]) (wr.setCells g (i * 4) (zs4 (l.length - i))) :=
        fun ty => clear52 wr ty g (i * 4) (l.length - i) (c - i) (by omega) (fun q hq => (hcells q hq).1) (fun q hq => (hcells q hq).2)
      obtain ⟨⟨ys, q1, q2⟩, _, q3⟩ := clear_row (l.length - i) i wr l.length x a7.out (by omega)
      have hz := Kd.R_take q2 (m := i) (by have := (Kd.R_reads' q2).1; omega)
      rw [q1, a5.out, List.take_length] at hz
      have HZ := Lib.hid hz
      have HZB := Lib.hid (q3 wb.heap.size wb (Nat.le_refl _) a8.out)
      have hil : (i : Int) ≤ (l.length : Int) := by omega
      have hic : i ≤ c := by omega
      have hic' : (i : Int) ≤ (c : Int) := by omega
      clear hz q1 q2 q3 hcells
      generalize wr.setCells g (i * 4) (zs4 (l.length - i)) = w2 at *
      go_wp2_with fail
      all_goals
        go_ret
        exact ⟨_, rfl, HZ.out, HZB.out⟩
set_option maxHeartbeats 1000000 in
theorem dropd_none (W : World) (A : Option Addr) (c : Nat) (l : List S52) (b1 b2 : Nat) (p : S52 → Bool) (hC : Kd.C k52 W A l.length l) (hc : l.length ≤ c) (hm : l.length ≤ 1000)
    (hcall : ∀ (wr : World) (x : S52), Below W.heap.size W wr → Calls Try.prog 61 #[.agg #[.int .i64 x.f0, .int .i64 x.f1, .int .i64 x.f2, .int .u64 x.f3], .pointer (some ⟨b1, 0, none⟩), .pointer (some ⟨b2, 0, none⟩)] wr fun e w' => e = .returned (.bool (p x)) ∧ Below wr.heap.size wr w')
    (hk1 : ∀ j, j < l.length → p (Tm.g l j) = false) :
    Calls Try.prog 60 #[.slice A l.length c, .func (.func 61) #[] #[.pointer (some ⟨b1, 0, none⟩), .pointer (some ⟨b2, 0, none⟩)]] W fun e w' => e = .returned (.slice A l.length c) ∧ Below W.heap.size W w' := by
  have HC := Lib.hid hC
  have HCALL := Lib.hid hcall
  have HK1 := Lib.hid hk1
  clear hC hcall hk1
  go_enter Try.func60, Try.ntmps60
  go_wp2_with (go_at_call 71
               refine (dropi_any A c l _ b1 b2 p l.length (-1) HC.out hc hm HCALL.out HK1.out (Or.inr ⟨rfl, rfl⟩)).mono ?_
               rintro e w1 ⟨rfl, hb1⟩
               have HB1 := Lib.hid hb1
               clear hb1)
  all_goals
    go_ret
    exact ⟨rfl, HB1.out⟩
theorem first_at (p : S52 → Bool) (l : List S52) : ∀ n, (∃ k, k < n ∧ p (Tm.g l k) = true ∧ ∀ j, j < k → p (Tm.g l j) = false) ∨ (∀ j, j < n → p (Tm.g l j) = false)
  | 0 => Or.inr fun j h => absurd h (by omega)
  | n + 1 => by
    rcases first_at p l n with ⟨k, h1, h2, h3⟩ | h
    · exact Or.inl ⟨k, by omega, h2, h3⟩
    · cases hp : p (Tm.g l n) with
      | true => exact Or.inl ⟨n, by omega, hp, h⟩
      | false =>
        refine Or.inr fun j hj => ?_
        by_cases q : j = n
        · rw [q]; exact hp
        · exact h j (by omega)
theorem dropd_any (W : World) (wb : World) (v : Value) (l : List S52) (b1 b2 : Nat) (p : S52 → Bool) (hb : Below wb.heap.size wb W) (hr : Kd.R k52 52 W wb.heap.size (fun _ => True) v l) (hm : l.length ≤ 1000)
    (hcall : ∀ (wr : World) (x : S52), Below wb.heap.size wb wr → Calls Try.prog 61 #[.agg #[.int .i64 x.f0, .int .i64 x.f1, .int .i64 x.f2, .int .u64 x.f3], .pointer (some ⟨b1, 0, none⟩), .pointer (some ⟨b2, 0, none⟩)] wr fun e w' => e = .returned (.bool (p x)) ∧ Below wr.heap.size wr w') :
    Calls Try.prog 60 #[v, .func (.func 61) #[] #[.pointer (some ⟨b1, 0, none⟩), .pointer (some ⟨b2, 0, none⟩)]] W fun e w' => ∃ v, e = .returned v ∧ Kd.R k52 52 w' wb.heap.size (fun _ => True) v (l.filter fun x => !p x) ∧ Below wb.heap.size wb w' := by
  rcases first_at p l l.length with ⟨k, h1, h2, h3⟩ | h
  · obtain ⟨g, c, rfl, _⟩ := Kd.R_form hr (by omega)
    exact dropd_some wb W g c l b1 b2 p k hb hr hm hcall h1 h3 h2
  · obtain ⟨A, c, rfl⟩ := Kd.R_slice hr
    have hrr := Kd.R_reads' hr
    refine (dropd_none W A c l b1 b2 p hrr.2.2 hrr.2.1 hm (fun wr x h => hcall wr x (hb.trans (h.mono hb.size))) h).mono ?_
    rintro e w1 ⟨rfl, hb1⟩
    refine ⟨_, rfl, ?_, hb.trans (hb1.mono hb.size)⟩
    rw [filter_none (fun j hj => by rw [h j hj]; rfl)]
    exact Kd.R_below hr hb1
def timer_Drop.f (l0 : List (S52)) (a1 : Int) (a2 : Int) : Option ((List (S52)) × Int) := some (if okl l0 = true then (l0.filter (fun x => !ofb a1 a2 x), 0) else ([], 1))
set_option maxHeartbeats 1000000 in
theorem timer_Drop.calls (A0 : Option Addr) (c0 : Nat) (l0 : List (S52)) (a1 : Int) (a2 : Int) (r1 : List (S52)) (r2 : Int) (w : World) (hr0 : Kd.C k52 w A0 l0.length l0) (hc0 : l0.length ≤ c0) (h : timer_Drop.f l0 a1 a2 = some (r1, r2)) :
    Calls Try.prog 38 #[.slice A0 l0.length c0, .int .i64 a1, .int .i64 a2] w fun e w' => ∃ v0_ : Value, e = .returned (.tuple #[v0_, .int .i64 r2]) ∧ Kd.R k52 52 w' w.heap.size (fun _ => True) v0_ r1 ∧ Below w.heap.size w w' := by
  have h := Option.some.inj h
  have hbx1 : Below w.heap.size w (w.alloc (.cells #[.int .i64 a1] 3)) := (Below.refl _ w).alloc (Nat.le_refl _) _
  have hsz1 : (w.alloc (.cells #[.int .i64 a1] 3)).heap.size = w.heap.size + 1 := by simp
  have hbx : Below w.heap.size w ((w.alloc (.cells #[.int .i64 a1] 3)).alloc (.cells #[.int .i64 a2] 3)) := hbx1.alloc hbx1.size _
  have hsz : ((w.alloc (.cells #[.int .i64 a1] 3)).alloc (.cells #[.int .i64 a2] 3)).heap.size = w.heap.size + 2 := by simp
  have hb12 : Below (w.alloc (.cells #[.int .i64 a1] 3)).heap.size (w.alloc (.cells #[.int .i64 a1] 3)) ((w.alloc (.cells #[.int .i64 a1] 3)).alloc (.cells #[.int .i64 a2] 3)) := (Below.refl _ _).alloc (Nat.le_refl _) _
  have hL1 : ((w.alloc (.cells #[.int .i64 a1] 3)).alloc (.cells #[.int .i64 a2] 3)).cell? ⟨w.heap.size, 0, none⟩ = some (.int .i64 a1) := ((bcell hb12).1 _ _ (by rw [hsz1]; omega)).trans ((blk_cell (blk_new w _) 0).trans rfl)
  have hF1 : ((w.alloc (.cells #[.int .i64 a1] 3)).alloc (.cells #[.int .i64 a2] 3)).frozen? ⟨w.heap.size, 0, none⟩ = false := ((bcell hb12).2 _ _ (by rw [hsz1]; omega)).trans (blk_frozen (blk_new w _) 0)
  have hL2 : ((w.alloc (.cells #[.int .i64 a1] 3)).alloc (.cells #[.int .i64 a2] 3)).cell? ⟨w.heap.size + 1, 0, none⟩ = some (.int .i64 a2) := by
    rw [← hsz1]
    exact (blk_cell (blk_new _ _) 0).trans rfl
  have hF2 : ((w.alloc (.cells #[.int .i64 a1] 3)).alloc (.cells #[.int .i64 a2] 3)).frozen? ⟨w.heap.size + 1, 0, none⟩ = false := by
    rw [← hsz1]
    exact blk_frozen (blk_new _ _) 0
  have HR := Lib.hid (Kd.C_below hr0 hbx)
  have HX := Lib.hid hbx
  have HCL := Lib.hid (show ∀ (wr : World) (x : S52), Below (w.heap.size + 2) ((w.alloc (.cells #[.int .i64 a1] 3)).alloc (.cells #[.int .i64 a2] 3)) wr → Calls Try.prog 61 #[.agg #[.int .i64 x.f0, .int .i64 x.f1, .int .i64 x.f2, .int .u64 x.f3], .pointer (some ⟨w.heap.size, 0, none⟩), .pointer (some ⟨w.heap.size + 1, 0, none⟩)] wr fun e w' => e = .returned (.bool (ofb a1 a2 x)) ∧ Below wr.heap.size wr w' by
    intro wr x hb
    rw [← hsz] at hb
    have hs := hb.size
    rw [hsz] at hs
    exact dropc_call wr w.heap.size (w.heap.size + 1) a1 a2 (((bcell hb).1 _ _ (by omega)).trans hL1) (((bcell hb).2 _ _ (by omega)).trans hF1) (by omega) (((bcell hb).1 _ _ (by omega)).trans hL2) (((bcell hb).2 _ _ (by omega)).trans hF2) (by omega) x)
  have HSZ := Lib.hid hsz
  clear hr0 hbx1 hsz1 hbx hsz hb12 hL1 hF1 hL2 hF2
  cases ho : okl l0 with
  | false =>
    rw [ho] at h
    obtain ⟨rfl, rfl⟩ := Prod.mk.inj h
    have HK := Lib.hid (show timer_Check.f l0 = some 1 by unfold timer_Check.f; rw [ho]; rfl)
    clear h
    go_enter Try.func38, Try.ntmps38
    go_wp2_with (go_at_call 32
                 refine (timer_Check.calls A0 c0 l0 1 _ HR.out hc0 HK.out).mono ?_
                 rintro e w1 ⟨rfl, hb⟩
                 have HB1 := Lib.hid (HX.out.trans (hb.mono HX.out.size))
                 clear hb)
    all_goals
      go_ret2
      exact ⟨_, rfl, Kd.R_nil _ _ _ _ _, HB1.out⟩
  | true =>
    rw [ho, if_pos rfl] at h
    obtain ⟨rfl, rfl⟩ := Prod.mk.inj h
    have hl0 : l0.length ≤ 256 := by
      unfold okl at ho
      rw [Bool.and_eq_true, decide_eq_true_eq] at ho
      exact ho.1
    have HK := Lib.hid (show timer_Check.f l0 = some 0 by unfold timer_Check.f; rw [ho]; rfl)
    clear h ho
    go_enter Try.func38, Try.ntmps38
    go_wp2_with (first
      | (go_at_call 32
         refine (timer_Check.calls A0 c0 l0 0 _ HR.out hc0 HK.out).mono ?_
         rintro e w1 ⟨rfl, hb⟩
         have HB0 := Lib.hid hb
         have HB1 := Lib.hid (HX.out.trans (hb.mono HX.out.size))
         clear hb)
      | (go_at_call 52
         refine (api_Timer_52.calls A0 c0 l0 l0 _ (Kd.C_below HR.out HB0.out) hc0 (clone52 (by omega))).mono ?_
         rintro e w2 ⟨v, rfl, ho2, hb2⟩
         have HO2 := Lib.hid ho2
         have HB2 := Lib.hid hb2
         clear ho2 hb2)
      | (go_at_call 60
         refine (dropd_any w2 w1 v l0 w.heap.size (w.heap.size + 1) (ofb a1 a2) HB2.out HO2.out (by omega) (fun wr x h => HCL.out wr x (by rw [← HSZ.out]; exact HB0.out.trans (h.mono HB0.out.size)))).mono ?_
         rintro e w3 ⟨v3, rfl, ho3, hb3⟩
         have HO3 := Lib.hid ho3
         have HB3 := Lib.hid hb3
         clear ho3 hb3))
    all_goals
      go_ret2
      exact ⟨_, rfl, Kd.R_lower HO3.out HB1.out.size, HB1.out.trans (HB3.out.mono HB1.out.size)⟩
end Go.Proofs.Ytahppppkepcbkaa.Fn
