/- TableOrders, over lists alone: the printed function answers true at every input. -/
import Derived.Test.YtjamociekniepaaAw28
import Derived.Test.YtjamociekniepaaFnx0
import Derived.Test.YtjamociekniepaaFnx15
import Derived.Test.YtjamociekniepaaFnx19
import Derived.Test.YtjamociekniepaaFnx4
import Derived.Test.YtjamociekniepaaFnx6
import Derived.Test.YtjamociekniepaaSayTableOrders
import Derived.Test.YtjamociekniepaaTab3
import Derived.Lib.Hide
namespace Go.Proofs.Ytjamociekniepaa.Pure
open Go.RowKit Go.Proofs.Ytjamociekniepaa.Fn Go.Proofs.YtjamociekniepaaW.PrintWords Go.Proofs.YtjamociekniepaaW.PrintMore Go.Proofs.Ytjamociekniepaa.Know Go.Proofs.Ytjamociekniepaa.Tab
set_option linter.unusedVariables false
set_option linter.unusedSimpArgs false
set_option linter.unusedSectionVars false
set_option linter.unusedSectionVars false
theorem orders_awake : tattlelaw06_awakeT.f = some true := rfl
theorem orders_may (a0 a1 : Int) : tattleref05_May.f a0 a1 = some (may ⟨a0, a1⟩) := by
  unfold tattleref05_May.f may
  by_cases h : 0 ≤ a1 <;> simp [h]
theorem orders_beats (a0 a1 b0 b1 : Int) : tattleref05_Beats.f a0 a1 b0 b1 = some (bts ⟨a0, a1⟩ ⟨b0, b1⟩) := by
  unfold tattleref05_Beats.f bts
  simp only [orders_may, Option.bind_some]
  generalize may ⟨a0, a1⟩ = A
  generalize may ⟨b0, b1⟩ = B
  cases A <;> cases B <;> simp
  by_cases h0 : b0 < a0
  · simp [h0]
  · by_cases h1 : a0 = b0
    · simp [h0, h1]
    · simp [h0, h1]
/-- What lies at a place. -/
def g (x : List S26) (m : Nat) : S26 := x.getD m z26
theorem g_at {x : List S26} {m : Nat} (h : m < x.length) : g x m = x[m] := by simp [g, h]
theorem g_rd (x : List S26) (m : Nat) : rd_T26 x (m : Int) = g x m := by simp [rd_T26, g]
theorem g_set {x : List S26} {m : Nat} (h : m < x.length) (v : S26) (i : Nat) : g (x.set m v) i = if i = m then v else g x i := by
  simp only [g, List.getD_eq_getElem?_getD, List.getElem?_set]
  by_cases e : m = i
  · subst e; simp [h]
  · rw [if_neg e, if_neg (fun q => e q.symm)]
theorem tmod_to (a n : Int) (ha : 0 ≤ a) (hn : 0 < n) : Int.tmod a n = (((Int.tmod a n).toNat : Nat) : Int) ∧ (((Int.tmod a n).toNat : Nat) : Int) < n := by
  obtain ⟨m, h, h'⟩ := tmod_nat a n ha hn
  rw [h, Int.toNat_natCast]
  exact ⟨rfl, h'⟩
theorem rd_u8 {w : List Int} (hw : ∀ x ∈ w, (Lit.int .u8 x).wf = true) (i : Int) : 0 ≤ rd w i ∧ rd w i ≤ 255 := by
  unfold rd
  rw [List.getD_eq_getElem?_getD]
  cases h : w[i.toNat]? with
  | none => simp
  | some v => exact u8_wf (hw v (List.mem_of_getElem? h))
theorem w_id (x : Int) (h : 0 ≤ x) (h' : x ≤ 255) : wrap64 x = x := by unfold wrap64; omega
/-- Whose turn it is. -/
def pl (who : List Int) (n : Nat) (i : Nat) : Nat := (Int.tmod (wrap64 (rd who (Int.tmod (i : Int) (who.length : Int)))) (n : Int)).toNat
section
variable (t L : List S26) (who : List Int)
/-- Known at each place at least as well as at first, and as all that is told. -/
structure UB (u : Nat → S26) : Prop where
  base : ∀ m, m < t.length → le (g t m) (u m)
  told : ∀ i, i < L.length → le (g L i) (u (pl who t.length i))
/-- Between what was known at first and what is known in the end. -/
structure Mid (x : List S26) : Prop where
  len : x.length = t.length
  ok : okt x = true
  pos : nn x
  base : ∀ m, m < t.length → le (g t m) (g x m)
  low : ∀ u, UB t L who u → ∀ m, m < t.length → le (g x m) (u m)
end
section
variable {t L : List S26} {who order : List Int} (ho : okt t = true) (hn : nn t) (hL : L.length ≤ 12) (hLn : nn L) (hw : 0 < who.length) (hwl : who.length ≤ maxLen) (hwf : ∀ x ∈ who, (Lit.int .u8 x).wf = true)
include ho hw hwf
theorem pl_lt (i : Nat) : Int.tmod (wrap64 (rd who (Int.tmod (i : Int) (who.length : Int)))) (t.length : Int) = ((pl who t.length i : Nat) : Int) ∧ pl who t.length i < t.length := by
  have h1 := okt_len ho
  obtain ⟨q1, q2⟩ := rd_u8 hwf (Int.tmod (i : Int) (who.length : Int))
  have hv := w_id _ q1 q2
  obtain ⟨a, b⟩ := tmod_to (wrap64 (rd who (Int.tmod (i : Int) (who.length : Int)))) (t.length : Int) (by omega) (by omega)
  unfold pl
  exact ⟨a, by omega⟩
theorem Mid.step {x : List S26} (h : Mid t L who x) (i : Nat) (hi : i < L.length) (hm : may (g L i) = true) (hn0 : 0 ≤ (g L i).f0) (K : Nat) (hK : 101 ≤ K) :
    ∃ x' y, table_Apply.f K x (Int.tmod (wrap64 (rd who (Int.tmod (i : Int) (who.length : Int)))) (t.length : Int)) (g L i).f0 (g L i).f1 = some (x', y, 0) ∧ Mid t L who x' ∧ le (g L i) (g x' (pl who t.length i)) ∧ (∀ m, m < t.length → le (g x m) (g x' m)) := by
  obtain ⟨e, hp⟩ := pl_lt ho hw hwf i
  generalize hq : pl who t.length i = p at *
  have hl := h.len
  have hpx : p < x.length := by omega
  have hmx : may x[p] = true := okt_may h.ok _ (List.getElem_mem hpx)
  have hj := jn_may hm hmx
  have hset : ∀ m, g (x.set p (jn x[p] (g L i))) m = if m = p then jn x[p] (g L i) else g x m := fun m => g_set hpx _ m
  refine ⟨x.set p (jn x[p] (g L i)), !decide (jn x[p] (g L i) = x[p]), ?_, ⟨?_, ?_, ?_, ?_, ?_⟩, ?_, ?_⟩
  · rw [e, apply_ok K h.ok h.pos p hpx hm hK]
    by_cases q : jn x[p] (g L i) = x[p]
    · rw [if_pos q, q, List.set_getElem_self, decide_eq_true rfl]
      rfl
    · rw [if_neg q, decide_eq_false q]
      rfl
  · rw [List.length_set]; exact hl
  · exact okt_set h.ok p hj
  · exact nn_set h.pos p (jn_nn (h.pos _ (List.getElem_mem hpx)) hn0)
  · intro m hm'
    rw [hset]
    split
    · rename_i q; subst q
      exact le_trans (h.base _ hm') (by rw [g_at hpx]; exact jn_left hm hmx)
    · exact h.base _ hm'
  · intro u hu m hm'
    rw [hset]
    split
    · rename_i q; subst q
      refine jn_lub hm hmx (by have := hu.told i hi; rwa [hq] at this) ?_
      have := h.low u hu _ hm'
      rwa [g_at hpx] at this
    · exact h.low u hu _ hm'
  · rw [hset, if_pos rfl]
    exact jn_right hm hmx
  · intro m _
    rw [hset]
    split
    · rename_i q; subst q
      rw [g_at hpx]
      exact jn_left hm hmx
    · exact le_refl _
include hn hL hLn hwl
theorem orders_l3 {a : List S26} (ha : Mid t L who a) (hall : ∀ i, i < L.length → le (g L i) (g a (pl who t.length i))) (hmay : ∀ i, i < L.length → may (g L i) = true) :
    ∀ (d K : Nat) (x : List S26), d ≤ L.length → d + 220 ≤ K → Mid t L who x → (∀ i, d ≤ i → i < L.length → le (g L i) (g x (pl who t.length i))) →
    tattlelaw06_TableOrders.l3 K t L who a x ((d : Int) - 1) = some true
  | 0, K, x, hd, hK, hx, hall' => by
    obtain ⟨K, rfl⟩ : ∃ m, K = m + 1 := ⟨K - 1, by omega⟩
    have hlen := okt_len ho
    have e : a = x := by
      refine List.ext_getElem (by rw [ha.len, hx.len]) fun m h1 h2 => ?_
      have hm : m < t.length := by rw [← ha.len]; exact h1
      have q1 := ha.low (g x) ⟨hx.base, fun i hi => hall' i (Nat.zero_le _) hi⟩ m hm
      have q2 := hx.low (g a) ⟨ha.base, hall⟩ m hm
      rw [g_at h1, g_at h2] at q1 q2
      exact le_antisymm q1 q2
    have hal := ha.len
    rw [tattlelaw06_TableOrders.l3, if_neg (by omega), same_eq K a x (by simp [maxLen]; omega) (by omega), Option.bind_some, decide_eq_true e, if_pos rfl, orders_awake]
    rfl
  | d + 1, K, x, hd, hK, hx, hall' => by
    obtain ⟨K, rfl⟩ : ∃ m, K = m + 1 := ⟨K - 1, by omega⟩
    have hlen := okt_len ho
    have hdl : d < L.length := by omega
    have hmem : 0 ≤ (g L d).f0 := by rw [g_at hdl]; exact hLn _ (List.getElem_mem hdl)
    obtain ⟨x', y, hap, hx', hle, hmon⟩ := Mid.step ho hw hwf hx d hdl (hmay d hdl) hmem K (by omega)
    have HW := Lib.hid (show wrap64 ((d : Int) - 1) = (d : Int) - 1 by unfold wrap64; omega)
    obtain ⟨ht1, ht2⟩ := tmod_to (d : Int) (who.length : Int) (by omega) (by omega)
    have h0 : 0 ≤ Int.tmod (d : Int) (who.length : Int) := by omega
    have h1 : Int.tmod (d : Int) (who.length : Int) < (who.length : Int) := by omega
    rw [show ((d + 1 : Nat) : Int) - 1 = (d : Int) by omega, tattlelaw06_TableOrders.l3, if_pos (by omega), if_neg (by omega), if_pos h0, if_pos h1, if_neg (by omega), if_pos (by omega), if_pos (by omega), g_rd, hap, Option.bind_some, if_pos rfl, HW.out]
    refine orders_l3 ha hall hmay d K x' (by omega) (by omega) hx' fun i hi hil => ?_
    by_cases q : i = d
    · subst q; exact hle
    · exact le_trans (hall' i (by omega) hil) (hmon _ (pl_lt ho hw hwf i).2)
theorem orders_l2 (hof : ∀ x ∈ order, (Lit.int .u8 x).wf = true) {a : List S26} (ha : Mid t L who a) (hall : ∀ i, i < L.length → le (g L i) (g a (pl who t.length i))) (hmay : ∀ i, i < L.length → may (g L i) = true) :
    ∀ (d i K : Nat) (x : List S26), i + d = 40 → 2 * d + 300 ≤ K → Mid t L who x →
    tattlelaw06_TableOrders.l2 K t L who order a x (i : Int) = some true := by
  have hend : ∀ (i K : Nat) (x : List S26), 290 ≤ K → Mid t L who x → tattlelaw06_TableOrders.j6 K t L who order a x (i : Int) false = some true := by
    intro i K x hK hx
    obtain ⟨K, rfl⟩ : ∃ m, K = m + 1 := ⟨K - 1, by omega⟩
    have HW := Lib.hid (show wrap64 ((L.length : Int) - 1) = (L.length : Int) - 1 by unfold wrap64; omega)
    rw [tattlelaw06_TableOrders.j6, if_neg (by decide), HW.out]
    exact orders_l3 ho hn hL hLn hw hwl hwf ha hall hmay L.length K x (Nat.le_refl _) (by omega) hx (fun i h1 h2 => absurd h2 (by omega))
  intro d
  induction d with
  | zero =>
    intro i K x hi hK hx
    obtain ⟨K, rfl⟩ : ∃ m, K = m + 1 := ⟨K - 1, by omega⟩
    rw [tattlelaw06_TableOrders.l2]
    by_cases h : (i : Int) < (order.length : Int)
    · rw [if_pos h, if_neg (by omega)]
      exact hend i K x (by omega) hx
    · rw [if_neg h]
      exact hend i K x (by omega) hx
  | succ d ih =>
    intro i K x hi hK hx
    obtain ⟨K, rfl⟩ : ∃ m, K = m + 2 := ⟨K - 2, by omega⟩
    rw [tattlelaw06_TableOrders.l2]
    by_cases h : (i : Int) < (order.length : Int)
    · rw [if_pos h, if_pos (by omega)]
      by_cases hz : 0 < L.length
      · have hlen := okt_len ho
        obtain ⟨q1, q2⟩ := rd_u8 hof (i : Int)
        have hv := w_id _ q1 q2
        obtain ⟨e1, e2⟩ := tmod_to (wrap64 (rd order (i : Int))) (L.length : Int) (by omega) (by omega)
        generalize hc : (Int.tmod (wrap64 (rd order (i : Int))) (L.length : Int)).toNat = c at e1 e2
        have hcl : c < L.length := by omega
        have hmem : 0 ≤ (g L c).f0 := by rw [g_at hcl]; exact hLn _ (List.getElem_mem hcl)
        obtain ⟨x', y, hap, hx', hle, hmon⟩ := Mid.step ho hw hwf hx c hcl (hmay c hcl) hmem K (by omega)
        have HW := Lib.hid (show wrap64 ((i : Int) + 1) = ((i + 1 : Nat) : Int) by unfold wrap64; omega)
        obtain ⟨ht1, ht2⟩ := tmod_to (c : Int) (who.length : Int) (by omega) (by omega)
        have h0 : 0 ≤ Int.tmod (c : Int) (who.length : Int) := by omega
        have h1 : Int.tmod (c : Int) (who.length : Int) < (who.length : Int) := by omega
        clear hv hc
        rw [decide_eq_true (by omega), tattlelaw06_TableOrders.j6, if_pos rfl, if_pos (by omega), if_pos h, if_neg (by omega), if_neg (by omega), e1, if_pos h0, if_pos h1, if_neg (by omega), if_pos (by omega), if_pos (by omega), g_rd, hap, Option.bind_some, if_pos rfl, HW.out]
        exact ih (i + 1) K x' (by omega) (by omega) hx'
      · rw [decide_eq_false (by omega)]
        exact hend i (K + 1) x (by omega) hx
    · rw [if_neg h]
      exact hend i (K + 1) x (by omega) hx
theorem orders_l1 {x next : List S26} (hx : Mid t L who x) (hx' : Mid t L who next) (hmon : ∀ m, m < t.length → le (g x m) (g next m)) (i R : Nat)
    (hrest : ∀ K, R ≤ K → tattlelaw06_TableOrders.l0 K t L who order next t (wrap64 ((i : Int) + 1)) = some true) :
    ∀ (d m K : Nat), m + d = t.length → d + 1 + R ≤ K → tattlelaw06_TableOrders.l1 K t L who order x t (i : Int) next (m : Int) = some true
  | 0, m, K, hm, hK => by
    obtain ⟨K, rfl⟩ : ∃ m, K = m + 1 := ⟨K - 1, by omega⟩
    have hl := hx.len
    rw [tattlelaw06_TableOrders.l1, if_neg (by omega)]
    exact hrest K (by omega)
  | d + 1, m, K, hm, hK => by
    obtain ⟨K, rfl⟩ : ∃ m, K = m + 1 := ⟨K - 1, by omega⟩
    have hl := hx.len
    have hl' := hx'.len
    have hlen := okt_len ho
    have hmt : m < t.length := by omega
    have h1 : m < x.length := by omega
    have h2 : m < next.length := by omega
    have hq := hmon m hmt
    have hb : bts (g x m) (g next m) = false := by
      rw [g_at h1, g_at h2] at hq ⊢
      exact bts_false (okt_may hx.ok _ (List.getElem_mem h1)) (okt_may hx'.ok _ (List.getElem_mem h2)) hq
    have hb' : bts ⟨(g x m).f0, (g x m).f1⟩ ⟨(g next m).f0, (g next m).f1⟩ = false := hb
    have HW := Lib.hid (show wrap64 ((m : Int) + 1) = ((m + 1 : Nat) : Int) by unfold wrap64; omega)
    rw [tattlelaw06_TableOrders.l1, if_pos (by omega), if_pos (by omega), if_pos (by omega), g_rd, g_rd, orders_beats, Option.bind_some, hb', if_neg (by decide), HW.out]
    exact orders_l1 hx hx' hmon i R hrest d (m + 1) K (by omega) (by omega)
set_option maxRecDepth 100000 in
theorem orders_l0 (hof : ∀ x ∈ order, (Lit.int .u8 x).wf = true) : ∀ (d i K : Nat) (x : List S26), i + d = L.length → 80 * d + 400 ≤ K → Mid t L who x → (∀ j, j < i → le (g L j) (g x (pl who t.length j))) → (∀ j, j < i → may (g L j) = true) →
    tattlelaw06_TableOrders.l0 K t L who order x t (i : Int) = some true
  | 0, i, K, x, hi, hK, hx, hall, hmay => by
    obtain ⟨K, rfl⟩ : ∃ m, K = m + 1 := ⟨K - 1, by omega⟩
    rw [tattlelaw06_TableOrders.l0, if_neg (by omega)]
    have ht : Mid t L who t := ⟨rfl, ho, hn, fun m _ => le_refl _, fun u hu m hm => hu.base m hm⟩
    exact orders_l2 ho hn hL hLn hw hwl hwf hof hx (fun j hj => hall j (by omega)) (fun j hj => hmay j (by omega)) 40 0 K t (by omega) (by omega) ht
  | d + 1, i, K, x, hi, hK, hx, hall, hmay => by
    obtain ⟨K, rfl⟩ : ∃ m, K = m + 2 := ⟨K - 2, by omega⟩
    have hlen := okt_len ho
    have HKK := Lib.hid (show t.length + 1 + (80 * d + 400) ≤ K by clear hall hmay hx; omega)
    have hil : i < L.length := by omega
    have hmay' : tattleref05_May.f (g L i).f0 (g L i).f1 = some (may (g L i)) := orders_may _ _
    rw [tattlelaw06_TableOrders.l0, if_pos (by omega), if_pos (by omega), g_rd, hmay', Option.bind_some]
    by_cases hm : may (g L i) = true
    · have hmem : 0 ≤ (g L i).f0 := by rw [g_at hil]; exact hLn _ (List.getElem_mem hil)
      obtain ⟨x', y, hap, hx', hle, hmon⟩ := Mid.step ho hw hwf hx i hil hm hmem (K + 1) (by omega)
      obtain ⟨ht1, ht2⟩ := tmod_to (i : Int) (who.length : Int) (by omega) (by omega)
      have h0 : 0 ≤ Int.tmod (i : Int) (who.length : Int) := by omega
      have h1 : Int.tmod (i : Int) (who.length : Int) < (who.length : Int) := by omega
      have hl := hx.len
      have hl' := hx'.len
      have HNE := Lib.hid (show ((x'.length : Int) != (x.length : Int)) = false by rw [hl.trans hl'.symm]; exact bne_self_eq_false _)
      have HW := Lib.hid (show wrap64 ((i : Int) + 1) = ((i + 1 : Nat) : Int) by unfold wrap64; omega)
      rw [if_pos hm, if_neg (by omega), if_pos h0, if_pos h1, if_neg (by omega), hap, Option.bind_some, if_pos rfl, HNE.out, tattlelaw06_TableOrders.j3, if_neg (by decide)]
      refine orders_l1 ho hn hL hLn hw hwl hwf hx hx' hmon i (80 * d + 400) (fun K' hK' => ?_) t.length 0 K (Nat.zero_add _) HKK.out
      rw [HW.out]
      refine orders_l0 hof d (i + 1) K' x' (by omega) hK' hx' (fun j hj => ?_) (fun j hj => ?_)
      · by_cases q : j = i
        · subst q; exact hle
        · exact le_trans (hall j (by omega)) (hmon _ (pl_lt ho hw hwf j).2)
      · by_cases q : j = i
        · subst q; exact hm
        · exact hmay j (by omega)
    · rw [if_neg hm, orders_awake]
      rfl
end
theorem TableOrders : tattlelaw06_TableOrders.Pure := by
  intro l0 l1 l2 l3 h0 h1 h2 h3
  obtain ⟨_, _, hok0⟩ := h0
  obtain ⟨_, _, hok1⟩ := h1
  obtain ⟨hm2, _, hok2⟩ := h2
  obtain ⟨_, _, hok3⟩ := h3
  have n0 : nn (few l0) := fun x hx => (u64_wf (hok0 x (few_mem hx)).1).1
  have n1 : nn l1 := fun x hx => (u64_wf (hok1 x hx).1).1
  obtain ⟨K, hK⟩ : ∃ K : Nat, 2000 ≤ K := ⟨2000, Nat.le_refl _⟩
  refine ⟨K + 2, ?_⟩
  unfold tattlelaw06_TableOrders.f
  rw [few_eq, Option.bind_some, tcheck_eq (K + 2) _ (by omega), Option.bind_some]
  generalize few l0 = t at *
  have hend : ∀ K, tattlelaw06_TableOrders.j0 (K + 1) t l1 l2 l3 true = some true := by
    intro K
    rw [tattlelaw06_TableOrders.j0, if_pos rfl, orders_awake]
    rfl
  by_cases ho : okt t = true
  · have hlen := okt_len ho
    rw [if_pos ho, if_pos rfl, if_neg (by omega)]
    by_cases hw : 0 < l2.length
    · have ht : ∀ L, Mid t L l2 t := fun L => ⟨rfl, ho, n0, fun m _ => le_refl _, fun u hu m hm => hu.base m hm⟩
      rw [show ((l2.length : Int) == 0) = false by simp; intro q; rw [q] at hw; simp at hw, tattlelaw06_TableOrders.j0, if_neg (by decide)]
      by_cases hl : (l1.length : Int) > 12
      · rw [if_pos hl, if_pos (by omega), tattlelaw06_TableOrders.j1]
        have hll : (l1.take 12).length ≤ 12 := by rw [List.length_take]; omega
        have q := orders_l0 ho n0 hll (fun x hx => n1 x (List.mem_of_mem_take hx)) hw hm2 hok2 hok3 (l1.take 12).length 0 K t (by omega) (by omega) (ht _) (fun j hj => absurd hj (by omega)) (fun j hj => absurd hj (by omega))
        exact q
      · rw [if_neg hl, tattlelaw06_TableOrders.j1]
        have q := orders_l0 ho n0 (show l1.length ≤ 12 by omega) n1 hw hm2 hok2 hok3 l1.length 0 K t (by omega) (by omega) (ht _) (fun j hj => absurd hj (by omega)) (fun j hj => absurd hj (by omega))
        exact q
    · rw [show ((l2.length : Int) == 0) = true by simp; exact List.eq_nil_of_length_eq_zero (by omega)]
      exact hend _
  · rw [if_neg ho, if_neg (by decide)]
    exact hend _
end Go.Proofs.Ytjamociekniepaa.Pure
