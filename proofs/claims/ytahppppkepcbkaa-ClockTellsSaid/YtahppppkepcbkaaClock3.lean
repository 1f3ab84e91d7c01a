/- The document's ticks, and clocks that are near: plain facts. -/
import Derived.Test.YtahppppkepcbkaaFnx0
import Derived.Test.YtahppppkepcbkaaFnx15
import Derived.Test.YtahppppkepcbkaaFnx16
import Derived.Test.YtahppppkepcbkaaFnx17
import Derived.Test.YtahppppkepcbkaaClock2
namespace Go.Proofs.Ytahppppkepcbkaa.Clo
set_option maxRecDepth 100000
open Go.RowKit Go.Proofs.Ytahppppkepcbkaa.Fn Go.Proofs.YtahppppkepcbkaaW.PrintWords Go.Proofs.YtahppppkepcbkaaW.PrintMore Go.Proofs.Ytahppppkepcbkaa.Gua Go.Proofs.Ytahppppkepcbkaa.Clk
/-- Has x ticks alone from i on, in so many beats? -/
def only (l : List S87) (x : Int) : Nat → Nat → Bool
  | _, 0 => true
  | i, m + 1 => (!decide (pnd l i = x) || decide (pwh l i = 0)) && only l x (i + 1) m
theorem only_iff (l : List S87) (x : Int) : ∀ (m i : Nat), only l x i m = true ↔ ∀ j, i ≤ j → j < i + m → pnd l j = x → pwh l j = 0
  | 0, i => ⟨fun _ j h1 h2 => by omega, fun _ => rfl⟩
  | m + 1, i => by
    have ih := only_iff l x m (i + 1)
    rw [only, Bool.and_eq_true, ih, Bool.or_eq_true, Bool.not_eq_true', decide_eq_false_iff_not, decide_eq_true_eq]
    constructor
    · rintro ⟨h1, h2⟩ j hj hj2 hx
      by_cases e : j = i
      · subst e
        rcases h1 with h1 | h1
        · exact absurd hx h1
        · exact h1
      · exact h2 j (by omega) (by omega) hx
    · intro h
      refine ⟨?_, fun j h1 h2 hx => h j (by omega) (by omega) hx⟩
      by_cases e : pnd l i = x
      · exact .inr (h i (Nat.le_refl _) (by omega) e)
      · exact .inl e
theorem rticks_l0 (l : List S87) (x : Int) (q : Nat) (hq : q ≤ l.length) (hl : l.length ≤ 400) : ∀ (m i : Nat) (c : Int) (F : Nat), i + m = q → m + 1 ≤ F → 0 ≤ c ∧ c ≤ (i : Int) → tattleref04_Ticks.l0 F l x (q : Int) c (i : Int) = some (if only l x i m = true then (c + (tk (pnd l) (pwh l) x q - tk (pnd l) (pwh l) x i), true) else (0, false))
  | 0, i, c, F, hi, hF, hc => by
    obtain ⟨F, rfl⟩ : ∃ q, F = q + 1 := ⟨F - 1, by omega⟩
    obtain rfl : i = q := by omega
    rw [tattleref04_Ticks.l0, if_neg (by omega), only, if_pos rfl, show c + (tk (pnd l) (pwh l) x i - tk (pnd l) (pwh l) x i) = c by omega]
  | m + 1, i, c, F, hi, hF, hc => by
    obtain ⟨F, rfl⟩ : ∃ q, F = q + 1 := ⟨F - 1, by omega⟩
    have e : wrap64 ((i : Int) + 1) = ((i + 1 : Nat) : Int) := by rw [w64_id _ (by omega) (by omega)]; omega
    have e2 : wrap64 (c + 1) = c + 1 := w64_id _ (by omega) (by omega)
    have p0 : (rd_T87 l (i : Int)).f0 = pnd l i := rfl
    have p1 : (rd_T87 l (i : Int)).f1 = pwh l i := rfl
    rw [tattleref04_Ticks.l0, if_pos (by omega), if_pos (by omega), if_pos (by omega), p0, p1, e, e2, only]
    have ht : tk (pnd l) (pwh l) x (i + 1) = if pnd l i = x ∧ pwh l i = 0 then tk (pnd l) (pwh l) x i + 1 else tk (pnd l) (pwh l) x i := rfl
    by_cases h1 : pnd l i = x
    · rw [if_pos h1, decide_eq_true h1]
      by_cases h2 : pwh l i = 0
      · rw [if_pos ⟨h1, h2⟩] at ht
        rw [if_pos h2, decide_eq_true h2, rticks_l0 l x q hq hl m (i + 1) (c + 1) F (by omega) (by omega) ⟨by omega, by omega⟩, ht]
        simp only [Bool.not_true, Bool.false_or, Bool.true_and]
        rw [show c + 1 + (tk (pnd l) (pwh l) x q - (tk (pnd l) (pwh l) x i + 1)) = c + (tk (pnd l) (pwh l) x q - tk (pnd l) (pwh l) x i) by omega]
      · rw [if_neg h2, decide_eq_false h2]
        rfl
    · rw [if_neg (fun q => h1 q.1)] at ht
      rw [if_neg h1, decide_eq_false h1, rticks_l0 l x q hq hl m (i + 1) c F (by omega) (by omega) ⟨by omega, by omega⟩, ht]
      simp only [Bool.not_false, Bool.true_or, Bool.true_and]
theorem rticks_eq {l : List S87} (hw : ∀ i, i < l.length → pwh l i = 0 ∨ pwh l i = 1 ∨ pwh l i = 2) (hl : l.length ≤ 400) (x : Int) {p q : Nat} (hpq : p ≤ q) (hq : q ≤ l.length) (F : Nat) (hF : 1000 ≤ F) :
    tattleref04_Ticks.f F l x (p : Int) (q : Int) = some (if upf (pnd l) (pwh l) x p q = true then (tk (pnd l) (pwh l) x q - tk (pnd l) (pwh l) x p, true) else (0, false)) := by
  have hu := upf_iff (pnd l) (pwh l) x p (q - p) (fun i hi => hw i (by omega))
  rw [show p + (q - p) = q by omega] at hu
  have ho := only_iff l x (q - p) p
  rw [show p + (q - p) = q by omega] at ho
  unfold tattleref04_Ticks.f
  rw [up_f l x p (by omega) (by omega) F (by omega), Option.bind_some]
  cases h : upb (pnd l) (pwh l) x p with
  | false =>
    rw [if_neg (by decide), if_neg (fun q => by have := (hu.1 q).1; rw [h] at this; cases this)]
  | true =>
    rw [if_pos rfl, rticks_l0 l x q hq hl (q - p) p 0 F (by omega) (by omega) ⟨by omega, by omega⟩]
    by_cases hb : only l x p (q - p) = true
    · rw [if_pos hb, if_pos (hu.2 ⟨h, ho.1 hb⟩), Int.zero_add]
    · rw [if_neg hb, if_neg (fun q => hb (ho.2 (hu.1 q).2))]
theorem rtwo_eq {l : List S87} (hw : ∀ i, i < l.length → pwh l i = 0 ∨ pwh l i = 1 ∨ pwh l i = 2) (hl : l.length ≤ 400) {d r : Int} (hb : bnd d r) (a b : Int) {p q : Nat} (hpq : p ≤ q) (hq : q ≤ l.length) (F : Nat) (hF : 1000 ≤ F) :
    tattleref04_Two.f F l a b (p : Int) (q : Int) d r = some (two (pnd l) (pwh l) d r a b p q) := by
  obtain ⟨F, rfl⟩ : ∃ q, F = q + 1 := ⟨F - 1, by omega⟩
  have hma := tk_mono (pnd l) (pwh l) a p (q - p)
  have hmb := tk_mono (pnd l) (pwh l) b p (q - p)
  rw [show p + (q - p) = q by omega] at hma hmb
  unfold tattleref04_Two.f
  rw [rticks_eq hw hl a hpq hq _ hF, Option.bind_some, rticks_eq hw hl b hpq hq _ hF, Option.bind_some]
  unfold two
  cases ha : upf (pnd l) (pwh l) a p q with
  | false =>
    simp only [Bool.false_eq_true, if_false]
    rw [tattleref04_Two.j0, if_pos rfl]
    rfl
  | true =>
    cases hbb : upf (pnd l) (pwh l) b p q with
    | false =>
      simp only [Bool.false_eq_true, if_false, if_true]
      rw [tattleref04_Two.j0, if_pos (by decide)]
      rfl
    | true =>
      simp only [if_true]
      obtain ⟨d0, d1, r0, r1⟩ := hb
      have hx : 0 ≤ tk (pnd l) (pwh l) a q - tk (pnd l) (pwh l) a p ∧ tk (pnd l) (pwh l) a q - tk (pnd l) (pwh l) a p ≤ 400 := by omega
      have hy : 0 ≤ tk (pnd l) (pwh l) b q - tk (pnd l) (pwh l) b p ∧ tk (pnd l) (pwh l) b q - tk (pnd l) (pwh l) b p ≤ 400 := by omega
      generalize tk (pnd l) (pwh l) a q - tk (pnd l) (pwh l) a p = x at *
      generalize tk (pnd l) (pwh l) b q - tk (pnd l) (pwh l) b p = y at *
      clear hma hmb
      rw [tattleref04_Two.j0, if_neg (by decide)]
      simp only [Bool.and_self, Bool.not_true, Bool.false_or]
      by_cases hxy : x > y
      · have hq0 : 0 ≤ y / r := Int.ediv_nonneg (by omega) (by omega)
        have hq1 : y / r ≤ y := Int.ediv_le_self _ (by omega)
        rw [if_pos hxy, if_neg (by omega), Int.tdiv_eq_ediv_of_nonneg (by omega), w64_id (x - y) (by omega) (by omega), w64_id (y / r) (by omega) (by omega), w64_id (d + y / r) (by omega) (by omega), Int.max_eq_left (by omega), Int.min_eq_right (by omega)]
      · have hq0 : 0 ≤ x / r := Int.ediv_nonneg (by omega) (by omega)
        have hq1 : x / r ≤ x := Int.ediv_le_self _ (by omega)
        rw [if_neg hxy, if_neg (by omega), Int.tdiv_eq_ediv_of_nonneg (by omega), w64_id (y - x) (by omega) (by omega), w64_id (x / r) (by omega) (by omega), w64_id (d + x / r) (by omega) (by omega), Int.max_eq_right (by omega), Int.min_eq_left (by omega)]
/-- The document's: all nodes, all places. -/
def rnear (n : Nat) (l : List S87) (d r : Int) : Bool := (List.range n).all fun a => (List.range a).all fun b => (List.range (l.length + 1)).all fun p => (List.range (l.length + 1 - p)).all fun j => two (pnd l) (pwh l) d r (a : Int) (b : Int) p (p + j)
theorem rnear_iff (n : Nat) (l : List S87) (d r : Int) : rnear n l d r = true ↔ ∀ t, t ≤ l.length → nearAt (pnd l) (pwh l) d r n t = true := by
  unfold rnear
  simp only [List.all_eq_true, List.mem_range]
  constructor
  · intro h t ht
    rw [nearAt_iff]
    intro a b f h1 h2 h3
    have := h a h1 b h2 f (by omega) (t - f) (by omega)
    rwa [show f + (t - f) = t by omega] at this
  · intro h a h1 b h2 p h3 j h4
    exact (nearAt_iff _ _ d r n (p + j)).1 (h (p + j) (by omega)) a b p h1 h2 (by omega)
section
variable {n : Nat} {l : List S87} {d r : Int} (hw : ∀ i, i < l.length → pwh l i = 0 ∨ pwh l i = 1 ∨ pwh l i = 2) (hl : l.length ≤ 25) (hb : bnd d r) (hn : n ≤ 4)
include hw hl hb
theorem rn_l3 (a b p : Nat) {v : Bool} {G : Nat} (hG : 1000 ≤ G) (hv : ∀ F, G ≤ F → tattleref04_Near.l2 F (n : Int) l d r (a : Int) (b : Int) (wrap64 ((p : Int) + 1)) = some v) :
    ∀ (m j F : Nat), p + j + m = l.length + 1 → G + m + 1 ≤ F → tattleref04_Near.l3 F (n : Int) l d r (a : Int) (b : Int) (p : Int) ((p + j : Nat) : Int) = some (((List.range m).all fun i => two (pnd l) (pwh l) d r (a : Int) (b : Int) p (p + j + i)) && v)
  | 0, j, F, hj, hF => by
    obtain ⟨F, rfl⟩ : ∃ q, F = q + 1 := ⟨F - 1, by omega⟩
    rw [tattleref04_Near.l3, if_neg (by omega), hv F (by omega)]
    rfl
  | m + 1, j, F, hj, hF => by
    obtain ⟨F, rfl⟩ : ∃ q, F = q + 1 := ⟨F - 1, by omega⟩
    have e : ((List.range (m + 1)).all fun i => two (pnd l) (pwh l) d r (a : Int) (b : Int) p (p + j + i)) = (two (pnd l) (pwh l) d r (a : Int) (b : Int) p (p + j) && (List.range m).all fun i => two (pnd l) (pwh l) d r (a : Int) (b : Int) p (p + (j + 1) + i)) := by
      rw [List.range_succ_eq_map, List.all_cons, List.all_map, Nat.add_zero]
      congr 2
      funext i
      simp only [Function.comp]
      rw [show p + j + (i + 1) = p + (j + 1) + i by omega]
    rw [tattleref04_Near.l3, if_pos (by omega), rtwo_eq hw (by omega) hb _ _ (by omega) (by omega) F (by omega), Option.bind_some, e]
    cases two (pnd l) (pwh l) d r (a : Int) (b : Int) p (p + j) with
    | false => rfl
    | true =>
      rw [if_pos rfl, Bool.true_and, w64_succ (p + j) (by omega), show ((p + j : Nat) : Int) + 1 = ((p + (j + 1) : Nat) : Int) by omega]
      exact rn_l3 a b p hG hv m (j + 1) F (by omega) (by omega)
theorem rn_l2 (a b : Nat) {v : Bool} {G : Nat} (hG : 1000 ≤ G) (hv : ∀ F, G ≤ F → tattleref04_Near.l1 F (n : Int) l d r (a : Int) (wrap64 ((b : Int) + 1)) = some v) :
    ∀ (m p F : Nat), p + m = l.length + 1 → G + 100 * m + 1 ≤ F → tattleref04_Near.l2 F (n : Int) l d r (a : Int) (b : Int) (p : Int) = some (((List.range m).all fun i => (List.range (l.length + 1 - (p + i))).all fun j => two (pnd l) (pwh l) d r (a : Int) (b : Int) (p + i) (p + i + j)) && v)
  | 0, p, F, hp, hF => by
    obtain ⟨F, rfl⟩ : ∃ q, F = q + 1 := ⟨F - 1, by omega⟩
    rw [tattleref04_Near.l2, if_neg (by omega), hv F (by omega)]
    rfl
  | m + 1, p, F, hp, hF => by
    obtain ⟨F, rfl⟩ : ∃ q, F = q + 1 := ⟨F - 1, by omega⟩
    have e : ((List.range (m + 1)).all fun i => (List.range (l.length + 1 - (p + i))).all fun j => two (pnd l) (pwh l) d r (a : Int) (b : Int) (p + i) (p + i + j)) = (((List.range (l.length + 1 - p)).all fun j => two (pnd l) (pwh l) d r (a : Int) (b : Int) p (p + j)) && (List.range m).all fun i => (List.range (l.length + 1 - (p + 1 + i))).all fun j => two (pnd l) (pwh l) d r (a : Int) (b : Int) (p + 1 + i) (p + 1 + i + j)) := by
      rw [List.range_succ_eq_map (n := m), List.all_cons, List.all_map]
      simp only [Nat.add_zero]
      congr 2
      funext i
      simp only [Function.comp]
      rw [show p + 1 + i = p + (i + 1) by omega]
    have h := rn_l3 hw hl hb a b p (v := (List.range m).all fun i => (List.range (l.length + 1 - (p + 1 + i))).all fun j => two (pnd l) (pwh l) d r (a : Int) (b : Int) (p + 1 + i) (p + 1 + i + j)) (G := G + 100 * m + 1) (n := n) (by omega)
    have h3 := rn_l3 (n := n) hw hl hb a b p (v := ((List.range m).all fun i => (List.range (l.length + 1 - (p + 1 + i))).all fun j => two (pnd l) (pwh l) d r (a : Int) (b : Int) (p + 1 + i) (p + 1 + i + j)) && v) (G := G + 100 * m + 1) (by omega) (fun F' hF' => by
      rw [w64_succ p (by omega), show (p : Int) + 1 = ((p + 1 : Nat) : Int) by omega]
      exact rn_l2 a b hG hv m (p + 1) F' (by omega) hF') (m + 1) 0 F (by omega) (by omega)
    rw [Nat.add_zero] at h3
    rw [tattleref04_Near.l2, if_pos (by omega), h3, e, Bool.and_assoc, show l.length + 1 - p = m + 1 by omega]
include hn
theorem rn_l1 (a : Nat) (ha : a < n) {v : Bool} {G : Nat} (hG : 1000 ≤ G) (hv : ∀ F, G ≤ F → tattleref04_Near.l0 F (n : Int) l d r (wrap64 ((a : Int) + 1)) = some v) :
    ∀ (m b F : Nat), b + m = a → G + 10000 * m + 1 ≤ F → tattleref04_Near.l1 F (n : Int) l d r (a : Int) (b : Int) = some (((List.range m).all fun i => (List.range (l.length + 1)).all fun p => (List.range (l.length + 1 - p)).all fun j => two (pnd l) (pwh l) d r (a : Int) ((b + i : Nat) : Int) p (p + j)) && v)
  | 0, b, F, hb', hF => by
    obtain ⟨F, rfl⟩ : ∃ q, F = q + 1 := ⟨F - 1, by omega⟩
    rw [tattleref04_Near.l1, if_neg (by omega), hv F (by omega)]
    rfl
  | m + 1, b, F, hb', hF => by
    obtain ⟨F, rfl⟩ : ∃ q, F = q + 1 := ⟨F - 1, by omega⟩
    have e : ((List.range (m + 1)).all fun i => (List.range (l.length + 1)).all fun p => (List.range (l.length + 1 - p)).all fun j => two (pnd l) (pwh l) d r (a : Int) ((b + i : Nat) : Int) p (p + j)) = (((List.range (l.length + 1)).all fun p => (List.range (l.length + 1 - p)).all fun j => two (pnd l) (pwh l) d r (a : Int) (b : Int) p (p + j)) && (List.range m).all fun i => (List.range (l.length + 1)).all fun p => (List.range (l.length + 1 - p)).all fun j => two (pnd l) (pwh l) d r (a : Int) ((b + 1 + i : Nat) : Int) p (p + j)) := by
      rw [List.range_succ_eq_map (n := m), List.all_cons, List.all_map]
      simp only [Nat.add_zero]
      congr 2
      funext i
      simp only [Function.comp]
      rw [show b + 1 + i = b + (i + 1) by omega]
    have h2 := rn_l2 (n := n) hw hl hb a b (v := ((List.range m).all fun i => (List.range (l.length + 1)).all fun p => (List.range (l.length + 1 - p)).all fun j => two (pnd l) (pwh l) d r (a : Int) ((b + 1 + i : Nat) : Int) p (p + j)) && v) (G := G + 10000 * m + 1) (by omega) (fun F' hF' => by
      rw [w64_succ b (by omega), show (b : Int) + 1 = ((b + 1 : Nat) : Int) by omega]
      exact rn_l1 a ha hG hv m (b + 1) F' (by omega) hF') (l.length + 1) 0 F (by omega) (by omega)
    rw [Int.natCast_zero] at h2
    simp only [Nat.zero_add] at h2
    rw [tattleref04_Near.l1, if_pos (by omega), h2, e, Bool.and_assoc]
theorem rn_l0 : ∀ (m a F : Nat), a + m = n → 1000 + 50000 * m + 1 ≤ F → tattleref04_Near.l0 F (n : Int) l d r (a : Int) = some ((List.range m).all fun i => (List.range (a + i)).all fun b => (List.range (l.length + 1)).all fun p => (List.range (l.length + 1 - p)).all fun j => two (pnd l) (pwh l) d r ((a + i : Nat) : Int) (b : Int) p (p + j))
  | 0, a, F, ha, hF => by
    obtain ⟨F, rfl⟩ : ∃ q, F = q + 1 := ⟨F - 1, by omega⟩
    rw [tattleref04_Near.l0, if_neg (by omega)]
    rfl
  | m + 1, a, F, ha, hF => by
    obtain ⟨F, rfl⟩ : ∃ q, F = q + 1 := ⟨F - 1, by omega⟩
    have h1 := rn_l1 hw hl hb hn a (by omega) (v := (List.range m).all fun i => (List.range (a + 1 + i)).all fun b => (List.range (l.length + 1)).all fun p => (List.range (l.length + 1 - p)).all fun j => two (pnd l) (pwh l) d r ((a + 1 + i : Nat) : Int) (b : Int) p (p + j)) (G := 1000 + 50000 * m + 1) (by omega) (fun F' hF' => by
      rw [w64_succ a (by omega), show (a : Int) + 1 = ((a + 1 : Nat) : Int) by omega]
      exact rn_l0 m (a + 1) F' (by omega) hF') a 0 F (by omega) (by omega)
    rw [Int.natCast_zero] at h1
    simp only [Nat.zero_add] at h1
    rw [tattleref04_Near.l0, if_pos (by omega), h1, List.range_succ_eq_map (n := m), List.all_cons, List.all_map]
    simp only [Nat.add_zero]
    congr 3
    funext i
    simp only [Function.comp]
    rw [show a + 1 + i = a + (i + 1) by omega]
theorem rnear_eq (F : Nat) (hF : 1000000 ≤ F) : tattleref04_Near.f F (n : Int) l d r = some (rnear n l d r) := by
  have h := rn_l0 hw hl hb hn n 0 F (by omega) (by omega)
  rw [Int.natCast_zero] at h
  simp only [Nat.zero_add] at h
  exact h
end
end Go.Proofs.Ytahppppkepcbkaa.Clo
