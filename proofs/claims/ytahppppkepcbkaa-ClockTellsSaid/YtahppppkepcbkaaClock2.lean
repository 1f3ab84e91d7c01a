/- Beats that are few, fewer beats, and the document's answer: plain facts. -/
import Derived.Test.YtahppppkepcbkaaFnx0
import Derived.Test.YtahppppkepcbkaaFnx12
import Derived.Test.YtahppppkepcbkaaFnx13
import Derived.Test.YtahppppkepcbkaaFnx7
import Derived.Test.YtahppppkepcbkaaClock
namespace Go.Proofs.Ytahppppkepcbkaa.Clo
open Go.RowKit Go.Proofs.Ytahppppkepcbkaa.Fn Go.Proofs.YtahppppkepcbkaaW.PrintWords Go.Proofs.YtahppppkepcbkaaW.PrintMore Go.Proofs.Ytahppppkepcbkaa.Gua Go.Proofs.Ytahppppkepcbkaa.Clk
def few (l : List S87) : List S87 := if 24 < l.length ∧ l.length ≤ 400 then l.take 24 else if 401 < l.length then l.take 401 else l
theorem few_eq (l : List S87) (F : Nat) (hF : 1 ≤ F) : tattlelaw04_Few.f F l = some (few l) := by
  obtain ⟨F, rfl⟩ : ∃ q, F = q + 1 := ⟨F - 1, by omega⟩
  unfold tattlelaw04_Few.f few
  by_cases h1 : 24 < l.length
  · rw [if_pos (by omega), tattlelaw04_Few.j0]
    by_cases h2 : l.length ≤ 400
    · rw [decide_eq_true (by omega), if_pos rfl, if_pos (by omega), if_pos ⟨h1, h2⟩]
    · rw [decide_eq_false (by omega), if_neg (by decide), if_neg (c := 24 < l.length ∧ l.length ≤ 400) (fun q => h2 q.2)]
      by_cases h3 : 401 < l.length
      · rw [if_pos (by omega), if_pos (by omega), if_pos h3]
      · rw [if_neg (by omega), if_neg h3]
  · rw [if_neg (by omega), tattlelaw04_Few.j0, if_neg (by decide), if_neg (by omega), if_neg (c := 24 < l.length ∧ l.length ≤ 400) (fun q => h1 q.1), if_neg (by omega)]
theorem few_len (l : List S87) : (few l).length ≤ 24 ∨ (few l).length = 401 := by
  unfold few
  split
  · rw [List.length_take]; omega
  · split
    · rw [List.length_take]; omega
    · omega
section
variable {nd nd' wh wh' : Nat → Int}
theorem since_congr (x : Int) : ∀ k : Nat, (∀ i, i < k → nd i = nd' i ∧ wh i = wh' i) → since nd wh x k = since nd' wh' x k
  | 0, _ => rfl
  | k + 1, h => by
    have ih := since_congr x k (fun i hi => h i (by omega))
    obtain ⟨h1, h2⟩ := h k (by omega)
    rw [since, since, ih, h1, h2]
theorem tk_congr (x : Int) : ∀ k : Nat, (∀ i, i < k → nd i = nd' i ∧ wh i = wh' i) → tk nd wh x k = tk nd' wh' x k
  | 0, _ => rfl
  | k + 1, h => by
    have ih := tk_congr x k (fun i hi => h i (by omega))
    obtain ⟨h1, h2⟩ := h k (by omega)
    rw [tk, tk, ih, h1, h2]
theorem okb_congr (n : Int) : ∀ k : Nat, (∀ i, i < k → nd i = nd' i ∧ wh i = wh' i) → okb nd wh n k = okb nd' wh' n k
  | 0, _ => rfl
  | k + 1, h => by
    have ih := okb_congr n k (fun i hi => h i (by omega))
    obtain ⟨h1, h2⟩ := h k (by omega)
    rw [okb, okb, ih, h1, h2, since_congr (nd' k) k (fun i hi => h i (by omega))]
theorem two_congr (d r x y : Int) {a b : Nat} (hab : a ≤ b) (h : ∀ i, i < b → nd i = nd' i ∧ wh i = wh' i) : two nd wh d r x y a b = two nd' wh' d r x y a b := by
  unfold two upf
  rw [since_congr x b h, since_congr y b h, tk_congr x b h, tk_congr y b h, tk_congr x a (fun i hi => h i (by omega)), tk_congr y a (fun i hi => h i (by omega))]
theorem nearAt_congr (d r : Int) (n : Nat) {t : Nat} (h : ∀ i, i < t → nd i = nd' i ∧ wh i = wh' i) : nearAt nd wh d r n t = nearAt nd' wh' d r n t := by
  rw [Bool.eq_iff_iff, nearAt_iff, nearAt_iff]
  exact ⟨fun q a b f h1 h2 h3 => (two_congr d r _ _ h3 h) ▸ q a b f h1 h2 h3, fun q a b f h1 h2 h3 => (two_congr d r _ _ h3 h) ▸ q a b f h1 h2 h3⟩
end
theorem take_at (l : List S87) (m i : Nat) (hi : i < m) : pnd (l.take m) i = pnd l i ∧ pwh (l.take m) i = pwh l i := by
  unfold pnd pwh
  rw [List.getD_eq_getElem?_getD, List.getD_eq_getElem?_getD, List.getElem?_take_of_lt hi]
  exact ⟨rfl, rfl⟩
theorem playok_take {a0 : Int} {l : List S87} {m : Nat} (hm : m ≤ l.length) (h : playok a0 l = true) : playok a0 (l.take m) = true := by
  rw [playok_iff] at *
  have hl : (l.take m).length = m := by rw [List.length_take]; omega
  refine ⟨⟨h.1.1, h.1.2.1, by rw [hl]; omega⟩, ?_⟩
  rw [hl, okb_congr a0 m (fun i hi => take_at l m i hi)]
  exact okb_le _ _ a0 (l.length - m) m (by rw [show m + (l.length - m) = l.length by omega]; exact h.2)
theorem near_take {a0 : Int} {l : List S87} {d r : Int} {m : Nat} (hd : 0 ≤ d) (hm : m ≤ l.length) : farl a0 (l.take m) d r = (l.take m).length ↔ ∀ t, t ≤ m → nearAt (pnd l) (pwh l) d r a0.toNat t = true := by
  have hl : (l.take m).length = m := by rw [List.length_take]; omega
  rw [near_all hd, hl]
  constructor
  · intro h t ht
    rw [← nearAt_congr d r a0.toNat (fun i hi => take_at l m i (by omega))]
    exact h t ht
  · intro h t ht
    rw [nearAt_congr d r a0.toNat (fun i hi => take_at l m i (by omega))]
    exact h t ht
theorem up_l0 (l : List S87) (x : Int) (i : Nat) (hi : i ≤ l.length) (hl : l.length ≤ 401) : ∀ (m j F : Nat), j + m = i → m + 1 ≤ F → tattleref04_Up.l0 F l x (i : Int) (upb (pnd l) (pwh l) x j) (j : Int) = some (upb (pnd l) (pwh l) x i)
  | 0, j, F, hj, hF => by
    obtain ⟨F, rfl⟩ : ∃ q, F = q + 1 := ⟨F - 1, by omega⟩
    obtain rfl : j = i := by omega
    rw [tattleref04_Up.l0, if_neg (by omega)]
  | m + 1, j, F, hj, hF => by
    obtain ⟨F, rfl⟩ : ∃ q, F = q + 1 := ⟨F - 1, by omega⟩
    have ih := up_l0 l x i hi hl m (j + 1) F (by omega) (by omega)
    have e : wrap64 ((j : Int) + 1) = ((j + 1 : Nat) : Int) := by rw [w64_id _ (by omega) (by omega)]; omega
    have p0 : (rd_T87 l (j : Int)).f0 = pnd l j := rfl
    have p1 : (rd_T87 l (j : Int)).f1 = pwh l j := rfl
    rw [tattleref04_Up.l0, if_pos (by omega), if_pos (by omega), if_pos (by omega), p0, p1, e]
    rw [upb] at ih
    by_cases h1 : pnd l j = x
    · rw [if_pos h1]
      by_cases h2 : pwh l j = 0
      · rw [if_pos h2]
        rw [if_neg (fun q => q.2 h2)] at ih
        exact ih
      · rw [if_neg h2]
        rw [if_pos ⟨h1, h2⟩] at ih
        rw [show (pwh l j == 2) = decide (pwh l j = 2) by rw [Bool.eq_iff_iff, beq_iff_eq, decide_eq_true_eq]]
        exact ih
    · rw [if_neg h1]
      rw [if_neg (fun q => h1 q.1)] at ih
      exact ih
theorem up_f (l : List S87) (x : Int) (i : Nat) (hi : i ≤ l.length) (hl : l.length ≤ 401) (F : Nat) (hF : 402 ≤ F) : tattleref04_Up.f F l x (i : Int) = some (upb (pnd l) (pwh l) x i) := by
  have h := up_l0 l x i hi hl i 0 F (by omega) (by omega)
  rw [Int.natCast_zero] at h
  exact h
theorem may_l0 (a0 : Int) (l : List S87) (hl : l.length ≤ 400) : ∀ (m i F : Nat), i + m = l.length → 500 + m ≤ F → okb (pnd l) (pwh l) a0 i = true → tattleref04_May.l0 F a0 l (i : Int) = some (okb (pnd l) (pwh l) a0 l.length)
  | 0, i, F, hi, hF, hok => by
    obtain ⟨F, rfl⟩ : ∃ q, F = q + 1 := ⟨F - 1, by omega⟩
    obtain rfl : i = l.length := by omega
    rw [tattleref04_May.l0, if_neg (by omega), hok]
  | m + 1, i, F, hi, hF, hok => by
    obtain ⟨F, rfl⟩ : ∃ q, F = q + 1 := ⟨F - 1, by omega⟩
    have e : wrap64 ((i : Int) + 1) = ((i + 1 : Nat) : Int) := by rw [w64_id _ (by omega) (by omega)]; omega
    have p0 : (rd_T87 l (i : Int)).f0 = pnd l i := rfl
    have p1 : (rd_T87 l (i : Int)).f1 = pwh l i := rfl
    have hw : ∀ j, j < i → pwh l j = 0 ∨ pwh l j = 1 ∨ pwh l j = 2 := fun j hj => (okb_at _ _ hok hj).2.2.2
    have hs := since_up (pnd l) (pwh l) (pnd l i) i hw
    rw [tattleref04_May.l0, if_pos (by omega), if_pos (by omega), p0, p1, e]
    have bad : ¬(0 ≤ pnd l i ∧ pnd l i < a0 ∧ (since (pnd l) (pwh l) (pnd l i) i < 0 ↔ pwh l i = 2) ∧ (pwh l i = 0 ∨ pwh l i = 1 ∨ pwh l i = 2)) → some false = some (okb (pnd l) (pwh l) a0 l.length) := fun h => by rw [okb_not (by omega) h]
    by_cases h1 : pnd l i < 0
    · rw [if_pos h1]; exact bad (fun q => by omega)
    · rw [if_neg h1]
      by_cases h2 : pnd l i ≥ a0
      · rw [if_pos h2]; exact bad (fun q => by omega)
      · rw [if_neg h2]
        by_cases h3 : pwh l i < 0
        · rw [if_pos h3]; exact bad (fun q => by have := q.2.2.2; omega)
        · rw [if_neg h3]
          by_cases h4 : pwh l i > 2
          · rw [if_pos h4]; exact bad (fun q => by have := q.2.2.2; omega)
          · rw [if_neg h4, up_f l _ i (by omega) (by omega) F (by omega), Option.bind_some]
            by_cases h5 : (upb (pnd l) (pwh l) (pnd l i) i == (pwh l i == 2)) = true
            · rw [if_pos h5]
              refine bad (fun q => ?_)
              have h6 := q.2.2.1
              rw [beq_iff_eq] at h5
              cases hu : upb (pnd l) (pwh l) (pnd l i) i with
              | true =>
                have h7 := hs.2 hu
                rw [hu] at h5
                have h8 : pwh l i = 2 := by simpa using h5.symm
                have := h6.2 h8
                omega
              | false =>
                rw [hu] at h5
                have h8 : ¬pwh l i = 2 := by simpa using h5.symm
                have h9 : ¬0 ≤ since (pnd l) (pwh l) (pnd l i) i := fun q => by rw [hs.1 q] at hu; cases hu
                exact h8 (h6.1 (by omega))
            · rw [if_neg h5]
              refine may_l0 a0 l hl m (i + 1) F (by omega) (by omega) (okb_more hok ⟨by omega, by omega, ?_, by omega⟩)
              cases hu : upb (pnd l) (pwh l) (pnd l i) i with
              | true =>
                have h7 := hs.2 hu
                rw [hu] at h5
                have h8 : ¬pwh l i = 2 := by simpa using h5
                exact ⟨fun q => by omega, fun q => absurd q h8⟩
              | false =>
                rw [hu] at h5
                have h8 : pwh l i = 2 := by simpa using h5
                have h9 : ¬0 ≤ since (pnd l) (pwh l) (pnd l i) i := fun q => by rw [hs.1 q] at hu; cases hu
                exact ⟨fun _ => h8, fun _ => by omega⟩
theorem may_eq (a0 : Int) (l : List S87) (F : Nat) (hF : 1000 ≤ F) : tattleref04_May.f F a0 l = some (playok a0 l) := by
  obtain ⟨F, rfl⟩ : ∃ q, F = q + 1 := ⟨F - 1, by omega⟩
  have hbad : ∀ (hx : ¬(1 ≤ a0 ∧ a0 ≤ 64 ∧ l.length ≤ 400)), tattleref04_May.j0 (F + 1) a0 l true = some (playok a0 l) := fun hx => by
    unfold playok
    rw [tattleref04_May.j0, if_pos rfl, decide_eq_false hx, Bool.false_and]
  unfold tattleref04_May.f
  by_cases h1 : a0 < 1
  · rw [if_pos h1]; exact hbad (fun q => by omega)
  · rw [if_neg h1]
    by_cases h2 : a0 > 64
    · rw [if_pos h2]; exact hbad (fun q => by omega)
    · rw [if_neg h2]
      by_cases h3 : (l.length : Int) > 400
      · rw [decide_eq_true h3]; exact hbad (fun q => by omega)
      · rw [decide_eq_false h3, tattleref04_May.j0, if_neg (by decide)]
        have h := may_l0 a0 l (by omega) l.length 0 F (by omega) (by omega) rfl
        rw [Int.natCast_zero] at h
        unfold playok
        rw [h, decide_eq_true ⟨by omega, by omega, by omega⟩, Bool.true_and]
theorem tmod_nat (s k : Nat) : Int.tmod (s : Int) ((k : Int) + 1) = ((s % (k + 1) : Nat) : Int) := by
  rw [Int.tmod_eq_emod_of_nonneg (Int.natCast_nonneg s), Int.natCast_emod]
  rfl
theorem w64_succ (k : Nat) (h : k ≤ 1000000) : wrap64 ((k : Int) + 1) = (k : Int) + 1 := w64_id _ (by omega) (by omega)
theorem w64_nat (k : Nat) (h : k ≤ 1000000) : wrap64 (k : Int) = (k : Int) := w64_id _ (by omega) (by omega)
theorem w64_sub (p q : Nat) (h : q ≤ 1000000) (hp : p ≤ q) : wrap64 ((q : Int) - (p : Int)) = ((q - p : Nat) : Int) := by
  rw [w64_id _ (by omega) (by omega)]
  omega
theorem w64_add (p m : Nat) (h : p ≤ 1000000) (hm : m ≤ 1000000) : wrap64 ((p : Int) + (m : Int)) = ((p + m : Nat) : Int) := by
  rw [w64_id _ (by omega) (by omega)]
  omega
/-- One and what is left of r by 1 and so many. -/
theorem rest_rng (r : Int) (k : Nat) (hr : 1 ≤ r ∧ r ≤ 1099511627776) : 0 ≤ r % (1 + (k : Int)) ∧ r % (1 + (k : Int)) ≤ r ∧ Int.tmod r (1 + (k : Int)) = r % (1 + (k : Int)) := by
  refine ⟨Int.emod_nonneg _ (by omega), ?_, Int.tmod_eq_emod_of_nonneg (by omega)⟩
  have h1 := Int.mul_ediv_add_emod r (1 + (k : Int))
  have h2 : 0 ≤ (1 + (k : Int)) * (r / (1 + (k : Int))) := Int.mul_nonneg (by omega) (Int.ediv_nonneg (by omega) (by omega))
  generalize (1 + (k : Int)) * (r / (1 + (k : Int))) = a at *
  generalize r % (1 + (k : Int)) = b at *
  omega
end Go.Proofs.Ytahppppkepcbkaa.Clo
