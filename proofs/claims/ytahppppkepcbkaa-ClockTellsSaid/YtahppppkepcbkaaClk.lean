/- What beats come tw, over functions of places (whose beat, and what): plain facts. -/
import Derived.Test.YtahppppkepcbkaaExGuard
namespace Go.Proofs.Ytahppppkepcbkaa.Clk
open Go.Proofs.Ytahppppkepcbkaa.Fn
variable (nd wh : Nat → Int)

/-- Is x up behind so many beats? -/
def upb (x : Int) : Nat → Bool
  | 0 => true
  | k + 1 => if nd k = x ∧ wh k ≠ 0 then decide (wh k = 2) else upb x k
/-- Since which place it is up; -1: it is not. -/
def since (x : Int) : Nat → Int
  | 0 => 0
  | k + 1 => if nd k = x then (if wh k = 1 then -1 else if wh k = 2 then (k : Int) + 1 else since x k) else since x k
/-- How many ticks it had. -/
def tk (x : Int) : Nat → Int
  | 0 => 0
  | k + 1 => if nd k = x ∧ wh k = 0 then tk x k + 1 else tk x k
/-- May so many beats be? -/
def okb (n : Int) : Nat → Bool
  | 0 => true
  | k + 1 => okb n k && (decide (0 ≤ nd k ∧ nd k < n) && (decide (since nd wh (nd k) k < 0 ↔ wh k = 2) && decide (wh k = 0 ∨ wh k = 1 ∨ wh k = 2)))
theorem okb_le (n : Int) : ∀ (d k : Nat), okb nd wh n (k + d) = true → okb nd wh n k = true
  | 0, k, h => h
  | d + 1, k, h => by
    rw [show k + (d + 1) = (k + d) + 1 from rfl, okb, Bool.and_eq_true] at h
    exact okb_le n d k h.1
theorem okb_at {n : Int} {k i : Nat} (h : okb nd wh n k = true) (hi : i < k) : 0 ≤ nd i ∧ nd i < n ∧ (since nd wh (nd i) i < 0 ↔ wh i = 2) ∧ (wh i = 0 ∨ wh i = 1 ∨ wh i = 2) := by
  have h1 := okb_le nd wh n (k - (i + 1)) (i + 1) (by rw [show i + 1 + (k - (i + 1)) = k by omega]; exact h)
  rw [okb, Bool.and_eq_true, Bool.and_eq_true, Bool.and_eq_true, decide_eq_true_eq, decide_eq_true_eq, decide_eq_true_eq] at h1
  exact ⟨h1.2.1.1, h1.2.1.2, h1.2.2.1, h1.2.2.2⟩
theorem since_rng (x : Int) : ∀ k : Nat, -1 ≤ since nd wh x k ∧ since nd wh x k ≤ (k : Int)
  | 0 => by simp [since]
  | k + 1 => by
    have ih := since_rng x k
    rw [since]
    split
    · split
      · omega
      · split <;> omega
    · omega
theorem tk_rng (x : Int) : ∀ k : Nat, 0 ≤ tk nd wh x k ∧ tk nd wh x k ≤ (k : Int)
  | 0 => by simp [tk]
  | k + 1 => by
    have ih := tk_rng x k
    rw [tk]
    split <;> omega
theorem tk_mono (x : Int) (a : Nat) : ∀ d : Nat, tk nd wh x a ≤ tk nd wh x (a + d) ∧ tk nd wh x (a + d) ≤ tk nd wh x a + d
  | 0 => by simp
  | d + 1 => by
    have ih := tk_mono x a d
    rw [show a + (d + 1) = (a + d) + 1 from rfl, tk]
    split <;> omega
theorem since_up (x : Int) : ∀ k : Nat, (∀ i, i < k → wh i = 0 ∨ wh i = 1 ∨ wh i = 2) → (0 ≤ since nd wh x k ↔ upb nd wh x k = true)
  | 0, _ => by simp [since, upb]
  | k + 1, hw => by
    have ih := since_up x k (fun i hi => hw i (by omega))
    rw [since, upb]
    by_cases hn : nd k = x
    · rcases hw k (by omega) with h | h | h
      · rw [if_pos hn, if_neg (by omega), if_neg (by omega), if_neg (by omega)]
        exact ih
      · rw [if_pos hn, if_pos h, if_pos ⟨hn, by omega⟩, decide_eq_true_eq]
        omega
      · rw [if_pos hn, if_neg (by omega), if_pos h, if_pos ⟨hn, by omega⟩, decide_eq_true_eq]
        omega
    · rw [if_neg hn, if_neg (fun q => hn q.1)]
      exact ih
/-- Up from one place tw another one? -/
def upf (x : Int) (a b : Nat) : Bool := decide (0 ≤ since nd wh x b ∧ since nd wh x b ≤ (a : Int))
theorem upf_iff (x : Int) (a : Nat) : ∀ d : Nat, (∀ i, i < a + d → wh i = 0 ∨ wh i = 1 ∨ wh i = 2) → (upf nd wh x a (a + d) = true ↔ upb nd wh x a = true ∧ ∀ i, a ≤ i → i < a + d → nd i = x → wh i = 0)
  | 0, hw => by
    have h1 := since_rng nd wh x a
    have h2 := since_up nd wh x a (fun i hi => hw i (by omega))
    unfold upf
    rw [decide_eq_true_eq, Nat.add_zero, ← h2]
    exact ⟨fun h => ⟨h.1, fun i h1 h2 => by omega⟩, fun h => ⟨h.1, h1.2⟩⟩
  | d + 1, hw => by
    have ih := upf_iff x a d (fun i hi => hw i (by omega))
    have e : upf nd wh x a (a + d + 1) = true ↔ (upf nd wh x a (a + d) = true ∧ (nd (a + d) = x → wh (a + d) = 0)) := by
      have hr := since_rng nd wh x (a + d)
      unfold upf
      rw [decide_eq_true_eq, decide_eq_true_eq, since]
      by_cases hn : nd (a + d) = x
      · rw [if_pos hn]
        rcases hw (a + d) (by omega) with h | h | h
        · rw [if_neg (by omega), if_neg (by omega)]
          exact ⟨fun q => ⟨q, fun _ => h⟩, fun q => q.1⟩
        · rw [if_pos h]
          exact ⟨fun q => by omega, fun q => by have := q.2 hn; omega⟩
        · rw [if_neg (by omega), if_pos h]
          exact ⟨fun q => by omega, fun q => by have := q.2 hn; omega⟩
      · rw [if_neg hn]
        exact ⟨fun q => ⟨q, fun e => absurd e hn⟩, fun q => q.1⟩
    rw [show a + (d + 1) = a + d + 1 from rfl, e, ih]
    constructor
    · rintro ⟨⟨h1, h2⟩, h3⟩
      refine ⟨h1, fun i hi hi2 hx => ?_⟩
      by_cases e : i = a + d
      · subst e
        exact h3 hx
      · exact h2 i hi (by omega) hx
    · rintro ⟨h1, h2⟩
      exact ⟨⟨h1, fun i hi hi2 hx => h2 i hi (by omega) hx⟩, fun hx => h2 (a + d) (by omega) (by omega) hx⟩
theorem upf_from {x : Int} {a a' b : Nat} (h : upf nd wh x a b = true) (ha : a ≤ a') : upf nd wh x a' b = true := by
  unfold upf at *
  rw [decide_eq_true_eq] at *
  omega
theorem upf_to {x : Int} {a m b : Nat} (hw : ∀ i, i < b → wh i = 0 ∨ wh i = 1 ∨ wh i = 2) (h : upf nd wh x a b = true) (ha : a ≤ m) (hm : m ≤ b) : upf nd wh x a m = true := by
  have h1 := upf_iff nd wh x a (b - a) (fun i hi => hw i (by omega))
  have h2 := upf_iff nd wh x a (m - a) (fun i hi => hw i (by omega))
  rw [show a + (b - a) = b by omega] at h1
  rw [show a + (m - a) = m by omega] at h2
  have h3 := h1.1 h
  exact h2.2 ⟨h3.1, fun i h4 h5 => h3.2 i h4 (by omega)⟩
/-- Do two nodes' ticks differ by no more than they may? -/
def two (d r x y : Int) (a b : Nat) : Bool :=
  !(upf nd wh x a b && upf nd wh y a b) || decide (max (tk nd wh x b - tk nd wh x a) (tk nd wh y b - tk nd wh y a) - min (tk nd wh x b - tk nd wh x a) (tk nd wh y b - tk nd wh y a) ≤ d + min (tk nd wh x b - tk nd wh x a) (tk nd wh y b - tk nd wh y a) / r)
theorem two_comm (d r x y : Int) (a b : Nat) : two nd wh d r x y a b = two nd wh d r y x a b := by
  unfold two
  rw [Bool.and_comm, Int.max_comm, Int.min_comm]
def nearAt (d r : Int) (n tw : Nat) : Bool := (List.range n).all fun a => (List.range a).all fun b => (List.range (tw + 1)).all fun f => two nd wh d r (a : Int) (b : Int) f tw
theorem nearAt_iff (d r : Int) (n tw : Nat) : nearAt nd wh d r n tw = true ↔ ∀ a b f : Nat, a < n → b < a → f ≤ tw → two nd wh d r (a : Int) (b : Int) f tw = true := by
  unfold nearAt
  simp only [List.all_eq_true, List.mem_range]
  exact ⟨fun h a b f h1 h2 h3 => h a h1 b h2 f (by omega), fun h a h1 b h2 f h3 => h a b f h1 h2 (by omega)⟩
theorem near_zero (d r : Int) (n : Nat) (hd : 0 ≤ d) : nearAt nd wh d r n 0 = true := by
  rw [nearAt_iff]
  intro a b f _ _ hf
  obtain rfl : f = 0 := by omega
  unfold two
  rw [Bool.or_eq_true, decide_eq_true_eq]
  right
  simp
  exact hd
/-- Of how many beats clocks are near. -/
def far (d r : Int) (n len : Nat) : Nat := first (fun k => !nearAt nd wh d r n (k + 1)) len 0
theorem far_spec (d r : Int) (n len : Nat) (hd : 0 ≤ d) : far nd wh d r n len ≤ len ∧ (∀ t, t ≤ far nd wh d r n len → nearAt nd wh d r n t = true) ∧ (far nd wh d r n len = len ∨ nearAt nd wh d r n (far nd wh d r n len + 1) = false) := by
  obtain ⟨_, h2, h3, h4⟩ := first_spec (fun k => !nearAt nd wh d r n (k + 1)) len 0
  unfold far
  refine ⟨by omega, fun t ht => ?_, ?_⟩
  · cases t with
    | zero => exact near_zero nd wh d r n hd
    | succ t =>
      have := h3 t (Nat.zero_le _) (by omega)
      simpa using this
  · rcases h4 with h4 | h4
    · exact .inl (by omega)
    · exact .inr (by simpa using h4)
theorem far_all (d r : Int) (n len : Nat) (hd : 0 ≤ d) : far nd wh d r n len = len ↔ ∀ t, t ≤ len → nearAt nd wh d r n t = true := by
  obtain ⟨h1, h2, h3⟩ := far_spec nd wh d r n len hd
  constructor
  · intro e t ht
    exact h2 t (by omega)
  · intro h
    rcases h3 with h3 | h3
    · exact h3
    · by_cases e : far nd wh d r n len = len
      · exact e
      · rw [h _ (by omega)] at h3
        cases h3
theorem two_more {d r d' r' x y : Int} {a b : Nat} (hr : 1 ≤ r') (hrr : r' ≤ r) (hdd : d ≤ d') (hab : a ≤ b) (h : two nd wh d r x y a b = true) : two nd wh d' r' x y a b = true := by
  unfold two at *
  rw [Bool.or_eq_true, decide_eq_true_eq] at *
  rcases h with h | h
  · exact .inl h
  · right
    have h1 := tk_mono nd wh x a (b - a)
    have h2 := tk_mono nd wh y a (b - a)
    rw [show a + (b - a) = b by omega] at h1 h2
    have h0 : 0 ≤ min (tk nd wh x b - tk nd wh x a) (tk nd wh y b - tk nd wh y a) := by omega
    generalize min (tk nd wh x b - tk nd wh x a) (tk nd wh y b - tk nd wh y a) = m at *
    have h3 : m / r ≤ m / r' := by
      rw [Int.le_ediv_iff_mul_le (by omega)]
      have h4 : m / r * r' ≤ m / r * r := Int.mul_le_mul_of_nonneg_left hrr (Int.ediv_nonneg h0 (by omega))
      have h5 : m / r * r ≤ m := Int.ediv_mul_le _ (by omega)
      omega
    omega
theorem nearAt_more {d r d' r' : Int} {n tw : Nat} (hr : 1 ≤ r') (hrr : r' ≤ r) (hdd : d ≤ d') (h : nearAt nd wh d r n tw = true) : nearAt nd wh d' r' n tw = true := by
  rw [nearAt_iff] at *
  exact fun a b f h1 h2 h3 => two_more nd wh hr hrr hdd h3 (h a b f h1 h2 h3)
theorem nearAt_len (r : Int) (hr : 1 ≤ r) {d : Int} {n tw : Nat} (hd : (tw : Int) ≤ d) : nearAt nd wh d r n tw = true := by
  rw [nearAt_iff]
  intro a b f _ _ hf
  unfold two
  rw [Bool.or_eq_true, decide_eq_true_eq]
  right
  have h1 := tk_mono nd wh a f (tw - f)
  have h2 := tk_mono nd wh b f (tw - f)
  rw [show f + (tw - f) = tw by omega] at h1 h2
  have h0 : 0 ≤ min (tk nd wh a tw - tk nd wh a f) (tk nd wh b tw - tk nd wh b f) := by omega
  have h3 := Int.ediv_nonneg h0 (show 0 ≤ r by omega)
  omega
end Go.Proofs.Ytahppppkepcbkaa.Clk
