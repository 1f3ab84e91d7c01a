/- Timers, plain: which one comes ahead; sorting; a heap of timers. -/
import Derived.Test.YtahppppkepcbkaaFnx0
namespace Go.Proofs.Ytahppppkepcbkaa.Tm
open Go.RowKit Go.Proofs.Ytahppppkepcbkaa.Fn Go.Proofs.YtahppppkepcbkaaW.PrintWords Go.Proofs.YtahppppkepcbkaaW.PrintMore
set_option linter.unusedVariables false
set_option linter.unusedSimpArgs false
set_option linter.unusedSectionVars false
/-- Less than nothing, nothing, or more. -/
def cmp3 (a b : Int) : Int := if a < b then -1 else if a > b then 1 else 0
/-- Does one come ahead of another one? -/
def tlt (a b : S52) : Prop := a.f0 < b.f0 ∨ a.f0 = b.f0 ∧ (a.f1 < b.f1 ∨ a.f1 = b.f1 ∧ (a.f2 < b.f2 ∨ a.f2 = b.f2 ∧ a.f3 < b.f3))
instance decT (a b : S52) : Decidable (tlt a b) := by unfold tlt; infer_instance
def lt (a b : S52) : Bool := decide (tlt a b)
theorem ext52 {a b : S52} (h0 : a.f0 = b.f0) (h1 : a.f1 = b.f1) (h2 : a.f2 = b.f2) (h3 : a.f3 = b.f3) : a = b := by
  cases a; cases b; simp_all
instance eq52 : DecidableEq S52 := fun a b => if h : a.f0 = b.f0 ∧ a.f1 = b.f1 ∧ a.f2 = b.f2 ∧ a.f3 = b.f3 then isTrue (ext52 h.1 h.2.1 h.2.2.1 h.2.2.2) else isFalse (fun q => h (by rw [q]; exact ⟨rfl, rfl, rfl, rfl⟩))
theorem lt_irr (a : S52) : ¬ tlt a a := by unfold tlt; omega
theorem lt_trans {a b c : S52} (h : tlt a b) (h' : tlt b c) : tlt a c := by unfold tlt at *; omega
theorem lt_asymm {a b : S52} (h : tlt a b) : ¬ tlt b a := by unfold tlt at *; omega
theorem lt_tri (a b : S52) : tlt a b ∨ a = b ∨ tlt b a := by
  by_cases h : tlt a b
  · exact Or.inl h
  · by_cases h' : tlt b a
    · exact Or.inr (Or.inr h')
    · refine Or.inr (Or.inl (ext52 ?_ ?_ ?_ ?_)) <;> unfold tlt at h h' <;> omega
/-- Not behind. -/
def le (a b : S52) : Prop := ¬ tlt b a
theorem le_refl (a : S52) : le a a := lt_irr a
theorem le_trans {a b c : S52} (h : le a b) (h' : le b c) : le a c := by unfold le tlt at *; omega
theorem le_antisymm {a b : S52} (h : le a b) (h' : le b a) : a = b := by
  rcases lt_tri a b with q | q | q
  · exact absurd q h'
  · exact q
  · exact absurd q h
theorem le_total (a b : S52) : le a b ∨ le b a := by unfold le tlt; omega
theorem le_of_lt {a b : S52} (h : tlt a b) : le a b := lt_asymm h
/-- In order. -/
def srt : List S52 → Prop
  | [] => True
  | a :: l => (∀ b ∈ l, le a b) ∧ srt l
/-- One more, in its place. -/
def ins (a : S52) : List S52 → List S52
  | [] => [a]
  | b :: l => if tlt b a then b :: ins a l else a :: b :: l
def isort : List S52 → List S52
  | [] => []
  | a :: l => ins a (isort l)
theorem ins_perm (a : S52) : ∀ l : List S52, (ins a l).Perm (a :: l)
  | [] => List.Perm.refl _
  | b :: l => by
    rw [ins]
    split
    · exact ((ins_perm a l).cons b).trans (List.Perm.swap a b l)
    · exact List.Perm.refl _
theorem isort_perm : ∀ l : List S52, (isort l).Perm l
  | [] => List.Perm.refl _
  | a :: l => (ins_perm a _).trans ((isort_perm l).cons a)
theorem ins_srt (a : S52) : ∀ l : List S52, srt l → srt (ins a l)
  | [], _ => ⟨fun b h => (by simp at h), trivial⟩
  | b :: l, h => by
    rw [ins]
    split
    · rename_i q
      refine ⟨fun c hc => ?_, ins_srt a l h.2⟩
      rcases List.mem_cons.1 ((ins_perm a l).mem_iff.1 hc) with rfl | hc
      · exact le_of_lt q
      · exact h.1 c hc
    · rename_i q
      refine ⟨fun c hc => ?_, h⟩
      rcases List.mem_cons.1 hc with rfl | hc
      · exact q
      · exact le_trans q (h.1 c hc)
theorem isort_srt : ∀ l : List S52, srt (isort l)
  | [] => trivial
  | a :: l => ins_srt a _ (isort_srt l)
/-- In order, of the same timers: the same. -/
theorem srt_unique : ∀ (l m : List S52), srt l → srt m → l.Perm m → l = m
  | [], m, _, _, h => (List.nil_perm.1 h).symm
  | a :: l, [], _, _, h => absurd h.symm (by intro q; exact absurd (List.nil_perm.1 q) (by simp))
  | a :: l, b :: m, hl, hm, h => by
    have e : a = b := by
      have h1 : a ∈ b :: m := h.mem_iff.1 (by simp)
      have h2 : b ∈ a :: l := h.mem_iff.2 (by simp)
      rcases List.mem_cons.1 h1 with q | q
      · exact q
      · rcases List.mem_cons.1 h2 with q' | q'
        · exact q'.symm
        · exact le_antisymm (hl.1 b q') (hm.1 a q)
    subst e
    rw [srt_unique l m hl.2 hm.2 ((List.perm_cons a).1 h)]
theorem isort_eq {l m : List S52} (h : l.Perm m) : isort l = isort m := srt_unique _ _ (isort_srt l) (isort_srt m) (((isort_perm l).trans h).trans (isort_perm m).symm)
theorem isort_id {l : List S52} (h : srt l) : isort l = l := srt_unique _ _ (isort_srt l) h (isort_perm l)
/-! ### A heap -/
/-- Two change places. -/
def swp (l : List S52) (i k : Nat) : List S52 := (l.set i (l.getD k z52)).set k (l.getD i z52)
theorem swp_len (l : List S52) (i k : Nat) : (swp l i k).length = l.length := by simp [swp]
theorem swp_getD (l : List S52) (i k j : Nat) (hi : i < l.length) (hk : k < l.length) : (swp l i k).getD j z52 = if j = k then l.getD i z52 else if j = i then l.getD k z52 else l.getD j z52 := by
  simp only [swp, List.getD_eq_getElem?_getD, List.getElem?_set, List.length_set]
  by_cases h1 : k = j
  · subst h1; simp [hk]
  · have h1' : ¬ j = k := fun q => h1 q.symm
    by_cases h2 : i = j
    · subst h2
      simp [h1, h1', hi]
    · have h2' : ¬ j = i := fun q => h2 q.symm
      simp [h1, h1', h2, h2']
theorem swp_perm (l : List S52) (i k : Nat) (hi : i < l.length) (hk : k < l.length) : (swp l i k).Perm l := by
  have e : swp l i k = (l.set i l[k]).set k l[i] := by simp [swp, hi, hk]
  rw [e]
  exact List.set_set_perm hi hk
/-- The one below at which a sinking one looks. -/
def kid (l : List S52) (i n : Nat) : Nat := if 2 * i + 2 < n ∧ lt (l.getD (2 * i + 2) z52) (l.getD (2 * i + 1) z52) = true then 2 * i + 2 else 2 * i + 1
/-- One sinks. -/
def dwn (n : Nat) : Nat → Nat → List S52 → List S52
  | 0, _, l => l
  | f + 1, i, l => if 2 * i + 1 < n then (if lt (l.getD (kid l i n) z52) (l.getD i z52) = true then dwn n f (kid l i n) (swp l i (kid l i n)) else l) else l
/-- One rises. -/
def upw : Nat → Nat → List S52 → List S52
  | 0, _, l => l
  | f + 1, j, l => if j = 0 then l else if lt (l.getD j z52) (l.getD ((j - 1) / 2) z52) = true then upw f ((j - 1) / 2) (swp l ((j - 1) / 2) j) else l
/-- What lies at a place. -/
def g (l : List S52) (i : Nat) : S52 := l.getD i z52
theorem g_swp {l : List S52} {i k : Nat} (hi : i < l.length) (hk : k < l.length) (j : Nat) : g (swp l i k) j = if j = k then g l i else if j = i then g l k else g l j := swp_getD l i k j hi hk
theorem lt_iff (a b : S52) : lt a b = true ↔ tlt a b := by unfold lt; rw [decide_eq_true_eq]
theorem lt_not {a b : S52} (h : ¬ lt a b = true) : le b a := fun q => h ((lt_iff a b).2 q)
/-- From place s on nobody is behind those below it. -/
def Hp (s n : Nat) (l : List S52) : Prop := ∀ j, s ≤ j → ∀ c, (c = 2 * j + 1 ∨ c = 2 * j + 2) → c < n → le (g l j) (g l c)
/-- So, but for one who is to sink. -/
def Hv (s n : Nat) (l : List S52) (i : Nat) : Prop :=
  (∀ j, s ≤ j → j ≠ i → ∀ c, (c = 2 * j + 1 ∨ c = 2 * j + 2) → c < n → le (g l j) (g l c)) ∧
  (∀ p, s ≤ p → (i = 2 * p + 1 ∨ i = 2 * p + 2) → ∀ c, (c = 2 * i + 1 ∨ c = 2 * i + 2) → c < n → le (g l p) (g l c))
theorem kid_in (l : List S52) (i n : Nat) (h : 2 * i + 1 < n) : (kid l i n = 2 * i + 1 ∨ kid l i n = 2 * i + 2) ∧ kid l i n < n ∧ (∀ c, (c = 2 * i + 1 ∨ c = 2 * i + 2) → c < n → le (g l (kid l i n)) (g l c)) := by
  unfold kid
  by_cases q : 2 * i + 2 < n ∧ lt (l.getD (2 * i + 2) z52) (l.getD (2 * i + 1) z52) = true
  · rw [if_pos q]
    refine ⟨Or.inr rfl, q.1, fun c hc _ => ?_⟩
    rcases hc with rfl | rfl
    · exact le_of_lt ((lt_iff _ _).1 q.2)
    · exact le_refl _
  · rw [if_neg q]
    refine ⟨Or.inl rfl, h, fun c hc hn => ?_⟩
    rcases hc with rfl | rfl
    · exact le_refl _
    · exact lt_not (fun q' => q ⟨hn, q'⟩)
theorem dwn_len (n : Nat) : ∀ (f i : Nat) (l : List S52), (dwn n f i l).length = l.length
  | 0, _, _ => rfl
  | f + 1, i, l => by
    rw [dwn]
    split
    · split
      · rw [dwn_len n f, swp_len]
      · rfl
    · rfl
theorem dwn_perm (n : Nat) : ∀ (f i : Nat) (l : List S52), n ≤ l.length → (dwn n f i l).Perm l
  | 0, _, _, _ => List.Perm.refl _
  | f + 1, i, l, hn => by
    rw [dwn]
    split
    · rename_i h
      obtain ⟨_, h2, _⟩ := kid_in l i n h
      split
      · exact (dwn_perm n f _ _ (by rw [swp_len]; exact hn)).trans (swp_perm l i _ (by omega) (by omega))
      · exact List.Perm.refl _
    · exact List.Perm.refl _
theorem dwn_far (n : Nat) : ∀ (f i : Nat) (l : List S52) (j : Nat), n ≤ l.length → n ≤ j → i < n ∨ n = 0 → g (dwn n f i l) j = g l j
  | 0, _, _, _, _, _, _ => rfl
  | f + 1, i, l, j, hn, hj, hi => by
    rw [dwn]
    split
    · rename_i h
      obtain ⟨_, h2, _⟩ := kid_in l i n h
      split
      · rw [dwn_far n f _ _ j (by rw [swp_len]; exact hn) hj (Or.inl h2), g_swp (by omega) (by omega), if_neg (by omega), if_neg (by omega)]
      · rfl
    · rfl
theorem dwn_heap (s n : Nat) : ∀ (f i : Nat) (l : List S52), n ≤ l.length → s ≤ i → n ≤ i + f → Hv s n l i → Hp s n (dwn n f i l)
  | 0, i, l, hn, hs, hf, h => by
    intro j hj c hc hcn
    exact h.1 j hj (by omega) c hc hcn
  | f + 1, i, l, hn, hs, hf, h => by
    rw [dwn]
    split
    · rename_i hk
      obtain ⟨k1, k2, k3⟩ := kid_in l i n hk
      generalize kid l i n = k at *
      split
      · rename_i hl
        have hlt := (lt_iff _ _).1 hl
        have hil : i < l.length := by omega
        have hkl : k < l.length := by omega
        refine dwn_heap s n f k _ (by rw [swp_len]; exact hn) (by omega) (by omega) ⟨?_, ?_⟩
        · intro j hj hjk c hc hcn
          rw [g_swp hil hkl, g_swp hil hkl, if_neg hjk]
          by_cases hji : j = i
          · subst hji
            rw [if_pos rfl]
            by_cases hck : c = k
            · rw [if_pos hck]
              exact le_of_lt hlt
            · rw [if_neg hck, if_neg (by omega)]
              exact k3 c hc hcn
          · rw [if_neg hji]
            by_cases hck : c = k
            · exfalso; omega
            · rw [if_neg hck]
              by_cases hci : c = i
              · subst hci
                rw [if_pos rfl]
                exact h.2 j hj hc k k1 k2
              · rw [if_neg hci]
                exact h.1 j hj hji c hc hcn
        · intro p hp hpk c hc hcn
          have hpi : p = i := by omega
          subst hpi
          rw [g_swp hil hkl, g_swp hil hkl, if_neg (by omega), if_pos rfl, if_neg (by omega), if_neg (by omega)]
          exact h.1 k (by omega) (by omega) c hc hcn
      · rename_i hl
        intro j hj c hc hcn
        by_cases hji : j = i
        · subst hji
          exact le_trans (lt_not hl) (k3 c hc hcn)
        · exact h.1 j hj hji c hc hcn
    · rename_i hk
      intro j hj c hc hcn
      exact h.1 j hj (by omega) c hc hcn
/-- All nodes sink, from the last one that has any below it. -/
def ini (n : Nat) : Nat → List S52 → List S52
  | 0, l => l
  | i + 1, l => ini n i (dwn n n i l)
theorem ini_all (n : Nat) : ∀ (i : Nat) (l : List S52), l.length = n → Hp i n l → (ini n i l).length = n ∧ (ini n i l).Perm l ∧ Hp 0 n (ini n i l)
  | 0, l, hl, h => ⟨hl, List.Perm.refl _, h⟩
  | i + 1, l, hl, h => by
    have hd := dwn_heap i n n i l (by omega) (Nat.le_refl _) (by omega) ⟨fun j hj hji c hc hcn => h j (by omega) c hc hcn, fun p hp hpi => by omega⟩
    obtain ⟨q1, q2, q3⟩ := ini_all n i (dwn n n i l) (by rw [dwn_len]; exact hl) hd
    exact ⟨q1, q2.trans (dwn_perm n n i l (by omega)), q3⟩
/-- A heap of them. -/
def qini (l : List S52) : List S52 := ini l.length (l.length / 2) l
theorem qini_all (l : List S52) : (qini l).length = l.length ∧ (qini l).Perm l ∧ Hp 0 l.length (qini l) :=
  ini_all l.length (l.length / 2) l rfl (fun j hj c hc hcn => by omega)
/-- So, but for one who is to rise. -/
def Uv (n : Nat) (l : List S52) (j : Nat) : Prop :=
  (∀ p c, (c = 2 * p + 1 ∨ c = 2 * p + 2) → c ≠ j → c < n → le (g l p) (g l c)) ∧
  (∀ p, (j = 2 * p + 1 ∨ j = 2 * p + 2) → ∀ c, (c = 2 * j + 1 ∨ c = 2 * j + 2) → c < n → le (g l p) (g l c))
theorem upw_len : ∀ (f j : Nat) (l : List S52), (upw f j l).length = l.length
  | 0, _, _ => rfl
  | f + 1, j, l => by
    rw [upw]
    split
    · rfl
    · split
      · rw [upw_len f, swp_len]
      · rfl
theorem upw_perm : ∀ (f j : Nat) (l : List S52), j < l.length → (upw f j l).Perm l
  | 0, _, _, _ => List.Perm.refl _
  | f + 1, j, l, hj => by
    rw [upw]
    split
    · exact List.Perm.refl _
    · split
      · exact (upw_perm f _ _ (by rw [swp_len]; omega)).trans (swp_perm l _ _ (by omega) hj)
      · exact List.Perm.refl _
theorem upw_heap (n : Nat) : ∀ (f j : Nat) (l : List S52), n ≤ l.length → j < n → j ≤ f → Uv n l j → Hp 0 n (upw f j l)
  | 0, j, l, hn, hj, hf, h => by
    intro p _ c hc hcn
    exact h.1 p c hc (by omega) hcn
  | f + 1, j, l, hn, hj, hf, h => by
    rw [upw]
    split
    · intro p _ c hc hcn
      exact h.1 p c hc (by omega) hcn
    · rename_i hj0
      obtain ⟨p, hp⟩ : ∃ p, p = (j - 1) / 2 := ⟨_, rfl⟩
      rw [← hp]
      have hpj : j = 2 * p + 1 ∨ j = 2 * p + 2 := by omega
      split
      · rename_i hl
        have hlt := (lt_iff _ _).1 hl
        have hpl : p < l.length := by omega
        have hjl : j < l.length := by omega
        refine upw_heap n f p _ (by rw [swp_len]; exact hn) (by omega) (by omega) ⟨?_, ?_⟩
        · intro p2 c hc hcp hcn
          rw [g_swp hpl hjl, g_swp hpl hjl, if_neg hcp]
          by_cases hcj : c = j
          · have e : p2 = p := by omega
            subst e
            rw [if_pos hcj, if_neg (by omega), if_pos rfl]
            exact le_of_lt hlt
          · rw [if_neg hcj]
            by_cases h2 : p2 = j
            · subst h2
              rw [if_pos rfl]
              exact h.2 p hpj c hc hcn
            · rw [if_neg h2]
              by_cases h3 : p2 = p
              · subst h3
                rw [if_pos rfl]
                exact le_trans (le_of_lt hlt) (h.1 p2 c hc hcj hcn)
              · rw [if_neg h3]
                exact h.1 p2 c hc hcj hcn
        · intro p2 hp2 c hc hcn
          rw [g_swp hpl hjl, g_swp hpl hjl, if_neg (by omega), if_neg (by omega)]
          have hpp : le (g l p2) (g l p) := h.1 p2 p hp2 (by omega) (by omega)
          by_cases hcj : c = j
          · rw [if_pos hcj]
            exact hpp
          · rw [if_neg hcj, if_neg (by omega)]
            exact le_trans hpp (h.1 p c hc hcj hcn)
      · rename_i hl
        intro p2 _ c hc hcn
        by_cases hcj : c = j
        · subst hcj
          have e : p2 = p := by omega
          subst e
          exact lt_not hl
        · exact h.1 p2 c hc hcj hcn
/-- One more in a heap. -/
def qput (l : List S52) (x : S52) : List S52 := upw l.length l.length (l ++ [x])
theorem qput_all {l : List S52} (h : Hp 0 l.length l) (x : S52) : (qput l x).length = l.length + 1 ∧ (qput l x).Perm (l ++ [x]) ∧ Hp 0 (l.length + 1) (qput l x) := by
  have ga : ∀ i, i < l.length → g (l ++ [x]) i = g l i := fun i hi => by simp only [g, List.getD_eq_getElem?_getD]; rw [List.getElem?_append_left hi]
  refine ⟨by unfold qput; rw [upw_len]; simp, upw_perm _ _ _ (by simp), upw_heap (l.length + 1) _ _ _ (by simp) (by omega) (Nat.le_refl _) ⟨?_, ?_⟩⟩
  · intro p c hc hcj hcn
    rw [ga p (by omega), ga c (by omega)]
    exact h p (Nat.zero_le _) c hc (by omega)
  · intro p hp c hc hcn
    exfalso; omega
/-- The root is behind nobody. -/
theorem heap_root {n : Nat} {l : List S52} (h : Hp 0 n l) : ∀ j, j < n → le (g l 0) (g l j) := by
  intro j
  induction j using Nat.strongRecOn with
  | ind j ih =>
    intro hj
    by_cases h0 : j = 0
    · subst h0; exact le_refl _
    · exact le_trans (ih ((j - 1) / 2) (by omega) (by omega)) (h ((j - 1) / 2) (Nat.zero_le _) j (by omega) hj)
/-- What is left of a heap of n and one when its root is taken. -/
def qpop (n : Nat) (l : List S52) : List S52 := dwn n n 0 (swp l 0 n)
theorem qpop_all {n : Nat} {l : List S52} (hl : l.length = n + 1) (h : Hp 0 (n + 1) l) : (qpop n l).length = n + 1 ∧ (qpop n l).Perm l ∧ Hp 0 n ((qpop n l).take n) ∧ g (qpop n l) n = g l 0 := by
  have hs := dwn_heap 0 n n 0 (swp l 0 n) (by rw [swp_len]; omega) (Nat.le_refl _) (by omega) ⟨?_, fun p _ hp => by omega⟩
  · refine ⟨by unfold qpop; rw [dwn_len, swp_len, hl], (dwn_perm n n 0 _ (by rw [swp_len]; omega)).trans (swp_perm l 0 n (by omega) (by omega)), ?_, ?_⟩
    · intro j hj c hc hcn
      have e : ∀ i, i < n → g ((qpop n l).take n) i = g (qpop n l) i := fun i hi => by simp only [g, List.getD_eq_getElem?_getD]; rw [List.getElem?_take_of_lt hi]
      rw [e j (by omega), e c hcn]
      exact hs j hj c hc hcn
    · unfold qpop
      rw [dwn_far n n 0 _ n (by rw [swp_len]; omega) (Nat.le_refl _) (by omega), g_swp (by omega) (by omega), if_pos rfl]
  · intro j _ hj0 c hc hcn
    rw [g_swp (by omega) (by omega), g_swp (by omega) (by omega), if_neg (by omega), if_neg hj0, if_neg (by omega), if_neg (by omega)]
    exact h j (Nat.zero_le _) c hc (by omega)
/-- All are taken, one by one. -/
def qall : Nat → List S52 → List S52
  | 0, _ => []
  | n + 1, l => g l 0 :: qall n ((qpop n l).take n)
theorem qall_all : ∀ (n : Nat) (l : List S52), l.length = n → Hp 0 n l → srt (qall n l) ∧ (qall n l).Perm l
  | 0, l, hl, _ => ⟨trivial, by rw [List.eq_nil_of_length_eq_zero hl]; exact List.Perm.refl _⟩
  | n + 1, l, hl, h => by
    obtain ⟨q1, q2, q3, q4⟩ := qpop_all hl h
    obtain ⟨r1, r2⟩ := qall_all n ((qpop n l).take n) (by rw [List.length_take]; omega) q3
    have hsp : qpop n l = (qpop n l).take n ++ [g l 0] := by
      have hlt : n < (qpop n l).length := by omega
      have e := List.take_succ_eq_append_getElem hlt
      rw [List.take_of_length_le (by omega)] at e
      have e2 : (qpop n l)[n] = g l 0 := by rw [← q4]; simp [g, hlt]
      rw [e2] at e
      exact e
    have hp : (g l 0 :: (qpop n l).take n).Perm l := by
      refine List.Perm.trans ?_ q2
      conv => rhs; rw [hsp]
      exact (List.perm_append_singleton _ _).symm
    refine ⟨⟨fun b hb => ?_, r1⟩, (r2.cons _).trans hp⟩
    have hb' : b ∈ l := hp.mem_iff.1 (List.mem_cons_of_mem _ (r2.mem_iff.1 hb))
    obtain ⟨j, hj, rfl⟩ := List.mem_iff_getElem.1 hb'
    have := heap_root h j (by omega)
    have e : g l j = l[j] := by simp [g, hj]
    rwa [e] at this
theorem qall_isort {l m : List S52} (h : Hp 0 l.length l) (hp : l.Perm m) : qall l.length l = isort m := by
  obtain ⟨q1, q2⟩ := qall_all l.length l rfl h
  exact srt_unique _ _ q1 (isort_srt m) ((q2.trans hp).trans (isort_perm m).symm)
theorem sort_eq (l : List S52) : qall l.length (qini l) = isort l := by
  obtain ⟨q1, q2, q3⟩ := qini_all l
  have := qall_isort (l := qini l) (m := l) (by rw [q1]; exact q3) q2
  rwa [q1] at this
/-- One by one they are put into a heap. -/
theorem puts_all : ∀ (t l : List S52), Hp 0 l.length l → (t.foldl qput l).length = l.length + t.length ∧ (t.foldl qput l).Perm (l ++ t) ∧ Hp 0 (t.foldl qput l).length (t.foldl qput l)
  | [], l, h => ⟨by simp, by simp, h⟩
  | x :: t, l, h => by
    obtain ⟨q1, q2, q3⟩ := qput_all h x
    obtain ⟨r1, r2, r3⟩ := puts_all t (qput l x) (by rw [q1]; exact q3)
    refine ⟨by rw [List.foldl_cons, r1, q1, List.length_cons]; omega, ?_, r3⟩
    rw [List.foldl_cons]
    refine r2.trans ?_
    have := q2.append_right t
    rwa [List.append_assoc, List.singleton_append] at this
/-- A list in order is a heap. -/
theorem srt_at : ∀ {l : List S52}, srt l → ∀ i j, i ≤ j → j < l.length → le (g l i) (g l j)
  | [], _, _, _, _, h => by simp at h
  | a :: l, h, i, j, hij, hj => by
    cases i with
    | zero =>
      cases j with
      | zero => exact le_refl _
      | succ j =>
        have hj' : j < l.length := by simpa using hj
        have e : g (a :: l) (j + 1) = l[j] := by simp [g, hj']
        rw [e]
        exact h.1 _ (List.getElem_mem hj')
    | succ i =>
      cases j with
      | zero => omega
      | succ j =>
        have hj' : j < l.length := by simpa using hj
        have := srt_at h.2 i j (by omega) hj'
        simpa [g] using this
theorem srt_heap {l : List S52} (h : srt l) : Hp 0 l.length l := fun j _ c hc hcn => srt_at h j c (by omega) hcn
theorem add_eq {l : List S52} (h : srt l) (t : List S52) : qall (l.length + t.length) (t.foldl qput l) = isort (l ++ t) := by
  obtain ⟨r1, r2, r3⟩ := puts_all t l (srt_heap h)
  have := qall_isort r3 r2
  rwa [r1] at this
end Go.Proofs.Ytahppppkepcbkaa.Tm
