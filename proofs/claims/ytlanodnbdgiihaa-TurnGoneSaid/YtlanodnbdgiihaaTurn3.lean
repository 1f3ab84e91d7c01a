/- Turns as what is left of an order: each node in its time; plain facts. -/
import Derived.Test.YtlanodnbdgiihaaFnx14
import Derived.Test.YtlanodnbdgiihaaTurn2
namespace Go.Proofs.Ytlanodnbdgiihaa.Dice
open Go.RowKit Go.Proofs.Ytlanodnbdgiihaa.Fn Go.Proofs.YtlanodnbdgiihaaW.PrintWords Go.Proofs.YtlanodnbdgiihaaW.PrintMore

theorem nodup_le : ∀ (a l : List Int), a.Nodup → (∀ x ∈ a, x ∈ l) → a.length ≤ l.length
  | [], l, _, _ => by simp
  | x :: a, l, h, hs => by
    rw [List.nodup_cons] at h
    have hx := hs x (by simp)
    have ih := nodup_le a (l.erase x) h.2 (fun y hy => by
      have hne : y ≠ x := fun e => h.1 (e ▸ hy)
      rw [List.mem_erase_of_ne hne]
      exact hs y (by simp [hy]))
    rw [List.length_erase_of_mem hx] at ih
    have : 0 < l.length := List.length_pos_of_mem hx
    simp only [List.length_cons]
    omega
theorem filter_find (q : Int → Bool) (y : Int) (r : List Int) : ∀ d : List Int, d.filter q = y :: r → d.findIdx q < d.length ∧ d.getD (d.findIdx q) 0 = y ∧ (d.drop (d.findIdx q + 1)).filter q = r
  | [], h => by simp at h
  | z :: d, h => by
    cases hz : q z with
    | true =>
      rw [List.filter_cons_of_pos hz, List.cons.injEq] at h
      rw [List.findIdx_cons, hz]
      simp [h.1, h.2]
    | false =>
      rw [List.filter_cons_of_neg (by simp [hz])] at h
      have ih := filter_find q y r d h
      rw [List.findIdx_cons, hz]
      simpa using ih
/-- What is left of a turn, of nodes l. -/
def rest (l tl : List Int) (at_ : Nat) : List Int := (tl.drop at_).filter (fun x => decide (x ∈ l))
def ordr (L : ByteArray) (p : Int) (l : List Int) : List Int := (shf L (l.length - 1) l p).1
def then_ (L : ByteArray) (p : Int) (l : List Int) : Int := (shf L (l.length - 1) l p).2
theorem ordr_perm {L : ByteArray} {p : Int} {l : List Int} (hp : mayd L p) : (ordr L p l).Perm l := shf_perm _ l p hp (by omega)
theorem then_may {L : ByteArray} {p : Int} {l : List Int} (hp : mayd L p) : mayd L (then_ L p l) := (shf_place (l.length - 1) l p hp).1
/-- May a turn, and dice, be? -/
structure Vt (L : ByteArray) (l tl : List Int) (at_ : Nat) (p : Int) : Prop where
  len : tl.length ≤ 65
  at_le : at_ ≤ tl.length
  dis : distd tl = true
  may : mayd L p
theorem nodesok_dis {l : List Int} (hs : nodesok l = true) : distd l = true := by
  unfold nodesok at hs
  rw [Bool.and_eq_true] at hs
  exact hs.1
theorem distd_nodup {l : List Int} (h : distd l = true) : l.Nodup := by
  unfold distd at h
  rw [Bool.and_eq_true, decide_eq_true_eq, decide_eq_true_eq] at h
  exact h.2
theorem distd_rng {l : List Int} (h : distd l = true) {x : Int} (hx : x ∈ l) : 0 ≤ x ∧ x < 64 := by
  unfold distd at h
  rw [Bool.and_eq_true, decide_eq_true_eq, decide_eq_true_eq] at h
  exact h.1 x hx
/-- One is asked: the head of what is left, or of a new order. -/
theorem next_step (k : Nat) (hk : 300 ≤ k) (L : ByteArray) (hL : L.size ≤ 1000000) (p : Int) (l : List Int) (hl : l.length ≤ 65) (h0 : 0 < l.length) (hs : nodesok l = true) (tl : List Int) (at_ : Nat) (hv : Vt L l tl at_ p) :
    ∃ (n : Int) (tl' : List Int) (at' : Nat) (p' : Int), turn_Next.f k tl (at_ : Int) L p l = some (n, tl', (at' : Int), L, p', 0) ∧ Vt L l tl' at' p' ∧ n ∈ l ∧ 1 ≤ at' ∧ tl'.getD (at' - 1) 0 = n ∧
      ((rest l tl at_ = n :: rest l tl' at' ∧ p' = p ∧ tl' = tl ∧ at_ < at') ∨ (rest l tl at_ = [] ∧ ordr L p l = n :: rest l tl' at' ∧ p' = then_ L p l ∧ tl' = ordr L p l ∧ at' = 1)) := by
  have hn := next_eq k hk L hL p hv.may l hl h0 hs tl at_ hv.len hv.at_le hv.dis
  unfold nxt at hn
  by_cases hf : (tl.drop at_).findIdx (fun x => decide (x ∈ l)) < (tl.drop at_).length
  · simp only [if_pos hf] at hn
    have hdl : (tl.drop at_).length = tl.length - at_ := List.length_drop
    have hget : (tl.drop at_).getD ((tl.drop at_).findIdx (fun x => decide (x ∈ l))) 0 ∈ l := by
      have h2 := List.findIdx_getElem (w := hf)
      rw [List.getD_eq_getElem?_getD, List.getElem?_eq_getElem hf, Option.getD_some]
      exact of_decide_eq_true h2
    cases hr : rest l tl at_ with
    | nil =>
      exfalso
      have hmem : (tl.drop at_).getD ((tl.drop at_).findIdx (fun x => decide (x ∈ l))) 0 ∈ rest l tl at_ := by
        unfold rest
        rw [List.mem_filter]
        refine ⟨?_, decide_eq_true hget⟩
        rw [List.getD_eq_getElem?_getD, List.getElem?_eq_getElem hf, Option.getD_some]
        exact List.getElem_mem _
      rw [hr] at hmem
      cases hmem
    | cons y r =>
      obtain ⟨h1, h2, h3⟩ := filter_find _ y r _ hr
      refine ⟨_, _, _, _, hn, ⟨hv.len, by omega, hv.dis, hv.may⟩, hget, by omega, ?_, .inl ⟨?_, rfl, rfl, by omega⟩⟩
      · simp only [List.getD_eq_getElem?_getD, List.getElem?_drop, Nat.add_sub_cancel]
      · rw [h2]
        unfold rest
        rw [List.drop_drop] at h3
        rw [Nat.add_assoc, h3]
  · simp only [if_neg hf] at hn
    have hpm := ordr_perm (l := l) hv.may
    have hlen : (ordr L p l).length = l.length := hpm.length_eq
    have hcons : ordr L p l = (ordr L p l).getD 0 0 :: (ordr L p l).drop 1 := by
      cases ho : ordr L p l with
      | nil => rw [ho] at hlen; simp at hlen; omega
      | cons y r => simp
    have hrest : rest l (ordr L p l) 1 = (ordr L p l).drop 1 := by
      unfold rest
      rw [List.filter_eq_self]
      intro x hx
      exact decide_eq_true (hpm.mem_iff.1 (List.mem_of_mem_drop hx))
    have hr : rest l tl at_ = [] := by
      unfold rest
      rw [List.filter_eq_nil_iff]
      intro x hx hx2
      exact hf (List.findIdx_lt_length_of_exists ⟨x, hx, hx2⟩)
    refine ⟨_, ordr L p l, 1, _, hn, ⟨by omega, by omega, distd_perm hpm (nodesok_dis hs), then_may hv.may⟩, ?_, by omega, rfl, .inr ⟨hr, ?_, rfl, rfl, rfl⟩⟩
    · rw [← hpm.mem_iff]
      rw [hcons]
      simp [ordr]
    · rw [hrest]
      exact hcons
/-- The abstract turn: what is left, and the dice's place. -/
def stp (L : ByteArray) (l : List Int) (s : List Int × Int) : Int × (List Int × Int) :=
  match s.1 with
  | y :: r => (y, (r, s.2))
  | [] => ((ordr L s.2 l).getD 0 0, ((ordr L s.2 l).drop 1, then_ L s.2 l))
def askd (L : ByteArray) (l : List Int) : Nat → List Int × Int → List Int
  | 0, _ => []
  | m + 1, s => (stp L l s).1 :: askd L l m (stp L l s).2
def aftr (L : ByteArray) (l : List Int) : Nat → List Int × Int → List Int × Int
  | 0, s => s
  | m + 1, s => aftr L l m (stp L l s).2
theorem askd_length (L : ByteArray) (l : List Int) : ∀ (m : Nat) (s : List Int × Int), (askd L l m s).length = m
  | 0, _ => rfl
  | m + 1, s => by rw [askd, List.length_cons, askd_length L l m]
theorem askd_add (L : ByteArray) (l : List Int) : ∀ (a b : Nat) (s : List Int × Int), askd L l (a + b) s = askd L l a s ++ askd L l b (aftr L l a s)
  | 0, b, s => by simp [askd, aftr]
  | a + 1, b, s => by
    rw [show a + 1 + b = (a + b) + 1 by omega, askd, askd, aftr, askd_add L l a b, List.cons_append]
theorem aftr_succ (L : ByteArray) (l : List Int) : ∀ (a : Nat) (s : List Int × Int), aftr L l (a + 1) s = (stp L l (aftr L l a s)).2
  | 0, s => rfl
  | a + 1, s => by
    rw [aftr, aftr_succ L l a]
    rfl
theorem askd_succ (L : ByteArray) (l : List Int) (a : Nat) (s : List Int × Int) : askd L l (a + 1) s = askd L l a s ++ [(stp L l (aftr L l a s)).1] := by
  rw [askd_add]
  rfl
/-- May an abstract turn be? -/
structure Va (L : ByteArray) (l : List Int) (s : List Int × Int) : Prop where
  nd : s.1.Nodup
  sub : ∀ x ∈ s.1, x ∈ l
  may : mayd L s.2
theorem Va.stp {L : ByteArray} {l : List Int} {s : List Int × Int} (h : Va L l s) (hn : l.Nodup) : Va L l (stp L l s).2 := by
  obtain ⟨r, p⟩ := s
  obtain ⟨h1, h2, h3⟩ := h
  cases r with
  | nil =>
    have hpm := ordr_perm (l := l) h3
    refine ⟨?_, ?_, then_may h3⟩
    · exact (hpm.nodup_iff.2 hn).sublist (List.drop_sublist 1 _)
    · intro x hx
      exact hpm.mem_iff.1 (List.mem_of_mem_drop hx)
  | cons y r => exact ⟨(List.nodup_cons.1 h1).2, fun x hx => h2 x (List.mem_cons_of_mem y hx), h3⟩
theorem Va.aftr {L : ByteArray} {l : List Int} (hn : l.Nodup) : ∀ (m : Nat) {s : List Int × Int}, Va L l s → Va L l (aftr L l m s)
  | 0, _, h => h
  | m + 1, _, h => Va.aftr hn m (h.stp hn)
theorem askd_rest (L : ByteArray) (l : List Int) : ∀ (r : List Int) (p : Int) (m : Nat), askd L l (r.length + m) (r, p) = r ++ askd L l m ([], p)
  | [], p, m => by simp
  | y :: r, p, m => by
    rw [show (y :: r).length + m = (r.length + m) + 1 by simp; omega, askd]
    show y :: askd L l (r.length + m) (r, p) = _
    rw [askd_rest L l r p m]
    rfl
theorem askd_nil (L : ByteArray) (l : List Int) (h0 : 0 < l.length) (p : Int) (hp : mayd L p) : ∀ m : Nat, askd L l m ([], p) = askd L l m (ordr L p l, then_ L p l)
  | 0 => rfl
  | m + 1 => by
    have hlen : (ordr L p l).length = l.length := (ordr_perm (l := l) hp).length_eq
    rw [askd, askd]
    cases ho : ordr L p l with
    | nil => rw [ho] at hlen; simp at hlen; omega
    | cons y r => simp [stp, ho]
/-- Each node is asked within twice as many as there are, less 1. -/
theorem in_time (L : ByteArray) (l : List Int) (s : List Int × Int) (h : Va L l s) (x : Int) (hx : x ∈ l) : x ∈ askd L l (2 * l.length - 1) s := by
  obtain ⟨r, p⟩ := s
  have h0 : 0 < l.length := List.length_pos_of_mem hx
  have hr := nodup_le r l h.nd h.sub
  by_cases hxr : x ∈ r
  · rw [show 2 * l.length - 1 = r.length + (2 * l.length - 1 - r.length) by omega, askd_rest]
    simp [hxr]
  · have hr2 := nodup_le (x :: r) l (List.nodup_cons.2 ⟨hxr, h.nd⟩) (fun y hy => by
      rcases List.mem_cons.1 hy with e | hy
      · rw [e]; exact hx
      · exact h.sub y hy)
    rw [List.length_cons] at hr2
    have hpm := ordr_perm (l := l) h.may
    rw [show 2 * l.length - 1 = r.length + ((ordr L p l).length + (2 * l.length - 1 - r.length - l.length)) by rw [hpm.length_eq]; omega, askd_rest, askd_nil L l h0 p h.may, askd_rest]
    simp [hpm.mem_iff.2 hx]
theorem rest_va {L : ByteArray} {l tl : List Int} {at_ : Nat} {p : Int} (hv : Vt L l tl at_ p) : Va L l (rest l tl at_, p) := by
  refine ⟨?_, ?_, hv.may⟩
  · exact ((distd_nodup hv.dis).sublist (List.drop_sublist at_ tl)).sublist List.filter_sublist
  · intro x hx
    exact of_decide_eq_true (List.mem_filter.1 hx).2
/-- One is asked, abstractly. -/
theorem next_stp (k : Nat) (hk : 300 ≤ k) (L : ByteArray) (hL : L.size ≤ 1000000) (p : Int) (l : List Int) (hl : l.length ≤ 65) (h0 : 0 < l.length) (hs : nodesok l = true) (tl : List Int) (at_ : Nat) (hv : Vt L l tl at_ p) :
    ∃ (tl' : List Int) (at' : Nat) (p' : Int), turn_Next.f k tl (at_ : Int) L p l = some ((stp L l (rest l tl at_, p)).1, tl', (at' : Int), L, p', 0) ∧ Vt L l tl' at' p' ∧ (stp L l (rest l tl at_, p)).1 ∈ l ∧ (stp L l (rest l tl at_, p)).2 = (rest l tl' at', p') := by
  obtain ⟨n, tl', at', p', h1, h2, h3, _, _, h4⟩ := next_step k hk L hL p l hl h0 hs tl at_ hv
  rcases h4 with ⟨h5, h6, _, _⟩ | ⟨h5, h6, h7, _, _⟩
  · have e : stp L l (rest l tl at_, p) = (n, (rest l tl' at', p')) := by rw [h5, h6]; rfl
    refine ⟨tl', at', p', ?_, h2, ?_, ?_⟩
    · rw [e]; exact h1
    · rw [e]; exact h3
    · rw [e]
  · have e : stp L l (rest l tl at_, p) = (n, (rest l tl' at', p')) := by
      rw [h5]
      show ((ordr L p l).getD 0 0, ((ordr L p l).drop 1, then_ L p l)) = _
      rw [h6, h7]
      rfl
    refine ⟨tl', at', p', ?_, h2, ?_, ?_⟩
    · rw [e]; exact h1
    · rw [e]; exact h3
    · rw [e]
end Go.Proofs.Ytlanodnbdgiihaa.Dice
