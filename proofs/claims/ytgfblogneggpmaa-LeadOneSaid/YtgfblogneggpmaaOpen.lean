/- What a reading of an argument gives, kind by kind: a value of the kind, its numbers within their kinds, its rows within the form's reach. Plain lemmas, for the rows of this seat's laws; no condition. -/
import Derived.Test.YtgfblogneggpmaaWWords
import Derived.Test.YtgfblogneggpmaaWSized
import Derived.ChangeArms
import Derived.ChangeSlices
import Derived.DataReads
import Derived.ChangeOld
namespace Go.Proofs.Ytgfblogneggpmaa.Opn
open Go.RowKit Go.Proofs.YtgfblogneggpmaaW.PrintWords
open Go.ChangeShapes Go.WideShapes

/-- A reading of type t that weighs no more than the reach gives an x of kind d, of which ok holds. -/
def Opens {α : Type} (P : Program) (t : TypeId) (d : Kd α) (ok : α → Prop) : Prop :=
  ∀ (H : Type) (enc : TypeId × Value → H) (w : World) (base : Nat) (spare : Nat → Bool) (held : Bool) (fuel : Nat) (cs : List Value) (x : DataW H × List MemPlace),
    DataW.trod enc P w base spare held fuel t cs = some x → (∀ n ∈ x.1.weights P t, n ≤ 140737488351232) → ∃ a, d.K w a cs ∧ ok a

theorem opens_int {P : Program} {t : TypeId} {k : IntKind} (ht : P.underlying t = some (.int k)) : Opens P t (Kd.int k) (fun x => (Lit.int k x).wf = true) := by
  intro H enc w base spare held fuel cs x h _
  obtain ⟨n, rfl, rfl, hw⟩ := DataW.trod_int ht h
  exact ⟨n, rfl, hw⟩

theorem opens_bool {P : Program} {t : TypeId} (ht : P.underlying t = some .bool) : Opens P t Kd.bool (fun _ => True) := by
  intro H enc w base spare held fuel cs x h _
  obtain ⟨b, rfl, rfl⟩ := DataW.trod_bool ht h
  exact ⟨b, rfl, trivial⟩

theorem opens_string {P : Program} {t : TypeId} (ht : P.underlying t = some .string) : Opens P t Kd.string (fun s => s.size ≤ 140737488351232) := by
  intro H enc w base spare held fuel cs x h hw
  obtain ⟨s, rfl, rfl, _⟩ := DataW.trod_string ht h
  have h1 := hw s.data.toList.length (by simp [DataW.weights])
  rw [Array.length_toList] at h1
  exact ⟨s, rfl, h1⟩

theorem list_of {α : Type} (Q : Nat → α → Prop) : ∀ n, (∀ i, i < n → ∃ a, Q i a) → ∃ l : List α, l.length = n ∧ ∀ i a, l[i]? = some a → Q i a
  | 0, _ => ⟨[], rfl, fun i a h => by simp at h⟩
  | n + 1, h => by
    obtain ⟨l, hl, hq⟩ := list_of Q n (fun i hi => h i (by omega))
    obtain ⟨a, ha⟩ := h n (by omega)
    refine ⟨l ++ [a], by simp [hl], fun i b hb => ?_⟩
    rcases Nat.lt_or_ge i l.length with hi | hi
    · rw [List.getElem?_append_left hi] at hb
      exact hq i b hb
    · have hi' : i < (l ++ [a]).length := (List.getElem?_eq_some_iff.1 hb).1
      rw [List.length_append, List.length_singleton] at hi'
      have e : i = n := by omega
      subst e
      rw [List.getElem?_append_right (by omega), hl, Nat.sub_self] at hb
      simp at hb
      subst hb
      exact ha

theorem weights_all {H : Type} {P : Program} {e : TypeId} {d : DataW H} : ∀ {l : List (DataW H)}, d ∈ l → ∀ n ∈ d.weights P e, n ∈ DataW.weightsAll P e l
  | [], h, _, _ => by simp at h
  | y :: r, h, n, hn => by
    simp only [DataW.weightsAll, List.mem_append]
    rcases List.mem_cons.1 h with rfl | h
    · exact Or.inl hn
    · exact Or.inr (weights_all h n hn)

theorem opens_slice {P : Program} {α : Type} {t e : TypeId} {d : Kd α} {ok : α → Prop} {B : Nat} (ht : P.underlying t = some (.slice e)) (hc : P.cellsOf e = d.sz) (hB : P.bytesOf e = B) (he : Opens P e d ok) :
    Opens P t (Kd.slice e d) (fun l => l.length ≤ maxLen ∧ l.length * B ≤ 140737488351232 ∧ ∀ x ∈ l, ok x) := by
  intro H enc w base spare held fuel cs x h hw
  rcases DataW.trod_slice ht h with ⟨rfl, rfl⟩ | ⟨a, len, cap, elems, rest, n, _, rfl, rfl, hb, hl, hm, hlen, hel, _, _⟩
  · exact ⟨[], ⟨none, 0, rfl, Nat.le_refl _, Kd.C_nil d w⟩, by simp [maxLen]⟩
  · have hwe : ∀ y ∈ elems, ∀ m ∈ y.1.weights P e, m ≤ 140737488351232 := by
      intro y hy m hm
      refine hw m ?_
      simp only [DataW.weights, ht, List.mem_cons, List.mem_append]
      exact Or.inr (Or.inl (weights_all (List.mem_map_of_mem hy) m hm))
    have hsize : (elems.length + rest.length) * B ≤ 140737488351232 := by
      rw [← hB]
      refine hw _ ?_
      simp [DataW.weights, ht]
    obtain ⟨l, hll, hq⟩ := list_of (fun i x => ∃ c, w.cells? base (a.add (i * d.sz)) d.sz = some c ∧ d.K w x c ∧ ok x) len (fun i hi => by
      have h1 := hel i hi
      rw [hc] at h1
      have h2 : elems[i]? = some (elems[i]'(by omega)) := List.getElem?_eq_getElem (by omega)
      rw [h2, Option.bind_eq_some_iff] at h1
      obtain ⟨c, hcs, hcx⟩ := h1
      obtain ⟨x, hx, hk⟩ := he H enc w base spare held n c _ hcx (hwe _ (List.getElem_mem _))
      exact ⟨x, c, hcs, hx, hk⟩)
    refine ⟨l, ⟨some a, cap, by rw [hll], by omega, hll ▸ rfl, by rw [hll]; simp only [maxLen] at hm; omega, fun _ => ⟨a, rfl, fun j p hp => ?_⟩⟩, by rw [hll]; omega, ?_, fun x hx => ?_⟩
    · obtain ⟨c, hcs, hx, _⟩ := hq j p hp
      refine ⟨c, d.K_len hx, hx, fun i u hu => ?_⟩
      have hil : i < d.sz := by rw [← d.K_len hx]; exact (List.getElem?_eq_some_iff.1 hu).1
      have h3 := (World.cells?_some hcs).2.2 i hil
      rw [add_add] at h3
      rw [h3, hu]
    · have h4 : l.length * B ≤ (elems.length + rest.length) * B := Nat.mul_le_mul_right _ (by omega)
      exact Nat.le_trans h4 hsize
    · obtain ⟨i, hi, rfl⟩ := List.mem_iff_getElem.1 hx
      obtain ⟨_, _, _, hk⟩ := hq i _ (List.getElem?_eq_getElem hi)
      exact hk

/-- The fields of a struct from cell o on. -/
def OpensFs {α : Type} (P : Program) (o : Nat) (fs : List Field) (d : Kd α) (ok : α → Prop) : Prop :=
  ∀ (H : Type) (enc : TypeId × Value → H) (w : World) (base : Nat) (spare : Nat → Bool) (held : Bool) (n : Nat) (cs : List Value) (xs : List (DataW H × List MemPlace)),
    cs.length = o + d.sz → xs.length = fs.length → (∀ (i : Nat) (f : Field), fs[i]? = some f → DataW.trod enc P w base spare held n f.type ((cs.drop f.offset).take (P.cellsOf f.type)) = xs[i]?) →
    (∀ m ∈ DataW.weightsEach P (fs.map (·.type)) (xs.map (·.1)), m ≤ 140737488351232) → ∃ a, d.K w a (cs.drop o) ∧ ok a

theorem opens_last {P : Program} {α : Type} {d : Kd α} {ok : α → Prop} {o : Nat} {f : Field} (ho : f.offset = o) (hc : P.cellsOf f.type = d.sz) (h : Opens P f.type d ok) : OpensFs P o [f] d ok := by
  intro H enc w base spare held n cs xs hcs hxs hf hw
  match xs, hxs with
  | [x], _ =>
    have h1 := hf 0 f rfl
    rw [ho, hc, List.take_of_length_le (by rw [List.length_drop]; omega)] at h1
    exact h H enc w base spare held n _ x h1 (fun m hm => hw m (by simp [DataW.weightsEach, hm]))

theorem opens_cons {P : Program} {α β : Type} {d : Kd α} {d' : Kd β} {ok : α → Prop} {ok' : β → Prop} {o : Nat} {f : Field} {fs : List Field} (ho : f.offset = o) (hc : P.cellsOf f.type = d.sz) (h : Opens P f.type d ok)
    (h' : OpensFs P (o + d.sz) fs d' ok') : OpensFs P o (f :: fs) (Kd.pair d d') (fun x => ok x.1 ∧ ok' x.2) := by
  intro H enc w base spare held n cs xs hcs hxs hf hw
  match xs, hxs with
  | x :: xs, hxs =>
    have h1 := hf 0 f rfl
    rw [ho, hc] at h1
    obtain ⟨a, ha, hka⟩ := h H enc w base spare held n _ x h1 (fun m hm => hw m (by simp only [List.map_cons, DataW.weightsEach, List.mem_append]; exact Or.inl hm))
    obtain ⟨b, hb, hkb⟩ := h' H enc w base spare held n cs xs (by rw [hcs]; show o + (d.sz + d'.sz) = _; omega) (by simpa using hxs) (fun i g hg => hf (i + 1) g hg) (fun m hm => hw m (by simp only [List.map_cons, DataW.weightsEach, List.mem_append]; exact Or.inr hm))
    refine ⟨(a, b), ⟨_, _, ?_, ha, hb⟩, hka, hkb⟩
    rw [← List.drop_drop, List.take_append_drop]

theorem opens_struct {P : Program} {α β : Type} {t : TypeId} {fs : Array Field} {d : Kd α} {ok : α → Prop} (f : β → α) (g : α → β) (hg : ∀ x, f (g x) = x) (ht : P.underlying t = some (.struct fs)) (hc : P.cellsOf t = d.sz)
    (h : OpensFs P 0 fs.toList d ok) : Opens P t (Kd.iso d f) (fun x => ok (f x)) := by
  intro H enc w base spare held fuel cs x hx hw
  obtain ⟨xs, n, _, rfl, hl, hxs, hf⟩ := DataW.trod_struct ht hx
  obtain ⟨a, ha, hk⟩ := h H enc w base spare held n cs xs (by rw [hl, hc, Nat.zero_add]) (by simpa using hxs) (fun i f hi => hf i f (by simpa using hi)) (fun m hm => hw m (by simp only [DataW.weights, ht]; exact hm))
  rw [List.drop_zero] at ha
  exact ⟨g a, by show d.K w (f (g a)) cs; rw [hg]; exact ha, by show ok (f (g a)); rw [hg]; exact hk⟩

theorem Opens.imp {P : Program} {α : Type} {t : TypeId} {d : Kd α} {ok ok' : α → Prop} (h : Opens P t d ok) (hi : ∀ x, ok x → ok' x) : Opens P t d ok' := by
  intro H enc w base spare held fuel cs x hx hw
  obtain ⟨a, ha, hk⟩ := h H enc w base spare held fuel cs x hx hw
  exact ⟨a, ha, hi a hk⟩

/-! the arguments of a law -/
section
variable {H : Type} {enc : TypeId × Value → H} {P : Program} {W : World} {base b0 : Nat} {spare : Nat → Bool} {held : Bool} {t : TypeId} {v : Value} {d : DataW H} {ps : List MemPlace} {r : Reach}

theorem each_of {ts : List TypeId} {ds : List (DataW H)} (hsz : (DataW.weightsEach P ts ds).all (· ≤ reachBytes) = true) {j : Nat} (ht : ts[j]? = some t) (hd : ds[j]? = some d) : ∀ n ∈ d.weights P t, n ≤ 140737488351232 := by
  intro n hn
  have := List.all_eq_true.1 hsz _ (DataW.weights_mem_each ht hd n hn)
  exact of_decide_eq_true this

theorem arg_int {k : IntKind} (ht : P.underlying t = some (.int k)) (hval : Value.okWide P W r b0 t v) (h : DataW.Trod enc P W base spare held t v d ps) : ∃ n, v = .int k n ∧ (Lit.int k n).wf = true := by
  obtain ⟨n, rfl, _, _, hw⟩ := open_int ht hval h
  exact ⟨n, rfl, hw⟩
theorem arg_bool (ht : P.underlying t = some .bool) (hval : Value.okWide P W r b0 t v) : ∃ b, v = .bool b := okWide_bool ht hval
theorem arg_string (ht : P.underlying t = some .string) (hval : Value.okWide P W r b0 t v) (h : DataW.Trod enc P W base spare held t v d ps) (hw : ∀ n ∈ d.weights P t, n ≤ 140737488351232) : ∃ s, v = .string s ∧ s.size ≤ 140737488351232 := by
  obtain ⟨s, rfl⟩ := okWide_string ht hval
  obtain ⟨fuel, hf⟩ := h
  obtain ⟨s', hs, hk⟩ := opens_string ht H enc W base spare held fuel _ _ hf hw
  have e : [Value.string s] = [Value.string s'] := hs
  simp only [List.cons.injEq, Value.string.injEq, and_true] at e
  subst e
  exact ⟨s, rfl, hk⟩
theorem arg_slice {α : Type} {e : TypeId} {k : Kd α} {ok : List α → Prop} (ht : P.underlying t = some (.slice e)) (ho : Opens P t (Kd.slice e k) ok) (hval : Value.okWide P W r b0 t v) (h : DataW.Trod enc P W base spare held t v d ps)
    (hw : ∀ n ∈ d.weights P t, n ≤ 140737488351232) : ∃ A c l, v = .slice A l.length c ∧ l.length ≤ c ∧ Kd.C k W A l.length l ∧ ok l := by
  obtain ⟨a, len, cap, rfl⟩ := okWide_slice ht hval
  obtain ⟨fuel, hf⟩ := h
  obtain ⟨l, ⟨A, c, hs, hl, hc⟩, hk⟩ := ho H enc W base spare held fuel _ _ hf hw
  have e : [Value.slice a len cap] = [Value.slice A l.length c] := hs
  simp only [List.cons.injEq, and_true] at e
  exact ⟨A, c, l, e, hl, hc, hk⟩
theorem arg_struct {α : Type} {fs : Array Field} {k : Kd α} {ok : α → Prop} (ht : P.underlying t = some (.struct fs)) (ho : Opens P t k ok) (hval : Value.okWide P W r b0 t v) (h : DataW.Trod enc P W base spare held t v d ps)
    (hw : ∀ n ∈ d.weights P t, n ≤ 140737488351232) : ∃ cs x, v = .agg cs ∧ k.K W x cs.toList ∧ ok x := by
  simp only [Value.okWide, ht] at hval
  obtain ⟨cs, rfl, _⟩ := hval
  obtain ⟨fuel, hf⟩ := h
  obtain ⟨x, hx, hk⟩ := ho H enc W base spare held fuel _ _ hf hw
  exact ⟨cs, x, rfl, hx, hk⟩
theorem agg_of {cs : Array Value} {l : List Value} (h : cs.toList = l) : cs = l.toArray := by subst h; simp
end
end Go.Proofs.Ytgfblogneggpmaa.Opn
