/- LeadOnce, over numbers and lists alone: the printed function answers true at every input. -/
import Derived.Test.YtgfblogneggpmaaFnx36
import Derived.Test.YtgfblogneggpmaaFnx37
import Derived.Test.YtgfblogneggpmaaSayLeadOnce
import Derived.Test.YtgfblogneggpmaaLead
namespace Go.Proofs.Ytgfblogneggpmaa.Pure
open Go.RowKit Go.Proofs.Ytgfblogneggpmaa.Fn Go.Proofs.YtgfblogneggpmaaW.PrintWords Go.Proofs.YtgfblogneggpmaaW.PrintMore Go.Proofs.Ytgfblogneggpmaa.Vote Go.Proofs.Ytgfblogneggpmaa.Thr

/-- A lead's list that holds the grants of S. -/
structure Rep (n : Nat) (V : Nat → Nat) (A : Nat → Int) (f : List Int) (S : Nat → Prop) : Prop where
  len : f.length = n
  ok : leadok f = true
  le : ∀ j : Nat, j < n → ∀ u : Int, f.getD j 0 ≤ u ↔ (-1 ≤ u ∧ ∀ i, S i → V i = j → A i ≤ u)
theorem Rep.start {n : Nat} {V : Nat → Nat} {A : Nat → Int} (h1 : 1 ≤ n) (h2 : n ≤ 64) : Rep n V A (List.replicate n (-1)) (fun _ => False) := by
  refine ⟨by simp, leadok_of (by simp; omega) (by simp; omega) (fun x hx => by rw [List.eq_of_mem_replicate hx]; omega), fun j hj u => ?_⟩
  have : (List.replicate n (-1 : Int)).getD j 0 = -1 := by
    rw [List.getD_eq_getElem?_getD, List.getElem?_replicate, if_pos hj]
    rfl
  rw [this]
  exact ⟨fun h => ⟨h, fun i hi => hi.elim⟩, fun h => h.1⟩
theorem Rep.step {n : Nat} {V : Nat → Nat} {A : Nat → Int} {f : List Int} {S : Nat → Prop} (h : Rep n V A f S) (i : Nat) (hV : V i < n) (hA : 0 ≤ A i ∧ A i ≤ 1099511627776) : Rep n V A (gra f (V i) (A i)) (fun x => S x ∨ x = i) := by
  refine ⟨by rw [gra_length]; exact h.len, gra_ok h.ok (by rw [h.len]; exact hV) hA, fun j hj u => ?_⟩
  rw [gra_get f (V i) (A i) j (by rw [h.len]; exact hV)]
  by_cases hji : j = V i
  · rw [if_pos hji]
    subst hji
    have hl := h.le (V i) hj u
    constructor
    · intro hm
      have h1 := hl.1 (by omega)
      refine ⟨h1.1, fun x hx hv => ?_⟩
      rcases hx with hx | rfl
      · exact h1.2 x hx hv
      · omega
    · rintro ⟨h1, h2⟩
      have h3 := hl.2 ⟨h1, fun x hx hv => h2 x (.inl hx) hv⟩
      have h4 := h2 i (.inr rfl) rfl
      omega
  · rw [if_neg hji, h.le j hj u]
    constructor
    · rintro ⟨h1, h2⟩
      refine ⟨h1, fun x hx hv => ?_⟩
      rcases hx with hx | rfl
      · exact h2 x hx hv
      · exact absurd hv.symm hji
    · rintro ⟨h1, h2⟩
      exact ⟨h1, fun x hx hv => h2 x (.inl hx) hv⟩
theorem Rep.eq {n : Nat} {V : Nat → Nat} {A : Nat → Int} {f g : List Int} {S T : Nat → Prop} (hf : Rep n V A f S) (hg : Rep n V A g T) (hST : ∀ i, S i ↔ T i) : f = g := by
  refine List.ext_getElem (by rw [hf.len, hg.len]) (fun j h1 h2 => ?_)
  have hj : j < n := by rw [← hf.len]; exact h1
  have e1 : f.getD j 0 = f[j] := by simp [h1]
  have e2 : g.getD j 0 = g[j] := by simp [h2]
  have a1 := hf.le j hj
  have a2 := hg.le j hj
  rw [e1] at a1
  rw [e2] at a2
  have b1 := (a1 g[j]).2 (by
    have := (a2 g[j]).1 (Int.le_refl _)
    exact ⟨this.1, fun i hi hv => this.2 i ((hST i).1 hi) hv⟩)
  have b2 := (a2 f[j]).2 (by
    have := (a1 f[j]).1 (Int.le_refl _)
    exact ⟨this.1, fun i hi hv => this.2 i ((hST i).2 hi) hv⟩)
  omega
theorem equal64_l0 (a : List Int) (hm : a.length ≤ 1000000) : ∀ (d i k : Nat), i + d = a.length → d + 1 ≤ k → slices_Equal_int64_int64.l0 k a a (a.length : Int) (i : Int) = some true
  | 0, i, k, hi, hk => by
    obtain ⟨k, rfl⟩ : ∃ m, k = m + 1 := ⟨k - 1, by omega⟩
    rw [slices_Equal_int64_int64.l0, if_neg (by omega)]
  | d + 1, i, k, hi, hk => by
    obtain ⟨k, rfl⟩ : ∃ m, k = m + 1 := ⟨k - 1, by omega⟩
    have ih := equal64_l0 a hm d (i + 1) k (by omega) (by omega)
    have y : -9223372036854775808 ≤ (i : Int) + 1 ∧ (i : Int) + 1 ≤ 9223372036854775807 := by omega
    rw [slices_Equal_int64_int64.l0, if_pos (by omega), if_pos (by omega), if_pos (by omega), if_pos (by omega), if_pos rfl, w64_id _ y.1 y.2]
    exact ih
theorem same_refl (k : Nat) (e : Int) (a : List Int) (hm : a.length ≤ 1000000) (hk : a.length + 1 ≤ k) : lead_Same.f k e a e a = some true := by
  unfold lead_Same.f slices_Equal_int64_int64.f
  have := equal64_l0 a hm a.length 0 k (by omega) hk
  rw [show ((0 : Nat) : Int) = 0 from rfl] at this
  rw [if_pos rfl, if_pos rfl, this]
  rfl
theorem once_l0 (vo ak : List Int) (hvo : ∀ x ∈ vo, 0 ≤ x ∧ x ≤ 255) (has : ∀ x ∈ ak, 0 ≤ x ∧ x ≤ 65535) (n k : Nat) (h1 : 1 ≤ n) (h2 : n ≤ 64) (hk : k ≤ 20) (hkv : k ≤ vo.length) (hka : k ≤ ak.length) :
    ∀ (d i F : Nat), i + d = k → d * 10 + 200 ≤ F → ∀ (f g : List Int), Rep n (fun x => (vo.getD x 0).toNat % n) (fun x => ak.getD x 0) f (fun x => x < i) → Rep n (fun x => (vo.getD x 0).toNat % n) (fun x => ak.getD x 0) g (fun x => k - i ≤ x ∧ x < k) →
      tattlelaw18_LeadOnce.l0 F vo ak (n : Int) (k : Int) (i : Int) 0 f 0 g = some true
  | 0, i, F, hi, hF, f, g, hf, hg => by
    obtain ⟨F, rfl⟩ : ∃ q, F = q + 1 := ⟨F - 1, by omega⟩
    have e := hf.eq hg (fun x => ⟨fun h => ⟨by omega, by omega⟩, fun h => by omega⟩)
    subst e
    have hl := hf.len
    rw [tattlelaw18_LeadOnce.l0, if_neg (by omega), same18_refl F 0 f (by omega) (by omega), Option.bind_some, if_pos rfl, same_refl F 0 f (by omega) (by omega), Option.bind_some, if_pos rfl]
    rfl
  | d + 1, i, F, hi, hF, f, g, hf, hg => by
    obtain ⟨F, rfl⟩ : ∃ q, F = q + 4 := ⟨F - 4, by omega⟩
    have key : ∀ x : Nat, x < k → Int.tmod (wrap64 (rd vo (x : Int))) (n : Int) = (((vo.getD x 0).toNat % n : Nat) : Int) ∧ wrap64 (rd ak (x : Int)) = ak.getD x 0 ∧ 0 ≤ ak.getD x 0 ∧ ak.getD x 0 ≤ 1099511627776 ∧ (vo.getD x 0).toNat % n < n := by
      intro x hx
      have hv := hvo (vo.getD x 0) (by simp [show x < vo.length by omega])
      have ha := has (ak.getD x 0) (by simp [show x < ak.length by omega])
      have r1 : rd vo (x : Int) = vo.getD x 0 := rfl
      have r2 : rd ak (x : Int) = ak.getD x 0 := rfl
      rw [r1, r2]
      generalize vo.getD x 0 = v at *
      generalize ak.getD x 0 = a at *
      refine ⟨?_, w64_id _ (by omega) (by omega), ha.1, by omega, Nat.mod_lt _ (by omega)⟩
      rw [w64_id _ (by omega) (by omega), Int.tmod_eq_emod_of_nonneg hv.1, Int.natCast_emod, Int.toNat_of_nonneg hv.1]
    obtain ⟨p1, p2, p3, p4, p5⟩ := key i (by omega)
    obtain ⟨q1, q2, q3, q4, q5⟩ := key (k - 1 - i) (by omega)
    have y : -9223372036854775808 ≤ (i : Int) + 1 ∧ (i : Int) + 1 ≤ 9223372036854775807 := by omega
    have z1 : wrap64 ((0 : Int) + 1) = 1 := w64_id _ (by omega) (by omega)
    have z2 : wrap64 ((1 : Int) + 1) = 2 := w64_id _ (by omega) (by omega)
    have w1 : wrap64 ((k : Int) - 1) = (k : Int) - 1 := w64_id _ (by omega) (by omega)
    have w2 : wrap64 ((k : Int) - 1 - (i : Int)) = ((k - 1 - i : Nat) : Int) := by rw [w64_id _ (by omega) (by omega)]; omega
    have s1 := hf.step i p5 ⟨p3, p4⟩
    have s2 := s1.step i p5 ⟨p3, p4⟩
    have t1 := hg.step (k - 1 - i) q5 ⟨q3, q4⟩
    have hfl := hf.len
    have hsl := s1.len
    have hgl := hg.len
    have ih := once_l0 vo ak hvo has n k h1 h2 hk hkv hka d (i + 1) F (by omega) (by omega) _ _ ⟨s2.len, s2.ok, fun j hj u => by
        rw [s2.le j hj u]
        exact ⟨fun h => ⟨h.1, fun x hx => h.2 x (by by_cases e : x = i; exact .inr e; exact .inl (.inl (by omega)))⟩, fun h => ⟨h.1, fun x hx => h.2 x (by rcases hx with (hx | hx) | hx <;> omega)⟩⟩⟩
      ⟨t1.len, t1.ok, fun j hj u => by
        rw [t1.le j hj u]
        exact ⟨fun h => ⟨h.1, fun x hx => h.2 x (by by_cases e : x = k - 1 - i; exact .inr e; exact .inl ⟨by omega, by omega⟩)⟩, fun h => ⟨h.1, fun x hx => h.2 x (by rcases hx with hx | hx <;> omega)⟩⟩⟩
    rw [tattlelaw18_LeadOnce.l0, if_pos (by omega)]
    rw [tattlelaw18_LeadOnce.l1, if_pos (by omega), if_pos (by omega), if_pos (by omega), if_neg (by omega), if_pos (by omega), p1, p2, granted_eq (F + 2) (by omega), if_pos ⟨hf.ok, by omega, by omega, p3, p4⟩, if_pos rfl, Option.bind_some, Int.toNat_natCast]
    simp only [if_true]
    rw [z1]
    rw [tattlelaw18_LeadOnce.l1, if_pos (by omega), if_pos (by omega), if_pos (by omega), if_neg (by omega), if_pos (by omega), p1, p2, granted_eq (F + 1) (by omega), if_pos ⟨s1.ok, by omega, by omega, p3, p4⟩, if_pos rfl, Option.bind_some, Int.toNat_natCast]
    simp only [if_true]
    rw [z2]
    rw [tattlelaw18_LeadOnce.l1, if_neg (by omega), w1, w2, if_pos (by omega), if_pos (by omega), if_neg (by omega), if_pos (by omega), q1, q2, granted_eq F (by omega), if_pos ⟨hg.ok, by omega, by omega, q3, q4⟩, if_pos rfl, Option.bind_some, Int.toNat_natCast]
    simp only [if_true]
    rw [w64_id _ y.1 y.2]
    exact ih
theorem LeadOnce : tattlelaw18_LeadOnce.Pure := by
  intro m vo ak hm hvo has
  have hm := u8_wf hm
  have hvo2 : ∀ x ∈ vo, 0 ≤ x ∧ x ≤ 255 := fun x hx => u8_wf (hvo.2.2 x hx)
  have has2 : ∀ x ∈ ak, 0 ≤ x ∧ x ≤ 65535 := fun x hx => u16_wf (has.2.2 x hx)
  obtain ⟨K, hK⟩ : ∃ K, 2000 ≤ K := ⟨2000, Nat.le_refl _⟩
  refine ⟨K + 1, ?_⟩
  have e1 : wrap64 (1 + wrap64 (Int.tmod m 9)) = ((1 + (m % 9).toNat : Nat) : Int) := by
    rw [Int.tmod_eq_emod_of_nonneg hm.1, w64_id (m % 9) (by omega) (by omega), w64_id _ (by omega) (by omega)]
    omega
  have hn : 1 ≤ 1 + (m % 9).toNat ∧ 1 + (m % 9).toNat ≤ 64 := by omega
  have e2 : mn (mn (vo.length : Int) (ak.length : Int)) 20 = ((min (min vo.length ak.length) 20 : Nat) : Int) := by
    unfold mn
    split <;> split <;> omega
  unfold tattlelaw18_LeadOnce.f
  rw [e1, lnew_eq _ hn.1 hn.2, Option.bind_some, Option.bind_some]
  simp only [if_true]
  rw [tattlelaw18_LeadOnce.j0, if_neg (by decide), e2]
  have st := Rep.start (V := fun x => (vo.getD x 0).toNat % (1 + (m % 9).toNat)) (A := fun x => ak.getD x 0) hn.1 hn.2
  exact once_l0 vo ak hvo2 has2 _ _ hn.1 hn.2 (by omega) (by omega) (by omega) _ 0 K (Nat.zero_add _) (by omega) _ _
    ⟨st.len, st.ok, fun j hj u => by
      rw [st.le j hj u]
      exact ⟨fun h => ⟨h.1, fun x hx => by omega⟩, fun h => ⟨h.1, fun x hx => hx.elim⟩⟩⟩
    ⟨st.len, st.ok, fun j hj u => by
      rw [st.le j hj u]
      exact ⟨fun h => ⟨h.1, fun x hx => by omega⟩, fun h => ⟨h.1, fun x hx => hx.elim⟩⟩⟩
end Go.Proofs.Ytgfblogneggpmaa.Pure
