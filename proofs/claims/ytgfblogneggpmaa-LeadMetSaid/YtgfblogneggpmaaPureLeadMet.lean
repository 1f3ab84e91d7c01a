/- LeadMet, over numbers and lists alone: the printed function answers true at every input. -/
import Derived.Test.YtgfblogneggpmaaFnx27
import Derived.Test.YtgfblogneggpmaaFnx30
import Derived.Test.YtgfblogneggpmaaSayLeadMet
import Derived.Test.YtgfblogneggpmaaLead
namespace Go.Proofs.Ytgfblogneggpmaa.Pure
open Go.RowKit Go.Proofs.Ytgfblogneggpmaa.Fn Go.Proofs.YtgfblogneggpmaaW.PrintWords Go.Proofs.YtgfblogneggpmaaW.PrintMore Go.Proofs.Ytgfblogneggpmaa.Vote Go.Proofs.Ytgfblogneggpmaa.Thr

/-- Whose grant it is. -/
def own (n : Nat) (tw : List Int) (i : Nat) : Int := (tw.getD i 0) % (n : Int)
/-- What a's list has behind i grants. -/
def got (n : Nat) (tw : List Int) (a : Int) (asked : Int) (i : Nat) : List Int := (List.range n).map fun j => if j < i ∧ own n tw j = a then asked else -1
theorem got_length (n : Nat) (tw : List Int) (a asked : Int) (i : Nat) : (got n tw a asked i).length = n := by simp [got]
theorem got_zero (n : Nat) (tw : List Int) (a asked : Int) : got n tw a asked 0 = List.replicate n (-1) := by
  refine List.eq_replicate_iff.2 ⟨got_length n tw a asked 0, fun x hx => ?_⟩
  obtain ⟨j, _, rfl⟩ := List.mem_map.1 hx
  rw [if_neg (fun q => by omega)]
theorem got_get (n : Nat) (tw : List Int) (a asked : Int) (i j : Nat) (hj : j < n) : (got n tw a asked i).getD j 0 = if j < i ∧ own n tw j = a then asked else -1 := by
  unfold got
  rw [List.getD_eq_getElem?_getD, List.getElem?_map, List.getElem?_range hj]
  rfl
theorem got_skip {n : Nat} {tw : List Int} {a asked : Int} {i : Nat} (h : own n tw i ≠ a) : got n tw a asked (i + 1) = got n tw a asked i := by
  unfold got
  refine List.map_congr_left fun j _ => ?_
  by_cases hj : j = i
  · subst hj
    rw [if_neg (fun q => h q.2), if_neg (fun q => h q.2)]
  · by_cases h2 : j < i ∧ own n tw j = a
    · rw [if_pos h2, if_pos ⟨by omega, h2.2⟩]
    · rw [if_neg h2, if_neg (fun q => h2 ⟨by omega, q.2⟩)]
theorem got_gra {n : Nat} {tw : List Int} {a asked : Int} {i : Nat} (hi : i < n) (h : own n tw i = a) (ha : 0 ≤ asked) : gra (got n tw a asked i) i asked = got n tw a asked (i + 1) := by
  have hl := got_length n tw a asked i
  have hl2 := got_length n tw a asked (i + 1)
  have hg := gra_length (got n tw a asked i) i asked
  refine List.ext_getElem (by omega) (fun j h1 h2 => ?_)
  have e1 := gra_get (got n tw a asked i) i asked j (by omega)
  rw [got_get n tw a asked i i hi, got_get n tw a asked i j (by omega)] at e1
  have e2 := got_get n tw a asked (i + 1) j (by omega)
  rw [List.getD_eq_getElem?_getD, List.getElem?_eq_getElem h1, Option.getD_some] at e1
  rw [List.getD_eq_getElem?_getD, List.getElem?_eq_getElem h2, Option.getD_some] at e2
  rw [e1, e2]
  by_cases hj : j = i
  · subst hj
    rw [if_pos rfl, if_neg (fun q => by omega), if_pos ⟨by omega, h⟩]
    omega
  · rw [if_neg hj]
    by_cases h3 : j < i ∧ own n tw j = a
    · rw [if_pos h3, if_pos ⟨by omega, h3.2⟩]
    · rw [if_neg h3, if_neg (fun q => h3 ⟨by omega, q.2⟩)]
theorem got_ok {n : Nat} {tw : List Int} {a asked : Int} {i : Nat} (h1 : 1 ≤ n) (h2 : n ≤ 64) (ha : 0 ≤ asked ∧ asked ≤ 1099511627776) : leadok (got n tw a asked i) = true := by
  refine leadok_of (by rw [got_length]; omega) (by rw [got_length]; omega) (fun x hx => ?_)
  unfold got at hx
  obtain ⟨j, _, rfl⟩ := List.mem_map.1 hx
  split <;> omega
/-- How many grants are a's. -/
def cnt (n : Nat) (tw : List Int) (a : Int) : Nat := (List.range n).countP fun j => decide (own n tw j = a)
theorem cnt_two (n : Nat) (tw : List Int) (a b : Int) (h : a ≠ b) : cnt n tw a + cnt n tw b ≤ n := by
  have key : ∀ l : List Nat, l.countP (fun j => decide (own n tw j = a)) + l.countP (fun j => decide (own n tw j = b)) ≤ l.length := by
    intro l
    induction l with
    | nil => simp
    | cons j l ih =>
      rw [List.countP_cons, List.countP_cons, List.length_cons]
      by_cases h1 : own n tw j = a
      · rw [if_pos (by simpa using h1), if_neg (by simp; omega)]
        omega
      · rw [if_neg (by simpa using h1)]
        split <;> omega
  have := key (List.range n)
  rwa [List.length_range] at this
theorem got_count (n : Nat) (tw : List Int) (a asked v : Int) (hv : 0 ≤ v) : (got n tw a asked n).countP (fun x => decide (v ≤ x)) ≤ cnt n tw a := by
  unfold got cnt
  rw [List.countP_map]
  refine List.countP_mono_left fun j hj => ?_
  intro h
  rw [Function.comp_apply, decide_eq_true_eq] at h
  rw [decide_eq_true_eq]
  rw [List.mem_range] at hj
  by_cases h2 : own n tw j = a
  · exact h2
  · rw [if_neg (fun q => h2 q.2)] at h
    omega
/-- Does a hold? -/
theorem got_holds {n : Nat} {tw : List Int} {a asked : Int} (h1 : 1 ≤ n) (h : ¬thr (got n tw a asked n) (maj n) < 0) : maj n ≤ cnt n tw a := by
  have hm := thr_many (got n tw a asked n) (maj n) (by unfold maj; omega) (by rw [got_length]; unfold maj; omega)
  have := got_count n tw a asked (thr (got n tw a asked n) (maj n)) (by omega)
  omega
theorem ten_may : mayt 10 2 4 := by decide
theorem met_l1 (tw : List Int) (asked : Int) (hto : ∀ x ∈ tw, 0 ≤ x ∧ x ≤ 255) (n : Nat) (hn : tw.length = n) (h1 : 1 ≤ n) (h2 : n ≤ 64) (ha : 0 ≤ asked ∧ asked ≤ 1099511627776) (hol : Int) (a : Nat) (B : Option Bool) (K : Nat)
    (hB : ∀ k, K ≤ k → (if thr (got n tw (a : Int) asked n) (maj n) < 0 then tattlelaw18_LeadMet.l0 k tw asked (n : Int) hol (wrap64 ((a : Int) + 1)) else tattlelaw18_LeadMet.l0 k tw asked (n : Int) (wrap64 (hol + 1)) (wrap64 ((a : Int) + 1))) = B) :
    ∀ (m i F : Nat), i + m = n → K + m + 10 ≤ F → tattlelaw18_LeadMet.l1 F tw asked (n : Int) hol (a : Int) (i : Int) 0 (got n tw (a : Int) asked i) = B
  | 0, i, F, hi, hF => by
    obtain ⟨F, rfl⟩ : ∃ q, F = q + 1 := ⟨F - 1, by omega⟩
    obtain rfl : i = n := by omega
    have hu := until_eq 10 2 4 0 (got i tw (a : Int) asked i)
    rw [if_pos ⟨ten_may, got_ok h1 h2 ha⟩, got_length] at hu
    have hb := hB F (by omega)
    rw [tattlelaw18_LeadMet.l1, if_neg (by omega)]
    unfold tattlelaw18_ten.f
    rw [Option.bind_some]
    simp only
    rw [hu, Option.bind_some]
    by_cases hth : thr (got i tw (a : Int) asked i) (maj i) < 0
    · rw [if_pos hth] at hb ⊢
      simp only
      rw [if_neg (by decide)]
      exact hb
    · rw [if_neg hth] at hb ⊢
      simp only [if_true]
      exact hb
  | m + 1, i, F, hi, hF => by
    obtain ⟨F, rfl⟩ : ∃ q, F = q + 1 := ⟨F - 1, by omega⟩
    have ih := met_l1 tw asked hto n hn h1 h2 ha hol a B K hB m (i + 1) F (by omega) (by omega)
    have y : -9223372036854775808 ≤ (i : Int) + 1 ∧ (i : Int) + 1 ≤ 9223372036854775807 := by omega
    have hil : i < tw.length := by omega
    have hx := hto (tw.getD i 0) (by simp [hil])
    have hr : rd tw (i : Int) = tw.getD i 0 := rfl
    have e1 : Int.tmod (wrap64 (rd tw (i : Int))) (n : Int) = own n tw i := by
      rw [hr, w64_id _ (by omega) (by omega), Int.tmod_eq_emod_of_nonneg hx.1]
      rfl
    rw [tattlelaw18_LeadMet.l1, if_pos (by omega), if_pos (by omega), if_pos (by omega), if_neg (by omega), e1, w64_id _ y.1 y.2]
    by_cases ho : own n tw i = (a : Int)
    · rw [if_pos ho, granted_eq F (by omega), if_pos ⟨got_ok h1 h2 ha, by omega, by rw [got_length]; omega, ha⟩, if_pos rfl, Option.bind_some, Int.toNat_natCast, got_gra (by omega) ho ha.1]
      simp only [if_true]
      exact ih
    · rw [if_neg ho]
      rw [got_skip ho] at ih
      exact ih
theorem met_l0 (tw : List Int) (asked : Int) (hto : ∀ x ∈ tw, 0 ≤ x ∧ x ≤ 255) (n : Nat) (hn : tw.length = n) (h1 : 1 ≤ n) (h2 : n ≤ 64) (ha : 0 ≤ asked ∧ asked ≤ 1099511627776) :
    ∀ (m a : Nat), a + m = n → ∀ (hol : Nat), (hol = 0 ∨ hol = 1 ∧ ∃ b, b < a ∧ maj n ≤ cnt n tw ((b : Nat) : Int)) → ∀ F, m * 200 + 200 ≤ F → tattlelaw18_LeadMet.l0 F tw asked (n : Int) (hol : Int) (a : Int) = some true
  | 0, a, ham, hol, hh, F, hF => by
    obtain ⟨F, rfl⟩ : ∃ q, F = q + 1 := ⟨F - 1, by omega⟩
    rw [tattlelaw18_LeadMet.l0, if_neg (by omega), if_pos (by omega)]
    rfl
  | m + 1, a, ham, hol, hh, F, hF => by
    obtain ⟨F, rfl⟩ : ∃ q, F = q + 1 := ⟨F - 1, by omega⟩
    have y : -9223372036854775808 ≤ (a : Int) + 1 ∧ (a : Int) + 1 ≤ 9223372036854775807 := by omega
    rw [tattlelaw18_LeadMet.l0, if_pos (by omega), lnew_eq n h1 h2, Option.bind_some]
    simp only [if_true]
    rw [← got_zero n tw (a : Int) asked]
    refine met_l1 tw asked hto n hn h1 h2 ha (hol : Int) a (some true) (m * 200 + 200) (fun k hk => ?_) n 0 F (Nat.zero_add _) (by omega)
    have ew : wrap64 ((a : Int) + 1) = ((a + 1 : Nat) : Int) := w64_id _ y.1 y.2
    rw [ew]
    by_cases hth : thr (got n tw (a : Int) asked n) (maj n) < 0
    · rw [if_pos hth]
      refine met_l0 tw asked hto n hn h1 h2 ha m (a + 1) (by omega) hol ?_ k (by omega)
      rcases hh with hh | ⟨hh, b, hb, hc⟩
      · exact .inl hh
      · exact .inr ⟨hh, b, by omega, hc⟩
    · rw [if_neg hth]
      have hc := got_holds h1 hth
      rcases hh with rfl | ⟨_, b, hb, hcb⟩
      · rw [show wrap64 (((0 : Nat) : Int) + 1) = ((1 : Nat) : Int) from w64_id _ (by omega) (by omega)]
        exact met_l0 tw asked hto n hn h1 h2 ha m (a + 1) (by omega) 1 (.inr ⟨rfl, a, by omega, hc⟩) k (by omega)
      · exfalso
        have := cnt_two n tw (a : Int) (b : Int) (by omega)
        unfold maj at hc hcb
        omega
theorem LeadMet : tattlelaw18_LeadMet.Pure := by
  intro tw asked hto _
  obtain ⟨_, _, hto⟩ := hto
  have hto2 : ∀ x ∈ tw, 0 ≤ x ∧ x ≤ 255 := fun x hx => u8_wf (hto x hx)
  obtain ⟨K, hK⟩ : ∃ K, 20000 ≤ K := ⟨20000, Nat.le_refl _⟩
  refine ⟨K + 1, ?_⟩
  have hbad : tattlelaw18_LeadMet.j0 (K + 1) tw asked (tw.length : Int) true = some true := by
    rw [tattlelaw18_LeadMet.j0, if_pos rfl]
    rfl
  unfold tattlelaw18_LeadMet.f
  by_cases h1 : (tw.length : Int) < 1
  · rw [if_pos h1, hbad]
  rw [if_neg h1]
  by_cases h2 : (tw.length : Int) > 64
  · rw [if_pos h2, hbad]
  rw [if_neg h2]
  by_cases h3 : asked < 0
  · rw [if_pos h3, hbad]
  rw [if_neg h3]
  by_cases h4 : asked > 1099511627776
  · rw [decide_eq_true h4, hbad]
  rw [decide_eq_false h4, tattlelaw18_LeadMet.j0, if_neg (by decide)]
  exact met_l0 tw asked hto2 tw.length rfl (by omega) (by omega) ⟨by omega, by omega⟩ tw.length 0 (Nat.zero_add _) 0 (.inl rfl) K (by omega)
end Go.Proofs.Ytgfblogneggpmaa.Pure
