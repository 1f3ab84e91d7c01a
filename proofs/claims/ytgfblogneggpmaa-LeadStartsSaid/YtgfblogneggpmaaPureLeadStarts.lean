/- LeadStarts, over numbers and lists alone: the printed function answers true at every input. -/
import Derived.Test.YtgfblogneggpmaaAw24
import Derived.Test.YtgfblogneggpmaaFnx27
import Derived.Test.YtgfblogneggpmaaFnx31
import Derived.Test.YtgfblogneggpmaaFnx33
import Derived.Test.YtgfblogneggpmaaSayLeadStarts
import Derived.Test.YtgfblogneggpmaaLead
namespace Go.Proofs.Ytgfblogneggpmaa.Pure
open Go.RowKit Go.Proofs.Ytgfblogneggpmaa.Fn Go.Proofs.YtgfblogneggpmaaW.PrintWords Go.Proofs.YtgfblogneggpmaaW.PrintMore Go.Proofs.Ytgfblogneggpmaa.Vote Go.Proofs.Ytgfblogneggpmaa.Thr

theorem starts_l0 (K : Nat) (hK : 1000100 ≤ K) (t d r e a5 a6 a now ep : Int) (l0 : List Int) (n : Nat) (h1 : 1 ≤ n) (h2 : n ≤ 64) (ha : 0 ≤ a ∧ a ≤ 1099511627776) :
    ∀ (m i F : Nat), i + m = n → K + m + 1 ≤ F → tattlelaw18_LeadStarts.l0 F ep (i : Int) t d r e l0 a5 a6 a now ep (firsts n i a) = some true
  | 0, i, F, hi, hF => by
    obtain ⟨F, rfl⟩ : ∃ q, F = q + 1 := ⟨F - 1, by omega⟩
    obtain rfl : i = n := by omega
    have hok := firsts_ok (k := i) (a := a) h1 h2 (by omega) ha
    have hlen := firsts_length (n := i) (k := i) a (Nat.le_refl _)
    have hu := until_eq t d r ep (firsts i i a)
    rw [hlen] at hu
    have hth := firsts_thr (n := i) (k := i) (a := a) h1 (Nat.le_refl _) ha.1
    rw [if_pos (by unfold maj; omega)] at hth
    rw [hth] at hu
    obtain ⟨F', rfl⟩ : ∃ q, F = q + 2 := ⟨F - 2, by omega⟩
    have hRH := rhold_eq F' (by omega) t d r
    have haw : tattlelaw18_awakeT.f = some true := rfl
    rw [tattlelaw18_LeadStarts.l0, if_neg (by omega)]
    by_cases hm : mayt t d r
    · have hh := hold_le (t := t) (d := d) (r := r) (by have := hm.1; omega) hm.2.2.1 hm.2.2.2.2.1
      have ht := hm.2.1
      have hh1 := hm.2.2.2.2.2.2
      rw [if_pos ⟨hm, hok⟩, if_neg (show ¬a < 0 by omega)] at hu
      rw [if_pos hm] at hRH
      generalize hold t d r = h at *
      have e4 : wrap64 (a + (h : Int)) = a + (h : Int) := w64_id _ (by omega) (by omega)
      have hval : ∀ z, lead_Valid.f t d r ep (firsts i i a) z = some (decide (z < a + (h : Int))) := by
        intro z
        unfold lead_Valid.f
        rw [hu, Option.bind_some]
        simp only [if_true]
      rw [hu, Option.bind_some, hRH, Option.bind_some, if_neg (show ¬(h : Int) = 0 by omega)]
      simp only [if_true]
      rw [Option.bind_some, e4, if_pos rfl, hval, Option.bind_some, decide_eq_true (by omega), if_pos rfl, hval, Option.bind_some, decide_eq_false (by omega), if_neg (by decide), haw]
      rfl
    · rw [if_neg (c := mayt t d r ∧ leadok (firsts i i a) = true) (fun q => hm q.1)] at hu
      rw [if_neg hm] at hRH
      rw [hu, Option.bind_some, hRH, Option.bind_some]
      simp only [if_true]
      rw [if_neg (by decide), haw]
      rfl
  | m + 1, i, F, hi, hF => by
    obtain ⟨F, rfl⟩ : ∃ q, F = q + 1 := ⟨F - 1, by omega⟩
    have hok := firsts_ok (k := i) (a := a) h1 h2 (by omega) ha
    have hlen := firsts_length (n := n) (k := i) a (by omega)
    have ih := starts_l0 K hK t d r e a5 a6 a now ep l0 n h1 h2 ha m (i + 1) F (by omega) (by omega)
    have y : -9223372036854775808 ≤ (i : Int) + 1 ∧ (i : Int) + 1 ≤ 9223372036854775807 := by omega
    rw [tattlelaw18_LeadStarts.l0, if_pos (by omega), granted_eq F (by omega), if_pos ⟨hok, by omega, by omega, ha⟩, if_pos rfl, Option.bind_some, Int.toNat_natCast, firsts_gra (by omega) ha.1]
    simp only [if_true]
    rw [w64_id _ y.1 y.2]
    exact ih
theorem starts_j0 (K : Nat) (hK : 1000100 ≤ K) (t d r e v a6 a now ep : Int) (l0 l : List Int) (hok : leadok l = true) (ha : 0 ≤ a ∧ a ≤ 1099511627776) (hep : ¬ep ≤ e) :
    tattlelaw18_LeadStarts.j0 (K + 100 + 3) ep false t d r e l0 v a6 a now e l = some true := by
  have hlen := leadok_len hok
  have hst : lead_Start.f e l ep = some (ep, List.replicate l.length (-1), 0) := by
    unfold lead_Start.f lead_Check.f
    rw [hok, if_pos rfl, Option.bind_some, if_pos rfl, if_neg hep, lnew_eq _ hlen.1 hlen.2, Option.bind_some]
  have hok0 := firsts_ok (k := 0) (a := a) hlen.1 hlen.2 (Nat.zero_le _) ha
  have hl0 := firsts_length (n := l.length) (k := 0) a (Nat.zero_le _)
  have hth := firsts_thr (n := l.length) (k := 0) (a := a) hlen.1 (Nat.zero_le _) ha.1
  rw [if_neg (by unfold maj; omega)] at hth
  have hval : lead_Valid.f t d r ep (firsts l.length 0 a) 0 = some false := by
    unfold lead_Valid.f
    rw [until_eq, hl0, Option.bind_some]
    by_cases hm : mayt t d r
    · rw [if_pos (c := mayt t d r ∧ leadok (firsts l.length 0 a) = true) ⟨hm, hok0⟩, if_pos hth]
      rfl
    · rw [if_neg (c := mayt t d r ∧ leadok (firsts l.length 0 a) = true) (fun q => hm q.1)]
      rfl
  rw [tattlelaw18_LeadStarts.j0, if_neg (by decide), hst, Option.bind_some, ← firsts_zero l.length a]
  simp only [if_true]
  rw [if_pos (by rw [hl0]), hval, Option.bind_some, tattlelaw18_LeadStarts.j1, if_neg (by decide), granted_eq _ (by omega), if_pos ⟨hok0, by omega, by omega, ha⟩, if_neg (by omega), Option.bind_some]
  simp only [if_true]
  rw [same18_refl _ _ _ (by omega) (by omega), Option.bind_some, tattlelaw18_LeadStarts.j2, if_neg (by decide)]
  exact starts_l0 K hK t d r e v a6 a now ep l0 l.length hlen.1 hlen.2 ha l.length 0 (K + 100) (Nat.zero_add _) (by omega)
theorem LeadStarts : tattlelaw18_LeadStarts.Pure := by
  intro t d r e l0 v a6 a now more _ _ _ _ _ _ _ _ _ _
  obtain ⟨l, hl, hll⟩ := few18_eq e l0
  obtain ⟨K, hK⟩ : ∃ K, 1000200 ≤ K := ⟨1000200, Nat.le_refl _⟩
  refine ⟨K + 100 + 3, ?_⟩
  unfold tattlelaw18_LeadStarts.f
  rw [hl, Option.bind_some]
  simp only
  generalize IntKind.u64.wrap (IntKind.u64.wrap (e + 1) + IntKind.u64.wrap more) = ep
  have hbad : tattlelaw18_LeadStarts.j0 (K + 100 + 3) ep true t d r e l0 v a6 a now e l = some true := by
    rw [tattlelaw18_LeadStarts.j0, if_pos rfl]
    rfl
  by_cases h1 : ep ≤ e
  · rw [if_pos h1, hbad]
  rw [if_neg h1]
  unfold lead_Check.f
  rw [Option.bind_some]
  cases hok : leadok l with
  | false => rw [if_neg (c := (false : Bool) = true) (by decide), if_neg (by decide), hbad]
  | true =>
    have hlen := leadok_len hok
    rw [if_pos (c := (true : Bool) = true) rfl, if_pos rfl, if_neg (by omega)]
    by_cases h2 : a < 0
    · rw [if_pos h2, hbad]
    rw [if_neg h2]
    by_cases h3 : a > 1099511627776
    · rw [decide_eq_true h3, hbad]
    · rw [decide_eq_false h3]
      exact starts_j0 K (by omega) t d r e v a6 a now ep l0 l hok ⟨by omega, by omega⟩ h1
end Go.Proofs.Ytgfblogneggpmaa.Pure
