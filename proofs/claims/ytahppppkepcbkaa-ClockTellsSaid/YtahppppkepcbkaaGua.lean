/- What clock.Guard comes to: plain facts on numbers. -/
import Derived.Test.YtahppppkepcbkaaFnx2
import Derived.Test.YtahppppkepcbkaaFnx5
import Derived.Test.YtahppppkepcbkaaExGuard
namespace Go.Proofs.Ytahppppkepcbkaa.Gua
open Go.RowKit Go.Proofs.Ytahppppkepcbkaa.Fn Go.Proofs.YtahppppkepcbkaaW.PrintWords Go.Proofs.YtahppppkepcbkaaW.PrintMore
theorem i64_wf {x : Int} (h : (Lit.int .i64 x).wf = true) : -9223372036854775808 ≤ x ∧ x ≤ 9223372036854775807 := by
  simp [Lit.wf, IntKind.min, IntKind.max, IntKind.bits, IntKind.signed] at h
  omega
theorem u16_wf {x : Int} (h : (Lit.int .u16 x).wf = true) : 0 ≤ x ∧ x ≤ 65535 := by
  simp [Lit.wf, IntKind.min, IntKind.max, IntKind.bits, IntKind.signed] at h
  omega
theorem u8_wf {x : Int} (h : (Lit.int .u8 x).wf = true) : 0 ≤ x ∧ x ≤ 255 := by
  simp [Lit.wf, IntKind.min, IntKind.max, IntKind.bits, IntKind.signed] at h
  omega
theorem w64_id (x : Int) (h0 : -9223372036854775808 ≤ x) (h : x ≤ 9223372036854775807) : wrap64 x = x := by
  unfold wrap64
  omega
/-- May d and r be? -/
def bnd (d r : Int) : Prop := 0 ≤ d ∧ d ≤ 1099511627776 ∧ 1 ≤ r ∧ r ≤ 1099511627776
instance (d r : Int) : Decidable (bnd d r) := inferInstanceAs (Decidable (_ ∧ _))
theorem rbound_eq (d r : Int) : tattleref04_Bound.f d r = some (decide (bnd d r)) := by
  unfold tattleref04_Bound.f bnd
  by_cases h1 : 0 ≤ d <;> by_cases h2 : d ≤ 1099511627776 <;> by_cases h3 : 1 ≤ r <;> simp [h1, h2, h3]
theorem bound_eq (d r : Int) : clock_bound.f d r = some (decide (bnd d r)) := by
  unfold clock_bound.f bnd
  by_cases h1 : 0 ≤ d <;> by_cases h2 : d ≤ 1099511627776 <;> by_cases h3 : 1 ≤ r <;> simp [h1, h2, h3]
/-- A term's guard. -/
def gua (t d r : Int) : Nat := first (many t d r) (t.toNat + 1) 0
def tok (t : Int) : Prop := 0 ≤ t ∧ t ≤ 1099511627776
instance (t : Int) : Decidable (tok t) := inferInstanceAs (Decidable (_ ∧ _))
theorem guard_eq (t d r : Int) : clock_Guard.f t d r = some (if tok t ∧ bnd d r then ((gua t d r : Nat) : Int) else 0, if tok t ∧ bnd d r then 0 else 1) := by
  unfold clock_Guard.f gua
  by_cases h : tok t ∧ bnd d r
  · rw [if_pos h, if_pos h, if_pos ⟨h.1.1, h.1.2, h.2.1, h.2.2.1, h.2.2.2.1, h.2.2.2.2⟩]
  · rw [if_neg h, if_neg h, if_neg (fun q => h ⟨⟨q.1, q.2.1⟩, q.2.2.1, q.2.2.2.1, q.2.2.2.2.1, q.2.2.2.2.2⟩)]
theorem many_iff {t d r : Int} {x : Nat} : many t d r x = true ↔ t ≤ (x : Int) + d + (x : Int) / r := by
  unfold many
  rw [decide_eq_true_eq, Int.tdiv_eq_ediv_of_nonneg (by omega)]
theorem many_not {t d r : Int} {x : Nat} : many t d r x = false ↔ (x : Int) + d + (x : Int) / r < t := by
  have := many_iff (t := t) (d := d) (r := r) (x := x)
  cases h : many t d r x with
  | true => simp only [h, true_iff] at this; simp; omega
  | false => simp only [h, false_iff, Bool.false_eq_true] at this; simp; omega
theorem gua_spec {t d r : Int} (ht : tok t) (hb : bnd d r) : ((gua t d r : Nat) : Int) ≤ t ∧ many t d r (gua t d r) = true ∧ ∀ x, x < gua t d r → many t d r x = false := by
  obtain ⟨_, h2, h3, h4⟩ := first_spec (many t d r) (t.toNat + 1) 0
  obtain ⟨ht0, ht1⟩ := ht
  have hm : many t d r t.toNat = true := by
    rw [many_iff, Int.toNat_of_nonneg ht0]
    have := Int.ediv_nonneg ht0 (show 0 ≤ r by have := hb.2.2.1; omega)
    have := hb.1
    omega
  have hle : gua t d r ≤ t.toNat := by
    by_cases h : gua t d r ≤ t.toNat
    · exact h
    · have := h3 t.toNat (Nat.zero_le _) (by unfold gua at h; omega)
      rw [this] at hm
      cases hm
  refine ⟨by omega, ?_, fun x hx => h3 x (Nat.zero_le _) hx⟩
  rcases h4 with h4 | h4
  · unfold gua at hle
    omega
  · exact h4
theorem gua_le {t d r : Int} {x : Nat} (ht : tok t) (hb : bnd d r) (hx : many t d r x = true) : gua t d r ≤ x := by
  by_cases h : gua t d r ≤ x
  · exact h
  · have := (gua_spec ht hb).2.2 x (by omega)
    rw [this] at hx
    cases hx
theorem many_term {t t' d r : Int} {x : Nat} (h : t ≤ t') (hx : many t' d r x = true) : many t d r x = true := by
  rw [many_iff] at *
  omega
theorem many_d {t d d' r : Int} {x : Nat} (h : d ≤ d') (hx : many t d r x = true) : many t d' r x = true := by
  rw [many_iff] at *
  omega
theorem many_r {t d r r' : Int} {x : Nat} (hr : 1 ≤ r) (h : r ≤ r') (hx : many t d r' x = true) : many t d r x = true := by
  rw [many_iff] at *
  have h1 : (x : Int) / r' ≤ (x : Int) / r := by
    rw [Int.le_ediv_iff_mul_le (by omega)]
    have h2 : (x : Int) / r' * r ≤ (x : Int) / r' * r' := Int.mul_le_mul_of_nonneg_left h (Int.ediv_nonneg (by omega) (by omega))
    have h3 : (x : Int) / r' * r' ≤ (x : Int) := Int.ediv_mul_le _ (by omega)
    omega
  omega
theorem gua_zero {t : Int} (ht : tok t) (h1 : t + 1 ≤ 1099511627776) : ((gua t 0 (t + 1) : Nat) : Int) = t := by
  have hb : bnd 0 (t + 1) := ⟨by omega, by omega, by have := ht.1; omega, h1⟩
  obtain ⟨g1, g2, g3⟩ := gua_spec ht hb
  rw [many_iff, Int.ediv_eq_zero_of_lt (by omega) (by omega)] at g2
  omega
theorem fits_eq {t d r : Int} (hb : bnd d r) (x : Nat) (hx : (x : Int) ≤ 1099511627777) : tattleref04_Fits.f (x : Int) t d r = some (decide (x = 0 ∨ many t d r (x - 1) = false)) := by
  obtain ⟨b1, b2, b3, b4⟩ := hb
  cases x with
  | zero => simp [tattleref04_Fits.f]
  | succ x =>
    have hq0 : 0 ≤ (x : Int) / r := Int.ediv_nonneg (by omega) (by omega)
    have hq1 : (x : Int) / r ≤ (x : Int) := Int.ediv_le_self _ (by omega)
    have e3 : Int.tdiv (x : Int) r = (x : Int) / r := Int.tdiv_eq_ediv_of_nonneg (by omega)
    unfold tattleref04_Fits.f
    rw [if_neg (by omega), if_neg (by omega), show ((x + 1 : Nat) : Int) - 1 = (x : Int) by omega, w64_id (x : Int) (by omega) (by omega), e3]
    have e : (x + 1 = 0 ∨ many t d r (x + 1 - 1) = false) ↔ (x : Int) + d + (x : Int) / r < t := by
      rw [Nat.add_sub_cancel, many_not]
      exact ⟨fun h => by rcases h with h | h; omega; exact h, fun h => .inr h⟩
    rw [decide_eq_decide.2 e]
    have c1 : -9223372036854775808 ≤ (x : Int) + d ∧ (x : Int) + d ≤ 9223372036854775807 := by omega
    have c2 : -9223372036854775808 ≤ (x : Int) / r ∧ (x : Int) / r ≤ 9223372036854775807 := by omega
    have c3 : -9223372036854775808 ≤ (x : Int) + d + (x : Int) / r ∧ (x : Int) + d + (x : Int) / r ≤ 9223372036854775807 := by omega
    rw [w64_id _ c1.1 c1.2, w64_id _ c2.1 c2.2, w64_id _ c3.1 c3.2]
end Go.Proofs.Ytahppppkepcbkaa.Gua
