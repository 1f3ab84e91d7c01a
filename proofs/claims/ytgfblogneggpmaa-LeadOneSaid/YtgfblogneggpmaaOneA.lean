/- What the functions of packages clock and vote come to: plain facts on numbers. -/
import Derived.Test.YtgfblogneggpmaaFnx4
import Derived.Test.YtgfblogneggpmaaFnx5
import Derived.Test.YtgfblogneggpmaaFnx0
import Derived.Test.YtgfblogneggpmaaExGuard
import Derived.Test.YtgfblogneggpmaaExAsk
import Derived.Test.YtgfblogneggpmaaFnx2
import Derived.Test.YtgfblogneggpmaaFnx3
import Derived.Test.YtgfblogneggpmaaFnx15
import Derived.Test.YtgfblogneggpmaaFnx16
import Derived.Test.YtgfblogneggpmaaFnx17
import Derived.Test.YtgfblogneggpmaaFnx32
import Derived.Test.YtgfblogneggpmaaExUntil
import Derived.Test.YtgfblogneggpmaaExNew
import Derived.Test.YtgfblogneggpmaaFnxNear
import Derived.Test.YtgfblogneggpmaaHand
import Derived.BigRegion
import Derived.Deep.LoopGhost
import Derived.Deep.RegionHeld3
import Derived.Deep.RegionLaw
import Derived.Deep.RegionWith
import Derived.Laws.MakeOwn
import Derived.OwnWalk
import Derived.Handy
namespace Go.Proofs.Ytgfblogneggpmaa.Vote
open Go.RowKit Go.Proofs.Ytgfblogneggpmaa.Fn Go.Proofs.YtgfblogneggpmaaW.PrintWords Go.Proofs.YtgfblogneggpmaaW.PrintMore

theorem i64_wf {x : Int} (h : (Lit.int .i64 x).wf = true) : -9223372036854775808 ≤ x ∧ x ≤ 9223372036854775807 := by
  simp [Lit.wf, IntKind.min, IntKind.max, IntKind.bits, IntKind.signed] at h
  omega
theorem u64_wf {x : Int} (h : (Lit.int .u64 x).wf = true) : 0 ≤ x ∧ x ≤ 18446744073709551615 := by
  simp [Lit.wf, IntKind.min, IntKind.max, IntKind.bits, IntKind.signed] at h
  omega
theorem u16_wf {x : Int} (h : (Lit.int .u16 x).wf = true) : 0 ≤ x ∧ x ≤ 65535 := by
  simp [Lit.wf, IntKind.min, IntKind.max, IntKind.bits, IntKind.signed] at h
  omega
theorem u8_wf {x : Int} (h : (Lit.int .u8 x).wf = true) : 0 ≤ x ∧ x ≤ 255 := by
  simp [Lit.wf, IntKind.min, IntKind.max, IntKind.bits, IntKind.signed] at h
  omega
theorem w64_id (x : Int) (h0 : -9223372036854775808 ≤ x) (h : x ≤ 9223372036854775807) : wrap64 x = x := by
  unfold wrap64
  omega
/-- A term's guard. -/
def hold (t d r : Int) : Nat := first (many t d r) (t.toNat + 1) 0
theorem hold_false {t d r : Int} {x : Nat} (h : x < hold t d r) : many t d r x = false := (first_spec (many t d r) (t.toNat + 1) 0).2.2.1 x (Nat.zero_le _) h
theorem many_term {t d r : Int} (h0 : 0 ≤ t) (hd : 0 ≤ d) (hr : 1 ≤ r) : many t d r t.toNat = true := by
  unfold many
  rw [decide_eq_true_eq, Int.tdiv_eq_ediv_of_nonneg (by omega)]
  have := Int.ediv_nonneg (show 0 ≤ ((t.toNat : Nat) : Int) by omega) (show 0 ≤ r by omega)
  omega
theorem hold_le {t d r : Int} (h0 : 0 ≤ t) (hd : 0 ≤ d) (hr : 1 ≤ r) : hold t d r ≤ t.toNat := by
  by_cases h : hold t d r ≤ t.toNat
  · exact h
  · have := hold_false (show t.toNat < hold t d r by omega)
    rw [many_term h0 hd hr] at this
    cases this
theorem hold_true {t d r : Int} (h0 : 0 ≤ t) (hd : 0 ≤ d) (hr : 1 ≤ r) : many t d r (hold t d r) = true := by
  rcases (first_spec (many t d r) (t.toNat + 1) 0).2.2.2 with h | h
  · have := hold_le h0 hd hr
    unfold hold at this
    omega
  · exact h
theorem hold_more {t t' d r : Int} (h0 : 0 ≤ t) (h : t ≤ t') (hd : 0 ≤ d) (hr : 1 ≤ r) : hold t d r ≤ hold t' d r := by
  by_cases hh : hold t d r ≤ hold t' d r
  · exact hh
  · have h1 := hold_false (show hold t' d r < hold t d r by omega)
    have h2 := hold_true (t := t') (by omega) hd hr
    unfold many at h1 h2
    rw [decide_eq_true_eq] at h2
    rw [decide_eq_false_iff_not] at h1
    omega
theorem hold_less {t d d' r : Int} (h0 : 0 ≤ t) (hd : 0 ≤ d) (h : d ≤ d') (hr : 1 ≤ r) : hold t d' r ≤ hold t d r := by
  by_cases hh : hold t d' r ≤ hold t d r
  · exact hh
  · have h1 := hold_false (show hold t d r < hold t d' r by omega)
    have h2 := hold_true h0 hd hr
    unfold many at h1 h2
    rw [decide_eq_true_eq] at h2
    rw [decide_eq_false_iff_not] at h1
    omega
/-- May terms be? -/
def mayt (t d r : Int) : Prop := 1 ≤ t ∧ t ≤ 1000000 ∧ 0 ≤ d ∧ d ≤ 1099511627776 ∧ 1 ≤ r ∧ r ≤ 1099511627776 ∧ 1 ≤ hold t d r
instance (t d r : Int) : Decidable (mayt t d r) := inferInstanceAs (Decidable (_ ∧ _))
/-- May a vote be? -/
def mayv (b c d : Int) : Prop := (b = -1 ∨ (0 ≤ b ∧ b < 64)) ∧ 0 ≤ c ∧ 0 ≤ d ∧ c ≤ 2199023255552 ∧ d ≤ 2199023255552
instance (b c d : Int) : Decidable (mayv b c d) := inferInstanceAs (Decidable (_ ∧ _))
theorem hold_eq (t d r : Int) : vote_Hold.f t d r = some (if mayt t d r then ((hold t d r : Int), 0) else (0, 1)) := by
  unfold vote_Hold.f clock_Guard.f
  by_cases hg : 0 ≤ t ∧ t ≤ 1099511627776 ∧ 0 ≤ d ∧ d ≤ 1099511627776 ∧ 1 ≤ r ∧ r ≤ 1099511627776
  · rw [if_pos hg, Option.bind_some, if_pos rfl]
    show (if t < 1 then some (0, 1) else if t > 1000000 then some (0, 1) else if ((hold t d r : Nat) : Int) < 1 then some (0, 1) else some (((hold t d r : Nat) : Int), 0)) = _
    by_cases h1 : t < 1
    · rw [if_pos h1, if_neg (c := mayt t d r) (fun h => by have := h.1; omega)]
    · by_cases h2 : t > 1000000
      · rw [if_neg h1, if_pos h2, if_neg (c := mayt t d r) (fun h => by have := h.2.1; omega)]
      · by_cases h3 : ((hold t d r : Nat) : Int) < 1
        · rw [if_neg h1, if_neg h2, if_pos h3, if_neg (c := mayt t d r) (fun h => by have := h.2.2.2.2.2.2; omega)]
        · rw [if_neg h1, if_neg h2, if_neg h3, if_pos (c := mayt t d r) ⟨by omega, by omega, hg.2.2.1, hg.2.2.2.1, hg.2.2.2.2.1, hg.2.2.2.2.2, by omega⟩]
  · rw [if_neg hg, if_neg (c := mayt t d r) (fun h => hg ⟨by have := h.1; omega, by have := h.2.1; omega, h.2.2.1, h.2.2.2.1, h.2.2.2.2.1, h.2.2.2.2.2.1⟩)]
    rfl
theorem may_eq (t d r : Int) : vote_May.f t d r = some (if mayt t d r then 0 else 1) := by
  unfold vote_May.f
  rw [hold_eq]
  by_cases h : mayt t d r
  · rw [if_pos h, if_pos h]; rfl
  · rw [if_neg h, if_neg h]; rfl
theorem node_eq (a : Int) : vote_node.f a = some (decide (0 ≤ a ∧ a < 64)) := by
  unfold vote_node.f
  by_cases h : 0 ≤ a <;> simp [h]
theorem moment_eq (a : Int) : vote_moment.f a = some (decide (0 ≤ a ∧ a ≤ 1099511627776)) := by
  unfold vote_moment.f
  by_cases h : 0 ≤ a <;> simp [h]
theorem check_eq (a b c d : Int) : vote_Check.f a b c d = some (if mayv b c d then 0 else 1) := by
  have hmn : mn c d < 0 ↔ ¬(0 ≤ c ∧ 0 ≤ d) := by unfold mn; split <;> omega
  have hmx : mx c d > 2199023255552 ↔ ¬(c ≤ 2199023255552 ∧ d ≤ 2199023255552) := by unfold mx; split <;> omega
  have key : ∀ (P : Prop), P → (∀ q : Prop, (q ↔ (b = -1 ∨ (0 ≤ b ∧ b < 64))) → P → q) → True := fun _ _ _ => trivial
  have tail : (b = -1 ∨ (0 ≤ b ∧ b < 64)) → (if mn c d < 0 then some (1 : Int) else if mx c d > 2199023255552 then some 1 else some 0) = some (if mayv b c d then 0 else 1) := by
    intro hb
    by_cases h1 : mn c d < 0
    · rw [if_pos h1, if_neg (c := mayv b c d) (fun h => hmn.1 h1 ⟨h.2.1, h.2.2.1⟩)]
    · rw [if_neg h1]
      by_cases h2 : mx c d > 2199023255552
      · rw [if_pos h2, if_neg (c := mayv b c d) (fun h => hmx.1 h2 ⟨h.2.2.2.1, h.2.2.2.2⟩)]
      · have e1 : 0 ≤ c ∧ 0 ≤ d := Decidable.not_not.1 (fun h => h1 (hmn.2 h))
        have e2 : c ≤ 2199023255552 ∧ d ≤ 2199023255552 := Decidable.not_not.1 (fun h => h2 (hmx.2 h))
        rw [if_neg h2, if_pos (c := mayv b c d) ⟨hb, e1.1, e1.2, e2.1, e2.2⟩]
  unfold vote_Check.f
  by_cases hb : b = -1
  · rw [if_pos hb]
    exact tail (.inl hb)
  · rw [if_neg hb, node_eq, Option.bind_some]
    by_cases hn : 0 ≤ b ∧ b < 64
    · rw [if_pos (by simpa using hn)]
      exact tail (.inr hn)
    · rw [if_neg (by simpa using hn), if_neg (c := mayv b c d) (fun h => by have := h.1; omega)]
/-- Is it barred? -/
def bars (E who until_ wait from_ epoch now : Int) : Bool := bar0 wait now || bar1 E epoch || bar2 E who from_ epoch || bar3 who until_ from_ now
/-- May it be asked? -/
def maya (t d r who until_ wait from_ now : Int) : Prop := mayt t d r ∧ mayv who until_ wait ∧ (0 ≤ from_ ∧ from_ < 64) ∧ 0 ≤ now ∧ now ≤ 1099511627776
instance (t d r who until_ wait from_ now : Int) : Decidable (maya t d r who until_ wait from_ now) := inferInstanceAs (Decidable (_ ∧ _))
theorem ask_ok {t d r E who until_ wait from_ epoch now : Int} (h : maya t d r who until_ wait from_ now) :
    vote_Ask.f t d r E who until_ wait from_ epoch now = if bars E who until_ wait from_ epoch now = true then some (E, who, until_, wait, false, 0) else some (epoch, from_, wrap64 (now + t), wait, true, 0) := by
  unfold vote_Ask.f
  rw [may_eq, if_pos h.1, Option.bind_some, if_pos rfl, check_eq, if_pos h.2.1, Option.bind_some, if_pos rfl, node_eq, Option.bind_some, if_pos (by simpa using h.2.2.1), moment_eq, Option.bind_some, if_pos (by simpa using h.2.2.2)]
  rfl
theorem ask_no {t d r E who until_ wait from_ epoch now : Int} (h : ¬maya t d r who until_ wait from_ now) :
    vote_Ask.f t d r E who until_ wait from_ epoch now = some (E, who, until_, wait, false, 1) := by
  unfold vote_Ask.f
  rw [may_eq]
  by_cases h1 : mayt t d r
  · rw [if_pos h1, Option.bind_some, if_pos rfl, check_eq]
    by_cases h2 : mayv who until_ wait
    · rw [if_pos h2, Option.bind_some, if_pos rfl, node_eq, Option.bind_some]
      by_cases h3 : 0 ≤ from_ ∧ from_ < 64
      · rw [if_pos (by simpa using h3), moment_eq, Option.bind_some, if_neg (fun q => h ⟨h1, h2, h3, by simpa using q⟩)]
      · rw [if_neg (by simpa using h3)]
    · rw [if_neg h2, Option.bind_some, if_neg (by decide)]
  · rw [if_neg h1, Option.bind_some, if_neg (by decide)]
end Go.Proofs.Ytgfblogneggpmaa.Vote
namespace Go.Proofs.Ytgfblogneggpmaa.Vote
open Go.RowKit Go.Proofs.Ytgfblogneggpmaa.Fn Go.Proofs.YtgfblogneggpmaaW.PrintWords Go.Proofs.YtgfblogneggpmaaW.PrintMore

theorem bound_eq (d r : Int) : tattleref04_Bound.f d r = some (decide (0 ≤ d ∧ d ≤ 1099511627776 ∧ 1 ≤ r ∧ r ≤ 1099511627776)) := by
  unfold tattleref04_Bound.f
  by_cases h1 : 0 ≤ d <;> by_cases h2 : d ≤ 1099511627776 <;> by_cases h3 : 1 ≤ r <;> simp [h1, h2, h3]
theorem fits_d {g t d r : Int} (h0 : 1 ≤ g) (h1 : g ≤ 1000000) (hd : 0 ≤ d ∧ d ≤ 1099511627776) (hr : 1 ≤ r) : ∃ b, tattleref04_Fits.f g t d r = some b ∧ (b = true → d < t) := by
  have hq0 : 0 ≤ (g - 1) / r := Int.ediv_nonneg (by omega) (by omega)
  have hq1 : (g - 1) / r ≤ g - 1 := Int.ediv_le_self _ (by omega)
  have e3 : Int.tdiv (g - 1) r = (g - 1) / r := Int.tdiv_eq_ediv_of_nonneg (by omega)
  have hg : ¬g = 0 := by omega
  have hr0 : ¬r = 0 := by omega
  unfold tattleref04_Fits.f
  rw [if_neg hg, if_neg hr0]
  generalize hq : (g - 1) / r = q at hq0 hq1 e3
  clear hq
  have b1 : -9223372036854775808 ≤ g - 1 ∧ g - 1 ≤ 9223372036854775807 := by omega
  have b2 : -9223372036854775808 ≤ g - 1 + d ∧ g - 1 + d ≤ 9223372036854775807 := by omega
  have b4 : -9223372036854775808 ≤ q ∧ q ≤ 9223372036854775807 := by omega
  have b5 : -9223372036854775808 ≤ g - 1 + d + q ∧ g - 1 + d + q ≤ 9223372036854775807 := by omega
  rw [w64_id _ b1.1 b1.2, w64_id _ b2.1 b2.2, e3, w64_id _ b4.1 b4.2, w64_id _ b5.1 b5.2]
  refine ⟨_, rfl, fun h => ?_⟩
  rw [decide_eq_true_eq] at h
  clear e3
  omega
theorem ref_l0 (t d r : Int) (ht : t ≤ 1000000) (hd : 0 ≤ d ∧ d ≤ 1099511627776) (hr : 1 ≤ r) : ∀ (n lo hi : Nat), hi - lo ≤ n → lo ≤ hi → (hi : Int) ≤ t → (lo = 0 ∨ d < t) →
    ∃ g, tattleref17_Hold.l0 (n + 1) (lo : Int) (hi : Int) t d r = some g ∧ (g = 0 ∨ d < t)
  | 0, lo, hi, hn, hl, hh, hg => by
    rw [tattleref17_Hold.l0, if_neg (by omega)]
    refine ⟨_, rfl, ?_⟩
    rcases hg with hg | hg
    · exact .inl (by omega)
    · exact .inr hg
  | n + 1, lo, hi, hn, hl, hh, hg => by
    rw [tattleref17_Hold.l0]
    by_cases h : (lo : Int) < (hi : Int)
    · have c1 : hi - (lo + hi + 1) / 2 ≤ n := by omega
      have c2 : (lo + hi + 1) / 2 ≤ hi := by omega
      have c3 : (lo + hi + 1) / 2 - 1 - lo ≤ n := by omega
      have c4 : lo ≤ (lo + hi + 1) / 2 - 1 := by omega
      have c5 : (((lo + hi + 1) / 2 - 1 : Nat) : Int) ≤ t := by omega
      have c6 : (1 : Int) ≤ (((lo + hi + 1) / 2 : Nat) : Int) := by omega
      have c7 : (((lo + hi + 1) / 2 : Nat) : Int) ≤ 1000000 := by omega
      have m3 : ((lo : Int) + (hi : Int) + 1) / 2 = (((lo + hi + 1) / 2 : Nat) : Int) := by omega
      have m5 : (((lo + hi + 1) / 2 : Nat) : Int) - 1 = (((lo + hi + 1) / 2 - 1 : Nat) : Int) := by omega
      have b1 : -9223372036854775808 ≤ (lo : Int) + (hi : Int) ∧ (lo : Int) + (hi : Int) ≤ 9223372036854775807 := by omega
      have b2 : -9223372036854775808 ≤ (lo : Int) + (hi : Int) + 1 ∧ (lo : Int) + (hi : Int) + 1 ≤ 9223372036854775807 := by omega
      have b3 : 0 ≤ (lo : Int) + (hi : Int) + 1 := by omega
      obtain ⟨b, hb, hbt⟩ := fits_d (g := (((lo + hi + 1) / 2 : Nat) : Int)) (t := t) (d := d) (r := r) c6 c7 hd hr
      generalize hM : (lo + hi + 1) / 2 = M at *
      have b4 : -9223372036854775808 ≤ (M : Int) ∧ (M : Int) ≤ 9223372036854775807 := by clear hb m3; omega
      have b5 : -9223372036854775808 ≤ (M : Int) - 1 ∧ (M : Int) - 1 ≤ 9223372036854775807 := by clear hb m3; omega
      rw [if_pos h, w64_id _ b1.1 b1.2, w64_id _ b2.1 b2.2, Int.tdiv_eq_ediv_of_nonneg b3, m3, w64_id _ b4.1 b4.2, w64_id _ b5.1 b5.2, m5, hb, Option.bind_some]
      cases b with
      | true =>
        rw [if_pos rfl]
        exact ref_l0 t d r ht hd hr n _ hi c1 c2 hh (.inr (hbt rfl))
      | false =>
        rw [if_neg (by decide)]
        exact ref_l0 t d r ht hd hr n lo _ c3 c4 c5 hg
    · rw [if_neg h]
      refine ⟨_, rfl, ?_⟩
      rcases hg with hg | hg
      · exact .inl (by omega)
      · exact .inr hg
theorem ref_hold (K : Nat) (hK : 1000000 ≤ K) (t d r : Int) : ∃ g, tattleref17_Hold.f (K + 2) t d r = some g ∧ (g = 0 ∨ mayt t d r) := by
  unfold tattleref17_Hold.f
  by_cases h1 : t < 1
  · rw [if_pos h1, tattleref17_Hold.j0, if_pos rfl]
    exact ⟨_, rfl, .inl rfl⟩
  · by_cases h2 : t > 1000000
    · rw [if_neg h1, if_pos h2, tattleref17_Hold.j0, if_pos rfl]
      exact ⟨_, rfl, .inl rfl⟩
    · rw [if_neg h1, if_neg h2, bound_eq, Option.bind_some]
      by_cases hb : 0 ≤ d ∧ d ≤ 1099511627776 ∧ 1 ≤ r ∧ r ≤ 1099511627776
      · rw [decide_eq_true hb, tattleref17_Hold.j0, if_neg (by decide)]
        obtain ⟨T, rfl⟩ := Int.eq_ofNat_of_zero_le (show 0 ≤ t by omega)
        obtain ⟨g, hg, hd⟩ := ref_l0 (T : Int) d r (by omega) ⟨hb.1, hb.2.1⟩ hb.2.2.1 K 0 T (by omega) (by omega) (by omega) (.inl rfl)
        refine ⟨g, hg, ?_⟩
        rcases hd with hd | hd
        · exact .inl hd
        · refine .inr ⟨by omega, by omega, hb.1, hb.2.1, hb.2.2.1, hb.2.2.2, ?_⟩
          have ht := hold_true (t := (T : Int)) (d := d) (r := r) (by omega) hb.1 hb.2.2.1
          by_cases h0 : hold (T : Int) d r = 0
          · rw [h0] at ht
            unfold many at ht
            rw [decide_eq_true_eq] at ht
            simp at ht
            omega
          · omega
      · rw [decide_eq_false hb, tattleref17_Hold.j0, if_pos (by decide)]
        exact ⟨_, rfl, .inl rfl⟩

end Go.Proofs.Ytgfblogneggpmaa.Vote
namespace Go.Proofs.Ytgfblogneggpmaa.Vote
open Go.RowKit Go.Proofs.Ytgfblogneggpmaa.Fn Go.Proofs.YtgfblogneggpmaaW.PrintWords Go.Proofs.YtgfblogneggpmaaW.PrintMore

theorem fits_eq {g t d r : Int} {M : Nat} (hM : g - 1 = (M : Int)) (h1 : g ≤ 1000000) (hd : 0 ≤ d ∧ d ≤ 1099511627776) (hr : 1 ≤ r) : tattleref04_Fits.f g t d r = some (!many t d r M) := by
  have hq0 : 0 ≤ (g - 1) / r := Int.ediv_nonneg (by omega) (by omega)
  have hq1 : (g - 1) / r ≤ g - 1 := Int.ediv_le_self _ (by omega)
  have e3 : Int.tdiv (g - 1) r = (g - 1) / r := Int.tdiv_eq_ediv_of_nonneg (by omega)
  have hg : ¬g = 0 := by omega
  have hr0 : ¬r = 0 := by omega
  unfold tattleref04_Fits.f many
  rw [if_neg hg, if_neg hr0, ← hM]
  generalize hq : (g - 1) / r = q at hq0 hq1 e3
  clear hq
  have b1 : -9223372036854775808 ≤ g - 1 ∧ g - 1 ≤ 9223372036854775807 := by omega
  have b2 : -9223372036854775808 ≤ g - 1 + d ∧ g - 1 + d ≤ 9223372036854775807 := by omega
  have b4 : -9223372036854775808 ≤ q ∧ q ≤ 9223372036854775807 := by omega
  have b5 : -9223372036854775808 ≤ g - 1 + d + q ∧ g - 1 + d + q ≤ 9223372036854775807 := by omega
  rw [w64_id _ b1.1 b1.2, w64_id _ b2.1 b2.2, e3, w64_id _ b4.1 b4.2, w64_id _ b5.1 b5.2]
  congr 1
  rw [Bool.eq_iff_iff, Bool.not_eq_true', decide_eq_true_eq, decide_eq_false_iff_not]
  omega
theorem ref_l0e (t d r : Int) (ht : 0 ≤ t ∧ t ≤ 1000000) (hd : 0 ≤ d ∧ d ≤ 1099511627776) (hr : 1 ≤ r) : ∀ (n lo hi : Nat), hi - lo ≤ n → lo ≤ hold t d r → hold t d r ≤ hi → (hi : Int) ≤ t →
    tattleref17_Hold.l0 (n + 1) (lo : Int) (hi : Int) t d r = some ((hold t d r : Nat) : Int)
  | 0, lo, hi, hn, hl, hh, hg => by
    rw [tattleref17_Hold.l0, if_neg (by omega)]
    congr 1
    omega
  | n + 1, lo, hi, hn, hl, hh, hg => by
    rw [tattleref17_Hold.l0]
    by_cases h : (lo : Int) < (hi : Int)
    · have c1 : hi - (lo + hi + 1) / 2 ≤ n := by omega
      have c2 : (lo + hi + 1) / 2 ≤ hi := by omega
      have c3 : (lo + hi + 1) / 2 - 1 - lo ≤ n := by omega
      have c4 : lo ≤ (lo + hi + 1) / 2 - 1 := by omega
      have c5 : (((lo + hi + 1) / 2 - 1 : Nat) : Int) ≤ t := by omega
      have c7 : (((lo + hi + 1) / 2 : Nat) : Int) ≤ 1000000 := by omega
      have m3 : ((lo : Int) + (hi : Int) + 1) / 2 = (((lo + hi + 1) / 2 : Nat) : Int) := by omega
      have m5 : (((lo + hi + 1) / 2 : Nat) : Int) - 1 = (((lo + hi + 1) / 2 - 1 : Nat) : Int) := by omega
      have b1 : -9223372036854775808 ≤ (lo : Int) + (hi : Int) ∧ (lo : Int) + (hi : Int) ≤ 9223372036854775807 := by omega
      have b2 : -9223372036854775808 ≤ (lo : Int) + (hi : Int) + 1 ∧ (lo : Int) + (hi : Int) + 1 ≤ 9223372036854775807 := by omega
      have b3 : 0 ≤ (lo : Int) + (hi : Int) + 1 := by omega
      have hb := fits_eq (t := t) (d := d) (r := r) m5 c7 hd hr
      have up := fun h2 : many t d r ((lo + hi + 1) / 2 - 1) = true => Nat.not_lt.1 fun q => by rw [hold_false q] at h2; cases h2
      have dn := fun h2 : many t d r ((lo + hi + 1) / 2 - 1) = false => Nat.not_le.1 fun q => by rw [many_up t d r hr q (hold_true ht.1 hd.1 hr)] at h2; cases h2
      generalize hM : (lo + hi + 1) / 2 = M at *
      have b4 : -9223372036854775808 ≤ (M : Int) ∧ (M : Int) ≤ 9223372036854775807 := by clear hb m3; omega
      have b5 : -9223372036854775808 ≤ (M : Int) - 1 ∧ (M : Int) - 1 ≤ 9223372036854775807 := by clear hb m3; omega
      rw [if_pos h, w64_id _ b1.1 b1.2, w64_id _ b2.1 b2.2, Int.tdiv_eq_ediv_of_nonneg b3, m3, w64_id _ b4.1 b4.2, w64_id _ b5.1 b5.2, m5, hb, Option.bind_some]
      cases hm : many t d r (M - 1) with
      | false =>
        have := dn hm
        rw [if_pos (show (!false) = true from rfl)]
        exact ref_l0e t d r ht hd hr n _ hi c1 (by omega) hh hg
      | true =>
        have := up hm
        rw [if_neg (by decide)]
        exact ref_l0e t d r ht hd hr n lo _ c3 hl this c5
    · rw [if_neg h]
      congr 1
      omega
theorem rhold_eq (K : Nat) (hK : 1000000 ≤ K) (t d r : Int) : tattleref17_Hold.f (K + 2) t d r = some (if mayt t d r then ((hold t d r : Nat) : Int) else 0) := by
  unfold tattleref17_Hold.f
  by_cases h1 : t < 1
  · rw [if_pos h1, tattleref17_Hold.j0, if_pos rfl, if_neg (c := mayt t d r) (fun h => by have := h.1; omega)]
  · by_cases h2 : t > 1000000
    · rw [if_neg h1, if_pos h2, tattleref17_Hold.j0, if_pos rfl, if_neg (c := mayt t d r) (fun h => by have := h.2.1; omega)]
    · rw [if_neg h1, if_neg h2, bound_eq, Option.bind_some]
      by_cases hb : 0 ≤ d ∧ d ≤ 1099511627776 ∧ 1 ≤ r ∧ r ≤ 1099511627776
      · rw [decide_eq_true hb, tattleref17_Hold.j0, if_neg (by decide)]
        obtain ⟨T, rfl⟩ := Int.eq_ofNat_of_zero_le (show 0 ≤ t by omega)
        have hle := hold_le (t := (T : Int)) (d := d) (r := r) (by omega) hb.1 hb.2.2.1
        have hg := ref_l0e (T : Int) d r ⟨by omega, by omega⟩ ⟨hb.1, hb.2.1⟩ hb.2.2.1 K 0 T (by omega) (by omega) (by omega) (by omega)
        rw [show ((0 : Nat) : Int) = 0 from rfl] at hg
        rw [hg]
        congr 1
        by_cases hm : mayt (T : Int) d r
        · rw [if_pos hm]
        · rw [if_neg hm]
          have : ¬1 ≤ hold (T : Int) d r := fun q => hm ⟨by omega, by omega, hb.1, hb.2.1, hb.2.2.1, hb.2.2.2, q⟩
          omega
      · rw [decide_eq_false hb, tattleref17_Hold.j0, if_pos (by decide), if_neg (c := mayt t d r) (fun h => hb ⟨h.2.2.1, h.2.2.2.1, h.2.2.2.2.1, h.2.2.2.2.2.1⟩)]
end Go.Proofs.Ytgfblogneggpmaa.Vote
namespace Go.Proofs.Ytgfblogneggpmaa.Vote
open Go.RowKit Go.Proofs.Ytgfblogneggpmaa.Fn Go.Proofs.YtgfblogneggpmaaW.PrintWords Go.Proofs.YtgfblogneggpmaaW.PrintMore Go.Proofs.Ytgfblogneggpmaa.Thr

theorem leadok_len {l : List Int} (h : leadok l = true) : 1 ≤ l.length ∧ l.length ≤ 64 := by
  unfold leadok at h
  rw [Bool.and_eq_true, Bool.and_eq_true, decide_eq_true_eq, decide_eq_true_eq] at h
  exact ⟨h.1, h.2.1⟩
theorem odd_iff (x : Int) : odd x = false ↔ -1 ≤ x ∧ x ≤ 1099511627776 := by
  unfold odd
  by_cases h1 : x = -1
  · subst h1
    simp
  · by_cases h2 : 0 ≤ x
    · by_cases h3 : x ≤ 1099511627776 <;> simp [h1, h2, h3] <;> omega
    · simp [h1, h2]
      omega
theorem leadok_mem {l : List Int} (h : leadok l = true) {x : Int} (hx : x ∈ l) : -1 ≤ x ∧ x ≤ 1099511627776 := by
  unfold leadok at h
  rw [Bool.and_eq_true, Bool.and_eq_true, Bool.not_eq_true', List.any_eq_false] at h
  have := h.2.2 x hx
  rw [← odd_iff]
  simpa using this
theorem leadok_of {l : List Int} (h1 : 1 ≤ l.length) (h2 : l.length ≤ 64) (h : ∀ x ∈ l, -1 ≤ x ∧ x ≤ 1099511627776) : leadok l = true := by
  unfold leadok
  rw [decide_eq_true h1, decide_eq_true h2, Bool.true_and, Bool.true_and, Bool.not_eq_true', List.any_eq_false]
  intro x hx
  rw [(odd_iff x).2 (h x hx)]
  decide
/-- A majority of n. -/
def maj (n : Nat) : Nat := n / 2 + 1
theorem thr_mem {l : List Int} {m : Nat} (h1 : 1 ≤ m) (h2 : m ≤ l.length) : thr l m ∈ l := by
  unfold thr
  rw [← (ord_perm l).mem_iff]
  have hl := ord_length l
  have : l.length - m < (ord l).length := by omega
  simp [this]
theorem thr_rng {l : List Int} (h : leadok l = true) : -1 ≤ thr l (maj l.length) ∧ thr l (maj l.length) ≤ 1099511627776 := by
  have hl := leadok_len h
  exact leadok_mem h (thr_mem (by unfold maj; omega) (by unfold maj; omega))
/-- Until when a lead holds. -/
theorem until_eq (t d r e : Int) (l : List Int) : lead_Until.f t d r e l = some (if mayt t d r ∧ leadok l = true then (if thr l (maj l.length) < 0 then (0, false, 0) else (thr l (maj l.length) + ((hold t d r : Nat) : Int), true, 0)) else (0, false, 1)) := by
  unfold lead_Until.f
  rw [hold_eq, Option.bind_some]
  by_cases hm : mayt t d r
  · rw [if_pos hm]
    simp only [true_and]
    cases hk : leadok l with
    | false =>
      rw [if_neg (c := (false : Bool) = true) (by decide), if_neg (c := mayt t d r ∧ (false : Bool) = true) (fun q => by cases q.2)]
    | true =>
      rw [if_pos (c := (true : Bool) = true) rfl, if_pos (c := mayt t d r ∧ (true : Bool) = true) ⟨hm, rfl⟩]
      have hr := thr_rng hk
      have hh := hold_le (t := t) (d := d) (r := r) (by have := hm.1; omega) hm.2.2.1 hm.2.2.2.2.1
      have ht := hm.2.1
      unfold maj at *
      by_cases hn : thr l (l.length / 2 + 1) < 0
      · rw [if_pos hn, if_pos hn]
      · rw [if_neg hn, if_neg hn, w64_id _ (by omega) (by omega)]
  · rw [if_neg hm, if_neg (c := (1 : Int) = 0 ∧ leadok l = true) (fun q => by cases q.1), if_neg (c := mayt t d r ∧ leadok l = true) (fun q => hm q.1)]
theorem lmoment_eq (a : Int) : lead_moment.f a = some (decide (0 ≤ a ∧ a ≤ 1099511627776)) := by
  unfold lead_moment.f
  by_cases h : a ≥ 0
  · rw [if_pos h]
    congr 1
    rw [decide_eq_decide]
    omega
  · rw [if_neg h, decide_eq_false (by omega)]
/-- One grant more. -/
def gra (l : List Int) (v : Nat) (a : Int) : List Int := l.set v (max (l.getD v 0) a)
theorem gra_length (l : List Int) (v : Nat) (a : Int) : (gra l v a).length = l.length := by simp [gra]
theorem gra_get (l : List Int) (v : Nat) (a : Int) (i : Nat) (hv : v < l.length) : (gra l v a).getD i 0 = if i = v then max (l.getD v 0) a else l.getD i 0 := by
  unfold gra
  by_cases h : i = v
  · subst h
    rw [if_pos rfl]
    simp [hv]
  · rw [if_neg h, List.getD_eq_getElem?_getD, List.getElem?_set_ne (fun e => h e.symm), ← List.getD_eq_getElem?_getD]
theorem gra_ok {l : List Int} {v : Nat} {a : Int} (h : leadok l = true) (hv : v < l.length) (ha : 0 ≤ a ∧ a ≤ 1099511627776) : leadok (gra l v a) = true := by
  have hl := leadok_len h
  refine leadok_of (by rw [gra_length]; omega) (by rw [gra_length]; omega) (fun x hx => ?_)
  unfold gra at hx
  rcases List.mem_or_eq_of_mem_set hx with hx | rfl
  · exact leadok_mem h hx
  · have : l.getD v 0 ∈ l := by simp [hv]
    have := leadok_mem h this
    omega
theorem mx_eq (a b : Int) : mx a b = max a b := by
  unfold mx
  split <;> omega
theorem granted_eq (k : Nat) (hk : 1 ≤ k) (e : Int) (l : List Int) (v ep a : Int) : lead_Granted.f k e l v ep a = some (if leadok l = true ∧ 0 ≤ v ∧ v < (l.length : Int) ∧ 0 ≤ a ∧ a ≤ 1099511627776 then (if ep = e then (e, gra l v.toNat a, 0) else (e, l, 8)) else (e, l, 1)) := by
  obtain ⟨k, rfl⟩ : ∃ m, k = m + 1 := ⟨k - 1, by omega⟩
  have hbad : lead_Granted.j0 (k + 1) v ep a true e l = some (e, l, 1) := by rw [lead_Granted.j0, if_pos rfl]
  unfold lead_Granted.f lead_Check.f
  rw [Option.bind_some]
  cases hl : leadok l with
  | false => rw [if_neg (by decide), hbad, if_neg (fun q => by cases q.1)]
  | true =>
    rw [if_pos rfl, if_pos rfl]
    have hlen := leadok_len hl
    by_cases h1 : v < 0
    · rw [if_pos h1, hbad, if_neg (fun q => by omega)]
    rw [if_neg h1]
    by_cases h2 : v ≥ (l.length : Int)
    · rw [if_pos h2, hbad, if_neg (fun q => by omega)]
    rw [if_neg h2, lmoment_eq, Option.bind_some]
    by_cases h3 : 0 ≤ a ∧ a ≤ 1099511627776
    · rw [decide_eq_true h3, lead_Granted.j0, if_neg (by decide), if_pos (c := (true : Bool) = true ∧ 0 ≤ v ∧ v < (l.length : Int) ∧ 0 ≤ a ∧ a ≤ 1099511627776) ⟨rfl, by omega, by omega, h3⟩]
      by_cases h4 : ep = e
      · have hcl : slices_Clone_int64_int64.f l = some l := by simp [slices_Clone_int64_int64.f]; omega
        rw [if_pos h4, if_pos h4, hcl, Option.bind_some, if_pos (by omega), if_pos (by omega), mx_eq]
        rfl
      · rw [if_neg h4, if_neg h4]
    · rw [decide_eq_false h3, if_neg (fun q => h3 ⟨q.2.2.2.1, q.2.2.2.2⟩)]
      exact hbad
theorem lmaj_eq (n : Nat) (h1 : 1 ≤ n) (h2 : n ≤ 64) : lead_Majority.f (n : Int) = some ((maj n : Nat) : Int) := maj_eq n h1 h2
theorem lnew_eq (n : Nat) (h1 : 1 ≤ n) (h2 : n ≤ 64) : lead_New.f (n : Int) = some (0, List.replicate n (-1), 0) := by
  unfold lead_New.f
  rw [if_pos (by omega), Int.toNat_natCast]
theorem few18_eq (e : Int) (l : List Int) : ∃ l', tattlelaw18_Few.f e l = some (e, l') ∧ l'.length ≤ 65 := by
  unfold tattlelaw18_Few.f
  by_cases h : (l.length : Int) > 65
  · rw [if_pos h, if_pos (by omega)]
    exact ⟨_, rfl, by rw [List.length_take]; omega⟩
  · rw [if_neg h]
    exact ⟨_, rfl, by omega⟩
/-- The first k of n have granted at once. -/
def firsts (n k : Nat) (a : Int) : List Int := List.replicate k a ++ List.replicate (n - k) (-1)
theorem firsts_length {n k : Nat} (a : Int) (h : k ≤ n) : (firsts n k a).length = n := by simp [firsts]; omega
theorem firsts_zero (n : Nat) (a : Int) : firsts n 0 a = List.replicate n (-1) := by simp [firsts]
theorem firsts_gra {n k : Nat} {a : Int} (h : k < n) (ha : 0 ≤ a) : gra (firsts n k a) k a = firsts n (k + 1) a := by
  have hg : (firsts n k a).getD k 0 = -1 := by
    unfold firsts
    rw [List.getD_eq_getElem?_getD, List.getElem?_append_right (by simp), List.length_replicate, Nat.sub_self, List.getElem?_replicate, if_pos (by omega)]
    rfl
  unfold gra
  rw [hg, show max (-1) a = a by omega]
  unfold firsts
  rw [List.set_append_right _ _ (by simp), List.length_replicate, Nat.sub_self, show n - k = (n - (k + 1)) + 1 by omega, List.replicate_succ, List.set_cons_zero, List.replicate_succ', List.append_assoc]
  rfl
theorem firsts_ok {n k : Nat} {a : Int} (h1 : 1 ≤ n) (h2 : n ≤ 64) (h : k ≤ n) (ha : 0 ≤ a ∧ a ≤ 1099511627776) : leadok (firsts n k a) = true := by
  refine leadok_of (by rw [firsts_length a h]; omega) (by rw [firsts_length a h]; omega) (fun x hx => ?_)
  unfold firsts at hx
  rcases List.mem_append.1 hx with hx | hx
  · rw [List.eq_of_mem_replicate hx]
    omega
  · rw [List.eq_of_mem_replicate hx]
    omega
theorem firsts_count (n k : Nat) (a v : Int) : (firsts n k a).countP (fun x => decide (v ≤ x)) = (if v ≤ a then k else 0) + (if v ≤ -1 then n - k else 0) := by
  unfold firsts
  rw [List.countP_append, List.countP_replicate, List.countP_replicate]
  simp only [decide_eq_true_eq]
theorem firsts_thr {n k : Nat} {a : Int} (h1 : 1 ≤ n) (h : k ≤ n) (ha : 0 ≤ a) : if maj n ≤ k then thr (firsts n k a) (maj n) = a else thr (firsts n k a) (maj n) < 0 := by
  have hl := firsts_length a h
  have hm1 : 1 ≤ maj n := by unfold maj; omega
  have hm2 : maj n ≤ (firsts n k a).length := by rw [hl]; unfold maj; omega
  by_cases hk : maj n ≤ k
  · rw [if_pos hk]
    refine thr_is _ _ hm1 hm2 a ?_ (fun u hu => ?_)
    · rw [firsts_count, if_pos (Int.le_refl _), if_neg (by omega)]
      omega
    · rw [firsts_count] at hu
      by_cases hua : u ≤ a
      · exact hua
      · rw [if_neg hua, if_neg (by omega)] at hu
        omega
  · rw [if_neg hk]
    have := thr_many (firsts n k a) (maj n) hm1 hm2
    rw [firsts_count] at this
    refine Int.not_le.1 fun hge => ?_
    split at this <;> split at this <;> omega
theorem same18_l0 (a b : List Int) (e1 e2 : Int) (hab : a.length = b.length) (hm : a.length ≤ 1000000) : ∀ (d i k : Nat), i + d = a.length → d + 1 ≤ k → tattleref18_Same.l0 k (i : Int) e1 a e2 b = some (decide (a.drop i = b.drop i))
  | 0, i, k, hi, hk => by
    obtain ⟨k, rfl⟩ : ∃ m, k = m + 1 := ⟨k - 1, by omega⟩
    rw [tattleref18_Same.l0, if_neg (by omega), List.drop_of_length_le (by omega), List.drop_of_length_le (by omega)]
    rfl
  | d + 1, i, k, hi, hk => by
    obtain ⟨k, rfl⟩ : ∃ m, k = m + 1 := ⟨k - 1, by omega⟩
    have ih := same18_l0 a b e1 e2 hab hm d (i + 1) k (by omega) (by omega)
    have y : -9223372036854775808 ≤ (i : Int) + 1 ∧ (i : Int) + 1 ≤ 9223372036854775807 := by omega
    have ha : i < a.length := by omega
    have hb : i < b.length := by omega
    have r1 : rd a (i : Int) = a[i] := by show a.getD ((i : Int)).toNat 0 = a[i]; simp [ha]
    have r2 : rd b (i : Int) = b[i] := by show b.getD ((i : Int)).toNat 0 = b[i]; simp [hb]
    rw [tattleref18_Same.l0, if_pos (by omega), if_pos (by omega), if_pos (by omega), w64_id _ y.1 y.2, r1, r2, List.drop_eq_getElem_cons ha, List.drop_eq_getElem_cons hb]
    by_cases h : a[i] = b[i]
    · rw [if_pos h, show ((i : Int) + 1) = ((i + 1 : Nat) : Int) by omega, ih, h]
      congr 1
      rw [decide_eq_decide, List.cons.injEq]
      exact ⟨fun q => ⟨rfl, q⟩, fun q => q.2⟩
    · rw [if_neg h]
      congr 1
      symm
      rw [decide_eq_false_iff_not, List.cons.injEq]
      exact fun q => h q.1
theorem same18_refl (k : Nat) (e : Int) (a : List Int) (hm : a.length ≤ 1000000) (hk : a.length + 2 ≤ k) : tattleref18_Same.f k e a e a = some true := by
  obtain ⟨k, rfl⟩ : ∃ m, k = m + 1 := ⟨k - 1, by omega⟩
  unfold tattleref18_Same.f
  have := same18_l0 a a e e rfl hm a.length 0 k (by omega) (by omega)
  rw [show ((0 : Nat) : Int) = 0 from rfl, decide_eq_true rfl] at this
  rw [if_pos rfl, tattleref18_Same.j0, if_neg (by simp), this]
end Go.Proofs.Ytgfblogneggpmaa.Vote
namespace Go.Proofs.Ytgfblogneggpmaa.Clk
open Go.RowKit Go.Proofs.Ytgfblogneggpmaa.Fn Go.Proofs.YtgfblogneggpmaaW.PrintWords Go.Proofs.YtgfblogneggpmaaW.PrintMore Go.Proofs.Ytgfblogneggpmaa.Vote
set_option maxRecDepth 100000
section
variable (nd wh : Nat → Int)

/-- Is x up behind so many beats? -/
def upb (x : Int) : Nat → Bool
  | 0 => true
  | k + 1 => if nd k = x ∧ wh k ≠ 0 then decide (wh k = 2) else upb x k
/-- Since which place it is up; -1: it is not. -/
def since (x : Int) : Nat → Int
  | 0 => 0
  | k + 1 => if nd k = x then (if wh k = 1 then -1 else if wh k = 2 then (k : Int) + 1 else since x k) else since x k
/-- How many ticks it had. -/
def tk (x : Int) : Nat → Int
  | 0 => 0
  | k + 1 => if nd k = x ∧ wh k = 0 then tk x k + 1 else tk x k
/-- May so many beats be? -/
def okb (n : Int) : Nat → Bool
  | 0 => true
  | k + 1 => okb n k && (decide (0 ≤ nd k ∧ nd k < n) && (decide (since nd wh (nd k) k < 0 ↔ wh k = 2) && decide (wh k = 0 ∨ wh k = 1 ∨ wh k = 2)))
theorem okb_le (n : Int) : ∀ (d k : Nat), okb nd wh n (k + d) = true → okb nd wh n k = true
  | 0, k, h => h
  | d + 1, k, h => by
    rw [show k + (d + 1) = (k + d) + 1 from rfl, okb, Bool.and_eq_true] at h
    exact okb_le n d k h.1
theorem okb_at {n : Int} {k i : Nat} (h : okb nd wh n k = true) (hi : i < k) : 0 ≤ nd i ∧ nd i < n ∧ (since nd wh (nd i) i < 0 ↔ wh i = 2) ∧ (wh i = 0 ∨ wh i = 1 ∨ wh i = 2) := by
  have h1 := okb_le nd wh n (k - (i + 1)) (i + 1) (by rw [show i + 1 + (k - (i + 1)) = k by omega]; exact h)
  rw [okb, Bool.and_eq_true, Bool.and_eq_true, Bool.and_eq_true, decide_eq_true_eq, decide_eq_true_eq, decide_eq_true_eq] at h1
  exact ⟨h1.2.1.1, h1.2.1.2, h1.2.2.1, h1.2.2.2⟩
theorem since_rng (x : Int) : ∀ k : Nat, -1 ≤ since nd wh x k ∧ since nd wh x k ≤ (k : Int)
  | 0 => by simp [since]
  | k + 1 => by
    have ih := since_rng x k
    rw [since]
    split
    · split
      · omega
      · split <;> omega
    · omega
theorem tk_rng (x : Int) : ∀ k : Nat, 0 ≤ tk nd wh x k ∧ tk nd wh x k ≤ (k : Int)
  | 0 => by simp [tk]
  | k + 1 => by
    have ih := tk_rng x k
    rw [tk]
    split <;> omega
theorem tk_mono (x : Int) (a : Nat) : ∀ d : Nat, tk nd wh x a ≤ tk nd wh x (a + d) ∧ tk nd wh x (a + d) ≤ tk nd wh x a + d
  | 0 => by simp
  | d + 1 => by
    have ih := tk_mono x a d
    rw [show a + (d + 1) = (a + d) + 1 from rfl, tk]
    split <;> omega
theorem since_up (x : Int) : ∀ k : Nat, (∀ i, i < k → wh i = 0 ∨ wh i = 1 ∨ wh i = 2) → (0 ≤ since nd wh x k ↔ upb nd wh x k = true)
  | 0, _ => by simp [since, upb]
  | k + 1, hw => by
    have ih := since_up x k (fun i hi => hw i (by omega))
    rw [since, upb]
    by_cases hn : nd k = x
    · rcases hw k (by omega) with h | h | h
      · rw [if_pos hn, if_neg (by omega), if_neg (by omega), if_neg (by omega)]
        exact ih
      · rw [if_pos hn, if_pos h, if_pos ⟨hn, by omega⟩, decide_eq_true_eq]
        omega
      · rw [if_pos hn, if_neg (by omega), if_pos h, if_pos ⟨hn, by omega⟩, decide_eq_true_eq]
        omega
    · rw [if_neg hn, if_neg (fun q => hn q.1)]
      exact ih
/-- Up from one place tw another one? -/
def upf (x : Int) (a b : Nat) : Bool := decide (0 ≤ since nd wh x b ∧ since nd wh x b ≤ (a : Int))
theorem upf_iff (x : Int) (a : Nat) : ∀ d : Nat, (∀ i, i < a + d → wh i = 0 ∨ wh i = 1 ∨ wh i = 2) → (upf nd wh x a (a + d) = true ↔ upb nd wh x a = true ∧ ∀ i, a ≤ i → i < a + d → nd i = x → wh i = 0)
  | 0, hw => by
    have h1 := since_rng nd wh x a
    have h2 := since_up nd wh x a (fun i hi => hw i (by omega))
    unfold upf
    rw [decide_eq_true_eq, Nat.add_zero, ← h2]
    exact ⟨fun h => ⟨h.1, fun i h1 h2 => by omega⟩, fun h => ⟨h.1, h1.2⟩⟩
  | d + 1, hw => by
    have ih := upf_iff x a d (fun i hi => hw i (by omega))
    have e : upf nd wh x a (a + d + 1) = true ↔ (upf nd wh x a (a + d) = true ∧ (nd (a + d) = x → wh (a + d) = 0)) := by
      have hr := since_rng nd wh x (a + d)
      unfold upf
      rw [decide_eq_true_eq, decide_eq_true_eq, since]
      by_cases hn : nd (a + d) = x
      · rw [if_pos hn]
        rcases hw (a + d) (by omega) with h | h | h
        · rw [if_neg (by omega), if_neg (by omega)]
          exact ⟨fun q => ⟨q, fun _ => h⟩, fun q => q.1⟩
        · rw [if_pos h]
          exact ⟨fun q => by omega, fun q => by have := q.2 hn; omega⟩
        · rw [if_neg (by omega), if_pos h]
          exact ⟨fun q => by omega, fun q => by have := q.2 hn; omega⟩
      · rw [if_neg hn]
        exact ⟨fun q => ⟨q, fun e => absurd e hn⟩, fun q => q.1⟩
    rw [show a + (d + 1) = a + d + 1 from rfl, e, ih]
    constructor
    · rintro ⟨⟨h1, h2⟩, h3⟩
      refine ⟨h1, fun i hi hi2 hx => ?_⟩
      by_cases e : i = a + d
      · subst e
        exact h3 hx
      · exact h2 i hi (by omega) hx
    · rintro ⟨h1, h2⟩
      exact ⟨⟨h1, fun i hi hi2 hx => h2 i hi (by omega) hx⟩, fun hx => h2 (a + d) (by omega) (by omega) hx⟩
theorem upf_from {x : Int} {a a' b : Nat} (h : upf nd wh x a b = true) (ha : a ≤ a') : upf nd wh x a' b = true := by
  unfold upf at *
  rw [decide_eq_true_eq] at *
  omega
theorem upf_to {x : Int} {a m b : Nat} (hw : ∀ i, i < b → wh i = 0 ∨ wh i = 1 ∨ wh i = 2) (h : upf nd wh x a b = true) (ha : a ≤ m) (hm : m ≤ b) : upf nd wh x a m = true := by
  have h1 := upf_iff nd wh x a (b - a) (fun i hi => hw i (by omega))
  have h2 := upf_iff nd wh x a (m - a) (fun i hi => hw i (by omega))
  rw [show a + (b - a) = b by omega] at h1
  rw [show a + (m - a) = m by omega] at h2
  have h3 := h1.1 h
  exact h2.2 ⟨h3.1, fun i h4 h5 => h3.2 i h4 (by omega)⟩
/-- Do two nodes' ticks differ by no more than they may? -/
def two (d r x y : Int) (a b : Nat) : Bool :=
  !(upf nd wh x a b && upf nd wh y a b) || decide (max (tk nd wh x b - tk nd wh x a) (tk nd wh y b - tk nd wh y a) - min (tk nd wh x b - tk nd wh x a) (tk nd wh y b - tk nd wh y a) ≤ d + min (tk nd wh x b - tk nd wh x a) (tk nd wh y b - tk nd wh y a) / r)
theorem two_comm (d r x y : Int) (a b : Nat) : two nd wh d r x y a b = two nd wh d r y x a b := by
  unfold two
  rw [Bool.and_comm, Int.max_comm, Int.min_comm]
def nearAt (d r : Int) (n tw : Nat) : Bool := (List.range n).all fun a => (List.range a).all fun b => (List.range (tw + 1)).all fun f => two nd wh d r (a : Int) (b : Int) f tw
theorem nearAt_iff (d r : Int) (n tw : Nat) : nearAt nd wh d r n tw = true ↔ ∀ a b f : Nat, a < n → b < a → f ≤ tw → two nd wh d r (a : Int) (b : Int) f tw = true := by
  unfold nearAt
  simp only [List.all_eq_true, List.mem_range]
  exact ⟨fun h a b f h1 h2 h3 => h a h1 b h2 f (by omega), fun h a h1 b h2 f h3 => h a b f h1 h2 (by omega)⟩
theorem near_zero (d r : Int) (n : Nat) (hd : 0 ≤ d) : nearAt nd wh d r n 0 = true := by
  rw [nearAt_iff]
  intro a b f _ _ hf
  obtain rfl : f = 0 := by omega
  unfold two
  rw [Bool.or_eq_true, decide_eq_true_eq]
  right
  simp
  exact hd
/-- Of how many beats clocks are near. -/
def far (d r : Int) (n len : Nat) : Nat := first (fun k => !nearAt nd wh d r n (k + 1)) len 0
theorem far_spec (d r : Int) (n len : Nat) (hd : 0 ≤ d) : far nd wh d r n len ≤ len ∧ (∀ t, t ≤ far nd wh d r n len → nearAt nd wh d r n t = true) ∧ (far nd wh d r n len = len ∨ nearAt nd wh d r n (far nd wh d r n len + 1) = false) := by
  obtain ⟨_, h2, h3, h4⟩ := first_spec (fun k => !nearAt nd wh d r n (k + 1)) len 0
  unfold far
  refine ⟨by omega, fun t ht => ?_, ?_⟩
  · cases t with
    | zero => exact near_zero nd wh d r n hd
    | succ t =>
      have := h3 t (Nat.zero_le _) (by omega)
      simpa using this
  · rcases h4 with h4 | h4
    · exact .inl (by omega)
    · exact .inr (by simpa using h4)
theorem far_all (d r : Int) (n len : Nat) (hd : 0 ≤ d) : far nd wh d r n len = len ↔ ∀ t, t ≤ len → nearAt nd wh d r n t = true := by
  obtain ⟨h1, h2, h3⟩ := far_spec nd wh d r n len hd
  constructor
  · intro e t ht
    exact h2 t (by omega)
  · intro h
    rcases h3 with h3 | h3
    · exact h3
    · by_cases e : far nd wh d r n len = len
      · exact e
      · rw [h _ (by omega)] at h3
        cases h3
theorem two_more {d r d' r' x y : Int} {a b : Nat} (hr : 1 ≤ r') (hrr : r' ≤ r) (hdd : d ≤ d') (hab : a ≤ b) (h : two nd wh d r x y a b = true) : two nd wh d' r' x y a b = true := by
  unfold two at *
  rw [Bool.or_eq_true, decide_eq_true_eq] at *
  rcases h with h | h
  · exact .inl h
  · right
    have h1 := tk_mono nd wh x a (b - a)
    have h2 := tk_mono nd wh y a (b - a)
    rw [show a + (b - a) = b by omega] at h1 h2
    have h0 : 0 ≤ min (tk nd wh x b - tk nd wh x a) (tk nd wh y b - tk nd wh y a) := by omega
    generalize min (tk nd wh x b - tk nd wh x a) (tk nd wh y b - tk nd wh y a) = m at *
    have h3 : m / r ≤ m / r' := by
      rw [Int.le_ediv_iff_mul_le (by omega)]
      have h4 : m / r * r' ≤ m / r * r := Int.mul_le_mul_of_nonneg_left hrr (Int.ediv_nonneg h0 (by omega))
      have h5 : m / r * r ≤ m := Int.ediv_mul_le _ (by omega)
      omega
    omega
theorem nearAt_more {d r d' r' : Int} {n tw : Nat} (hr : 1 ≤ r') (hrr : r' ≤ r) (hdd : d ≤ d') (h : nearAt nd wh d r n tw = true) : nearAt nd wh d' r' n tw = true := by
  rw [nearAt_iff] at *
  exact fun a b f h1 h2 h3 => two_more nd wh hr hrr hdd h3 (h a b f h1 h2 h3)
theorem nearAt_len (r : Int) (hr : 1 ≤ r) {d : Int} {n tw : Nat} (hd : (tw : Int) ≤ d) : nearAt nd wh d r n tw = true := by
  rw [nearAt_iff]
  intro a b f _ _ hf
  unfold two
  rw [Bool.or_eq_true, decide_eq_true_eq]
  right
  have h1 := tk_mono nd wh a f (tw - f)
  have h2 := tk_mono nd wh b f (tw - f)
  rw [show f + (tw - f) = tw by omega] at h1 h2
  have h0 : 0 ≤ min (tk nd wh a tw - tk nd wh a f) (tk nd wh b tw - tk nd wh b f) := by omega
  have h3 := Int.ediv_nonneg h0 (show 0 ≤ r by omega)
  omega
end
section
variable {nd nd' wh wh' : Nat → Int}
theorem since_congr (x : Int) : ∀ k : Nat, (∀ i, i < k → nd i = nd' i ∧ wh i = wh' i) → since nd wh x k = since nd' wh' x k
  | 0, _ => rfl
  | k + 1, h => by
    have ih := since_congr x k (fun i hi => h i (by omega))
    obtain ⟨h1, h2⟩ := h k (by omega)
    rw [since, since, ih, h1, h2]
theorem tk_congr (x : Int) : ∀ k : Nat, (∀ i, i < k → nd i = nd' i ∧ wh i = wh' i) → tk nd wh x k = tk nd' wh' x k
  | 0, _ => rfl
  | k + 1, h => by
    have ih := tk_congr x k (fun i hi => h i (by omega))
    obtain ⟨h1, h2⟩ := h k (by omega)
    rw [tk, tk, ih, h1, h2]
theorem okb_congr (n : Int) : ∀ k : Nat, (∀ i, i < k → nd i = nd' i ∧ wh i = wh' i) → okb nd wh n k = okb nd' wh' n k
  | 0, _ => rfl
  | k + 1, h => by
    have ih := okb_congr n k (fun i hi => h i (by omega))
    obtain ⟨h1, h2⟩ := h k (by omega)
    rw [okb, okb, ih, h1, h2, since_congr (nd' k) k (fun i hi => h i (by omega))]
theorem two_congr (d r x y : Int) {a b : Nat} (hab : a ≤ b) (h : ∀ i, i < b → nd i = nd' i ∧ wh i = wh' i) : two nd wh d r x y a b = two nd' wh' d r x y a b := by
  unfold two upf
  rw [since_congr x b h, since_congr y b h, tk_congr x b h, tk_congr y b h, tk_congr x a (fun i hi => h i (by omega)), tk_congr y a (fun i hi => h i (by omega))]
theorem nearAt_congr (d r : Int) (n : Nat) {t : Nat} (h : ∀ i, i < t → nd i = nd' i ∧ wh i = wh' i) : nearAt nd wh d r n t = nearAt nd' wh' d r n t := by
  rw [Bool.eq_iff_iff, nearAt_iff, nearAt_iff]
  exact ⟨fun q a b f h1 h2 h3 => (two_congr d r _ _ h3 h) ▸ q a b f h1 h2 h3, fun q a b f h1 h2 h3 => (two_congr d r _ _ h3 h) ▸ q a b f h1 h2 h3⟩
end
/-- Whose beat, and what. -/
def pnd (l : List S106) (i : Nat) : Int := (l.getD i z106).f0
def pwh (l : List S106) (i : Nat) : Int := (l.getD i z106).f1
def bnd (d r : Int) : Prop := 0 ≤ d ∧ d ≤ 1099511627776 ∧ 1 ≤ r ∧ r ≤ 1099511627776
theorem w64_succ (k : Nat) (h : k ≤ 1000000) : wrap64 ((k : Int) + 1) = (k : Int) + 1 := w64_id _ (by omega) (by omega)
theorem up_l0 (l : List S106) (x : Int) (i : Nat) (hi : i ≤ l.length) (hl : l.length ≤ 401) : ∀ (m j F : Nat), j + m = i → m + 1 ≤ F → tattleref04_Up.l0 F l x (i : Int) (upb (pnd l) (pwh l) x j) (j : Int) = some (upb (pnd l) (pwh l) x i)
  | 0, j, F, hj, hF => by
    obtain ⟨F, rfl⟩ : ∃ q, F = q + 1 := ⟨F - 1, by omega⟩
    obtain rfl : j = i := by omega
    rw [tattleref04_Up.l0, if_neg (by omega)]
  | m + 1, j, F, hj, hF => by
    obtain ⟨F, rfl⟩ : ∃ q, F = q + 1 := ⟨F - 1, by omega⟩
    have ih := up_l0 l x i hi hl m (j + 1) F (by omega) (by omega)
    have e : wrap64 ((j : Int) + 1) = ((j + 1 : Nat) : Int) := by rw [w64_id _ (by omega) (by omega)]; omega
    have p0 : (rd_T106 l (j : Int)).f0 = pnd l j := rfl
    have p1 : (rd_T106 l (j : Int)).f1 = pwh l j := rfl
    rw [tattleref04_Up.l0, if_pos (by omega), if_pos (by omega), if_pos (by omega), p0, p1, e]
    rw [upb] at ih
    by_cases h1 : pnd l j = x
    · rw [if_pos h1]
      by_cases h2 : pwh l j = 0
      · rw [if_pos h2]
        rw [if_neg (fun q => q.2 h2)] at ih
        exact ih
      · rw [if_neg h2]
        rw [if_pos ⟨h1, h2⟩] at ih
        rw [show (pwh l j == 2) = decide (pwh l j = 2) by rw [Bool.eq_iff_iff, beq_iff_eq, decide_eq_true_eq]]
        exact ih
    · rw [if_neg h1]
      rw [if_neg (fun q => h1 q.1)] at ih
      exact ih
theorem up_f (l : List S106) (x : Int) (i : Nat) (hi : i ≤ l.length) (hl : l.length ≤ 401) (F : Nat) (hF : 402 ≤ F) : tattleref04_Up.f F l x (i : Int) = some (upb (pnd l) (pwh l) x i) := by
  have h := up_l0 l x i hi hl i 0 F (by omega) (by omega)
  rw [Int.natCast_zero] at h
  exact h
/-- Has x ticks alone from i on, in so many beats? -/
def only (l : List S106) (x : Int) : Nat → Nat → Bool
  | _, 0 => true
  | i, m + 1 => (!decide (pnd l i = x) || decide (pwh l i = 0)) && only l x (i + 1) m
theorem only_iff (l : List S106) (x : Int) : ∀ (m i : Nat), only l x i m = true ↔ ∀ j, i ≤ j → j < i + m → pnd l j = x → pwh l j = 0
  | 0, i => ⟨fun _ j h1 h2 => by omega, fun _ => rfl⟩
  | m + 1, i => by
    have ih := only_iff l x m (i + 1)
    rw [only, Bool.and_eq_true, ih, Bool.or_eq_true, Bool.not_eq_true', decide_eq_false_iff_not, decide_eq_true_eq]
    constructor
    · rintro ⟨h1, h2⟩ j hj hj2 hx
      by_cases e : j = i
      · subst e
        rcases h1 with h1 | h1
        · exact absurd hx h1
        · exact h1
      · exact h2 j (by omega) (by omega) hx
    · intro h
      refine ⟨?_, fun j h1 h2 hx => h j (by omega) (by omega) hx⟩
      by_cases e : pnd l i = x
      · exact .inr (h i (Nat.le_refl _) (by omega) e)
      · exact .inl e
theorem rticks_l0 (l : List S106) (x : Int) (q : Nat) (hq : q ≤ l.length) (hl : l.length ≤ 400) : ∀ (m i : Nat) (c : Int) (F : Nat), i + m = q → m + 1 ≤ F → 0 ≤ c ∧ c ≤ (i : Int) → tattleref04_Ticks.l0 F l x (q : Int) c (i : Int) = some (if only l x i m = true then (c + (tk (pnd l) (pwh l) x q - tk (pnd l) (pwh l) x i), true) else (0, false))
  | 0, i, c, F, hi, hF, hc => by
    obtain ⟨F, rfl⟩ : ∃ q, F = q + 1 := ⟨F - 1, by omega⟩
    obtain rfl : i = q := by omega
    rw [tattleref04_Ticks.l0, if_neg (by omega), only, if_pos rfl, show c + (tk (pnd l) (pwh l) x i - tk (pnd l) (pwh l) x i) = c by omega]
  | m + 1, i, c, F, hi, hF, hc => by
    obtain ⟨F, rfl⟩ : ∃ q, F = q + 1 := ⟨F - 1, by omega⟩
    have e : wrap64 ((i : Int) + 1) = ((i + 1 : Nat) : Int) := by rw [w64_id _ (by omega) (by omega)]; omega
    have e2 : wrap64 (c + 1) = c + 1 := w64_id _ (by omega) (by omega)
    have p0 : (rd_T106 l (i : Int)).f0 = pnd l i := rfl
    have p1 : (rd_T106 l (i : Int)).f1 = pwh l i := rfl
    rw [tattleref04_Ticks.l0, if_pos (by omega), if_pos (by omega), if_pos (by omega), p0, p1, e, e2, only]
    have ht : tk (pnd l) (pwh l) x (i + 1) = if pnd l i = x ∧ pwh l i = 0 then tk (pnd l) (pwh l) x i + 1 else tk (pnd l) (pwh l) x i := rfl
    by_cases h1 : pnd l i = x
    · rw [if_pos h1, decide_eq_true h1]
      by_cases h2 : pwh l i = 0
      · rw [if_pos ⟨h1, h2⟩] at ht
        rw [if_pos h2, decide_eq_true h2, rticks_l0 l x q hq hl m (i + 1) (c + 1) F (by omega) (by omega) ⟨by omega, by omega⟩, ht]
        simp only [Bool.not_true, Bool.false_or, Bool.true_and]
        rw [show c + 1 + (tk (pnd l) (pwh l) x q - (tk (pnd l) (pwh l) x i + 1)) = c + (tk (pnd l) (pwh l) x q - tk (pnd l) (pwh l) x i) by omega]
      · rw [if_neg h2, decide_eq_false h2]
        rfl
    · rw [if_neg (fun q => h1 q.1)] at ht
      rw [if_neg h1, decide_eq_false h1, rticks_l0 l x q hq hl m (i + 1) c F (by omega) (by omega) ⟨by omega, by omega⟩, ht]
      simp only [Bool.not_false, Bool.true_or, Bool.true_and]
theorem rticks_eq {l : List S106} (hw : ∀ i, i < l.length → pwh l i = 0 ∨ pwh l i = 1 ∨ pwh l i = 2) (hl : l.length ≤ 400) (x : Int) {p q : Nat} (hpq : p ≤ q) (hq : q ≤ l.length) (F : Nat) (hF : 1000 ≤ F) :
    tattleref04_Ticks.f F l x (p : Int) (q : Int) = some (if upf (pnd l) (pwh l) x p q = true then (tk (pnd l) (pwh l) x q - tk (pnd l) (pwh l) x p, true) else (0, false)) := by
  have hu := upf_iff (pnd l) (pwh l) x p (q - p) (fun i hi => hw i (by omega))
  rw [show p + (q - p) = q by omega] at hu
  have ho := only_iff l x (q - p) p
  rw [show p + (q - p) = q by omega] at ho
  unfold tattleref04_Ticks.f
  rw [up_f l x p (by omega) (by omega) F (by omega), Option.bind_some]
  cases h : upb (pnd l) (pwh l) x p with
  | false =>
    rw [if_neg (by decide), if_neg (fun q => by have := (hu.1 q).1; rw [h] at this; cases this)]
  | true =>
    rw [if_pos rfl, rticks_l0 l x q hq hl (q - p) p 0 F (by omega) (by omega) ⟨by omega, by omega⟩]
    by_cases hb : only l x p (q - p) = true
    · rw [if_pos hb, if_pos (hu.2 ⟨h, ho.1 hb⟩), Int.zero_add]
    · rw [if_neg hb, if_neg (fun q => hb (ho.2 (hu.1 q).2))]
theorem rtwo_eq {l : List S106} (hw : ∀ i, i < l.length → pwh l i = 0 ∨ pwh l i = 1 ∨ pwh l i = 2) (hl : l.length ≤ 400) {d r : Int} (hb : bnd d r) (a b : Int) {p q : Nat} (hpq : p ≤ q) (hq : q ≤ l.length) (F : Nat) (hF : 1000 ≤ F) :
    tattleref04_Two.f F l a b (p : Int) (q : Int) d r = some (two (pnd l) (pwh l) d r a b p q) := by
  obtain ⟨F, rfl⟩ : ∃ q, F = q + 1 := ⟨F - 1, by omega⟩
  have hma := tk_mono (pnd l) (pwh l) a p (q - p)
  have hmb := tk_mono (pnd l) (pwh l) b p (q - p)
  rw [show p + (q - p) = q by omega] at hma hmb
  unfold tattleref04_Two.f
  rw [rticks_eq hw hl a hpq hq _ hF, Option.bind_some, rticks_eq hw hl b hpq hq _ hF, Option.bind_some]
  unfold two
  cases ha : upf (pnd l) (pwh l) a p q with
  | false =>
    simp only [Bool.false_eq_true, if_false]
    rw [tattleref04_Two.j0, if_pos rfl]
    rfl
  | true =>
    cases hbb : upf (pnd l) (pwh l) b p q with
    | false =>
      simp only [Bool.false_eq_true, if_false, if_true]
      rw [tattleref04_Two.j0, if_pos (by decide)]
      rfl
    | true =>
      simp only [if_true]
      obtain ⟨d0, d1, r0, r1⟩ := hb
      have hx : 0 ≤ tk (pnd l) (pwh l) a q - tk (pnd l) (pwh l) a p ∧ tk (pnd l) (pwh l) a q - tk (pnd l) (pwh l) a p ≤ 400 := by omega
      have hy : 0 ≤ tk (pnd l) (pwh l) b q - tk (pnd l) (pwh l) b p ∧ tk (pnd l) (pwh l) b q - tk (pnd l) (pwh l) b p ≤ 400 := by omega
      generalize tk (pnd l) (pwh l) a q - tk (pnd l) (pwh l) a p = x at *
      generalize tk (pnd l) (pwh l) b q - tk (pnd l) (pwh l) b p = y at *
      clear hma hmb
      rw [tattleref04_Two.j0, if_neg (by decide)]
      simp only [Bool.and_self, Bool.not_true, Bool.false_or]
      by_cases hxy : x > y
      · have hq0 : 0 ≤ y / r := Int.ediv_nonneg (by omega) (by omega)
        have hq1 : y / r ≤ y := Int.ediv_le_self _ (by omega)
        rw [if_pos hxy, if_neg (by omega), Int.tdiv_eq_ediv_of_nonneg (by omega), w64_id (x - y) (by omega) (by omega), w64_id (y / r) (by omega) (by omega), w64_id (d + y / r) (by omega) (by omega), Int.max_eq_left (by omega), Int.min_eq_right (by omega)]
      · have hq0 : 0 ≤ x / r := Int.ediv_nonneg (by omega) (by omega)
        have hq1 : x / r ≤ x := Int.ediv_le_self _ (by omega)
        rw [if_neg hxy, if_neg (by omega), Int.tdiv_eq_ediv_of_nonneg (by omega), w64_id (y - x) (by omega) (by omega), w64_id (x / r) (by omega) (by omega), w64_id (d + x / r) (by omega) (by omega), Int.max_eq_right (by omega), Int.min_eq_left (by omega)]
/-- The document's: all nodes, all places. -/
def rnear (n : Nat) (l : List S106) (d r : Int) : Bool := (List.range n).all fun a => (List.range a).all fun b => (List.range (l.length + 1)).all fun p => (List.range (l.length + 1 - p)).all fun j => two (pnd l) (pwh l) d r (a : Int) (b : Int) p (p + j)
theorem rnear_iff (n : Nat) (l : List S106) (d r : Int) : rnear n l d r = true ↔ ∀ t, t ≤ l.length → nearAt (pnd l) (pwh l) d r n t = true := by
  unfold rnear
  simp only [List.all_eq_true, List.mem_range]
  constructor
  · intro h t ht
    rw [nearAt_iff]
    intro a b f h1 h2 h3
    have := h a h1 b h2 f (by omega) (t - f) (by omega)
    rwa [show f + (t - f) = t by omega] at this
  · intro h a h1 b h2 p h3 j h4
    exact (nearAt_iff _ _ d r n (p + j)).1 (h (p + j) (by omega)) a b p h1 h2 (by omega)
section
variable {n : Nat} {l : List S106} {d r : Int} (hw : ∀ i, i < l.length → pwh l i = 0 ∨ pwh l i = 1 ∨ pwh l i = 2) (hl : l.length ≤ 90) (hb : bnd d r) (hn : n ≤ 5)
include hw hl hb
theorem rn_l3 (a b p : Nat) {v : Bool} {G : Nat} (hG : 1000 ≤ G) (hv : ∀ F, G ≤ F → tattleref04_Near.l2 F (n : Int) l d r (a : Int) (b : Int) (wrap64 ((p : Int) + 1)) = some v) :
    ∀ (m j F : Nat), p + j + m = l.length + 1 → G + m + 1 ≤ F → tattleref04_Near.l3 F (n : Int) l d r (a : Int) (b : Int) (p : Int) ((p + j : Nat) : Int) = some (((List.range m).all fun i => two (pnd l) (pwh l) d r (a : Int) (b : Int) p (p + j + i)) && v)
  | 0, j, F, hj, hF => by
    obtain ⟨F, rfl⟩ : ∃ q, F = q + 1 := ⟨F - 1, by omega⟩
    rw [tattleref04_Near.l3, if_neg (by omega), hv F (by omega)]
    rfl
  | m + 1, j, F, hj, hF => by
    obtain ⟨F, rfl⟩ : ∃ q, F = q + 1 := ⟨F - 1, by omega⟩
    have e : ((List.range (m + 1)).all fun i => two (pnd l) (pwh l) d r (a : Int) (b : Int) p (p + j + i)) = (two (pnd l) (pwh l) d r (a : Int) (b : Int) p (p + j) && (List.range m).all fun i => two (pnd l) (pwh l) d r (a : Int) (b : Int) p (p + (j + 1) + i)) := by
      rw [List.range_succ_eq_map, List.all_cons, List.all_map, Nat.add_zero]
      congr 2
      funext i
      simp only [Function.comp]
      rw [show p + j + (i + 1) = p + (j + 1) + i by omega]
    rw [tattleref04_Near.l3, if_pos (by omega), rtwo_eq hw (by omega) hb _ _ (by omega) (by omega) F (by omega), Option.bind_some, e]
    cases two (pnd l) (pwh l) d r (a : Int) (b : Int) p (p + j) with
    | false => rfl
    | true =>
      rw [if_pos rfl, Bool.true_and, w64_succ (p + j) (by omega), show ((p + j : Nat) : Int) + 1 = ((p + (j + 1) : Nat) : Int) by omega]
      exact rn_l3 a b p hG hv m (j + 1) F (by omega) (by omega)
theorem rn_l2 (a b : Nat) {v : Bool} {G : Nat} (hG : 1000 ≤ G) (hv : ∀ F, G ≤ F → tattleref04_Near.l1 F (n : Int) l d r (a : Int) (wrap64 ((b : Int) + 1)) = some v) :
    ∀ (m p F : Nat), p + m = l.length + 1 → G + 100 * m + 1 ≤ F → tattleref04_Near.l2 F (n : Int) l d r (a : Int) (b : Int) (p : Int) = some (((List.range m).all fun i => (List.range (l.length + 1 - (p + i))).all fun j => two (pnd l) (pwh l) d r (a : Int) (b : Int) (p + i) (p + i + j)) && v)
  | 0, p, F, hp, hF => by
    obtain ⟨F, rfl⟩ : ∃ q, F = q + 1 := ⟨F - 1, by omega⟩
    rw [tattleref04_Near.l2, if_neg (by omega), hv F (by omega)]
    rfl
  | m + 1, p, F, hp, hF => by
    obtain ⟨F, rfl⟩ : ∃ q, F = q + 1 := ⟨F - 1, by omega⟩
    have e : ((List.range (m + 1)).all fun i => (List.range (l.length + 1 - (p + i))).all fun j => two (pnd l) (pwh l) d r (a : Int) (b : Int) (p + i) (p + i + j)) = (((List.range (l.length + 1 - p)).all fun j => two (pnd l) (pwh l) d r (a : Int) (b : Int) p (p + j)) && (List.range m).all fun i => (List.range (l.length + 1 - (p + 1 + i))).all fun j => two (pnd l) (pwh l) d r (a : Int) (b : Int) (p + 1 + i) (p + 1 + i + j)) := by
      rw [List.range_succ_eq_map (n := m), List.all_cons, List.all_map]
      simp only [Nat.add_zero]
      congr 2
      funext i
      simp only [Function.comp]
      rw [show p + 1 + i = p + (i + 1) by omega]
    have h := rn_l3 hw hl hb a b p (v := (List.range m).all fun i => (List.range (l.length + 1 - (p + 1 + i))).all fun j => two (pnd l) (pwh l) d r (a : Int) (b : Int) (p + 1 + i) (p + 1 + i + j)) (G := G + 100 * m + 1) (n := n) (by omega)
    have h3 := rn_l3 (n := n) hw hl hb a b p (v := ((List.range m).all fun i => (List.range (l.length + 1 - (p + 1 + i))).all fun j => two (pnd l) (pwh l) d r (a : Int) (b : Int) (p + 1 + i) (p + 1 + i + j)) && v) (G := G + 100 * m + 1) (by omega) (fun F' hF' => by
      rw [w64_succ p (by omega), show (p : Int) + 1 = ((p + 1 : Nat) : Int) by omega]
      exact rn_l2 a b hG hv m (p + 1) F' (by omega) hF') (m + 1) 0 F (by omega) (by omega)
    rw [Nat.add_zero] at h3
    rw [tattleref04_Near.l2, if_pos (by omega), h3, e, Bool.and_assoc, show l.length + 1 - p = m + 1 by omega]
include hn
theorem rn_l1 (a : Nat) (ha : a < n) {v : Bool} {G : Nat} (hG : 1000 ≤ G) (hv : ∀ F, G ≤ F → tattleref04_Near.l0 F (n : Int) l d r (wrap64 ((a : Int) + 1)) = some v) :
    ∀ (m b F : Nat), b + m = a → G + 10000 * m + 1 ≤ F → tattleref04_Near.l1 F (n : Int) l d r (a : Int) (b : Int) = some (((List.range m).all fun i => (List.range (l.length + 1)).all fun p => (List.range (l.length + 1 - p)).all fun j => two (pnd l) (pwh l) d r (a : Int) ((b + i : Nat) : Int) p (p + j)) && v)
  | 0, b, F, hb', hF => by
    obtain ⟨F, rfl⟩ : ∃ q, F = q + 1 := ⟨F - 1, by omega⟩
    rw [tattleref04_Near.l1, if_neg (by omega), hv F (by omega)]
    rfl
  | m + 1, b, F, hb', hF => by
    obtain ⟨F, rfl⟩ : ∃ q, F = q + 1 := ⟨F - 1, by omega⟩
    have e : ((List.range (m + 1)).all fun i => (List.range (l.length + 1)).all fun p => (List.range (l.length + 1 - p)).all fun j => two (pnd l) (pwh l) d r (a : Int) ((b + i : Nat) : Int) p (p + j)) = (((List.range (l.length + 1)).all fun p => (List.range (l.length + 1 - p)).all fun j => two (pnd l) (pwh l) d r (a : Int) (b : Int) p (p + j)) && (List.range m).all fun i => (List.range (l.length + 1)).all fun p => (List.range (l.length + 1 - p)).all fun j => two (pnd l) (pwh l) d r (a : Int) ((b + 1 + i : Nat) : Int) p (p + j)) := by
      rw [List.range_succ_eq_map (n := m), List.all_cons, List.all_map]
      simp only [Nat.add_zero]
      congr 2
      funext i
      simp only [Function.comp]
      rw [show b + 1 + i = b + (i + 1) by omega]
    have h2 := rn_l2 (n := n) hw hl hb a b (v := ((List.range m).all fun i => (List.range (l.length + 1)).all fun p => (List.range (l.length + 1 - p)).all fun j => two (pnd l) (pwh l) d r (a : Int) ((b + 1 + i : Nat) : Int) p (p + j)) && v) (G := G + 10000 * m + 1) (by omega) (fun F' hF' => by
      rw [w64_succ b (by omega), show (b : Int) + 1 = ((b + 1 : Nat) : Int) by omega]
      exact rn_l1 a ha hG hv m (b + 1) F' (by omega) hF') (l.length + 1) 0 F (by omega) (by omega)
    rw [Int.natCast_zero] at h2
    simp only [Nat.zero_add] at h2
    rw [tattleref04_Near.l1, if_pos (by omega), h2, e, Bool.and_assoc]
theorem rn_l0 : ∀ (m a F : Nat), a + m = n → 1000 + 50000 * m + 1 ≤ F → tattleref04_Near.l0 F (n : Int) l d r (a : Int) = some ((List.range m).all fun i => (List.range (a + i)).all fun b => (List.range (l.length + 1)).all fun p => (List.range (l.length + 1 - p)).all fun j => two (pnd l) (pwh l) d r ((a + i : Nat) : Int) (b : Int) p (p + j))
  | 0, a, F, ha, hF => by
    obtain ⟨F, rfl⟩ : ∃ q, F = q + 1 := ⟨F - 1, by omega⟩
    rw [tattleref04_Near.l0, if_neg (by omega)]
    rfl
  | m + 1, a, F, ha, hF => by
    obtain ⟨F, rfl⟩ : ∃ q, F = q + 1 := ⟨F - 1, by omega⟩
    have h1 := rn_l1 hw hl hb hn a (by omega) (v := (List.range m).all fun i => (List.range (a + 1 + i)).all fun b => (List.range (l.length + 1)).all fun p => (List.range (l.length + 1 - p)).all fun j => two (pnd l) (pwh l) d r ((a + 1 + i : Nat) : Int) (b : Int) p (p + j)) (G := 1000 + 50000 * m + 1) (by omega) (fun F' hF' => by
      rw [w64_succ a (by omega), show (a : Int) + 1 = ((a + 1 : Nat) : Int) by omega]
      exact rn_l0 m (a + 1) F' (by omega) hF') a 0 F (by omega) (by omega)
    rw [Int.natCast_zero] at h1
    simp only [Nat.zero_add] at h1
    rw [tattleref04_Near.l0, if_pos (by omega), h1, List.range_succ_eq_map (n := m), List.all_cons, List.all_map]
    simp only [Nat.add_zero]
    congr 3
    funext i
    simp only [Function.comp]
    rw [show a + 1 + i = a + (i + 1) by omega]
theorem rnear_eq (F : Nat) (hF : 1000000 ≤ F) : tattleref04_Near.f F (n : Int) l d r = some (rnear n l d r) := by
  have h := rn_l0 hw hl hb hn n 0 F (by omega) (by omega)
  rw [Int.natCast_zero] at h
  simp only [Nat.zero_add] at h
  exact h
end
end Go.Proofs.Ytgfblogneggpmaa.Clk
set_option linter.unusedVariables false
namespace Go.Proofs.Ytgfblogneggpmaa.One
open Go.RowKit Go.Proofs.Ytgfblogneggpmaa.Fn Go.Proofs.YtgfblogneggpmaaW.PrintWords Go.Proofs.YtgfblogneggpmaaW.PrintMore Go.Proofs.Ytgfblogneggpmaa.Vote Go.Proofs.Ytgfblogneggpmaa.Clk Go.Proofs.Ytgfblogneggpmaa.Thr
/-- A request, or a grant; a vote; a lead. -/
abbrev Pap := S116
abbrev Vot := S38
abbrev Led := S52
/-- What all nodes have. -/
structure St where
  clock : List Int
  life : List Int
  up : List Bool
  votes : List Vot
  leads : List Led
  reqs : List Pap
  grs : List Pap
  beats : List S106
  top : Int
variable (s : St)
def St.clk (a : Int) : Int := s.clock.getD a.toNat 0
def St.lf (a : Int) : Int := s.life.getD a.toNat 0
def St.isup (a : Int) : Bool := s.up.getD a.toNat false
def St.vo (a : Int) : Vot := s.votes.getD a.toNat z38
def St.ld (a : Int) : Led := s.leads.getD a.toNat z52
def St.nd : Nat → Int := pnd s.beats
def St.wh : Nat → Int := pwh s.beats
def St.tick (a : Int) : St := { s with clock := s.clock.set a.toNat (s.clk a + 1), beats := s.beats ++ [⟨a, 0⟩] }
def St.fall (a : Int) : St := { s with up := s.up.set a.toNat false, beats := s.beats ++ [⟨a, 1⟩] }
def none_ (n : Nat) : List Int := List.replicate n (-1)
def St.rise (t : Int) (n : Nat) (a : Int) : St := { s with up := s.up.set a.toNat true, clock := s.clock.set a.toNat 0, votes := s.votes.set a.toNat ⟨(s.vo a).f0, (s.vo a).f1, 0, t⟩, leads := s.leads.set a.toNat ⟨0, none_ n⟩, life := s.life.set a.toNat (s.lf a + 1), beats := s.beats ++ [⟨a, 2⟩] }
def St.start (n : Nat) (a : Int) : St := { s with top := s.top + 1, leads := s.leads.set a.toNat ⟨s.top + 1, none_ n⟩ }
def St.paps (n : Nat) (a : Int) : List Pap := (List.range n).map fun (k : Nat) => ⟨a, (k : Int), (s.ld a).f0, s.clk a, s.lf a⟩
def St.ask (n : Nat) (a : Int) : St := { s with reqs := s.reqs ++ s.paps n a }
def St.grant (t : Int) (p : Pap) : St := { s with votes := s.votes.set p.f1.toNat ⟨p.f2, p.f0, s.clk p.f1 + t, (s.vo p.f1).f3⟩, grs := s.grs ++ [p] }
def St.got (p : Pap) : St := { s with leads := s.leads.set p.f0.toNat ⟨(s.ld p.f0).f0, gra (s.ld p.f0).f1 p.f1.toNat p.f3⟩ }
/-- Is it a node? -/
def isn (n : Nat) (a : Int) : Prop := 0 ≤ a ∧ a < (n : Int)
theorem getD_set {α : Type} {l : List α} {a b : Int} {x d : α} (ha : 0 ≤ a) (hb : 0 ≤ b) (hl : a < (l.length : Int)) : (l.set a.toNat x).getD b.toNat d = if b = a then x else l.getD b.toNat d := by
  by_cases h : b = a
  · subst h
    rw [if_pos rfl]
    have : b.toNat < l.length := by omega
    simp [this]
  · rw [if_neg h, List.getD_eq_getElem?_getD, List.getElem?_set_ne (by omega), ← List.getD_eq_getElem?_getD]
/-- A paper may be, behind i steps. -/
structure Okp (n i : Nat) (p : Pap) : Prop where
  fr : isn n p.f0
  to_ : isn n p.f1
  ep : 0 ≤ p.f2 ∧ p.f2 ≤ (i : Int)
  asked : 0 ≤ p.f3 ∧ p.f3 ≤ (i : Int)
  life : 0 ≤ p.f4 ∧ p.f4 ≤ (i : Int)
theorem Okp.more {n i : Nat} {p : Pap} (h : Okp n i p) : Okp n (i + 1) p := ⟨h.fr, h.to_, by have := h.ep; omega, by have := h.asked; omega, by have := h.life; omega⟩
/-- Bounds, behind i steps. -/
structure Bd (t : Int) (n i : Nat) (s : St) : Prop where
  lc : s.clock.length = n
  ll : s.life.length = n
  lu : s.up.length = n
  lv : s.votes.length = n
  lld : s.leads.length = n
  ck : ∀ a, isn n a → 0 ≤ s.clk a ∧ s.clk a ≤ (i : Int)
  lf : ∀ a, isn n a → 0 ≤ s.lf a ∧ s.lf a ≤ (i : Int)
  vo : ∀ a, isn n a → ((s.vo a).f1 = -1 ∨ isn n (s.vo a).f1) ∧ (0 ≤ (s.vo a).f2 ∧ (s.vo a).f2 ≤ (i : Int) + t) ∧ (0 ≤ (s.vo a).f3 ∧ (s.vo a).f3 ≤ (i : Int) + t) ∧ 0 ≤ (s.vo a).f0 ∧ (s.vo a).f0 ≤ (i : Int)
  ld : ∀ a, isn n a → (0 ≤ (s.ld a).f0 ∧ (s.ld a).f0 ≤ s.top) ∧ (s.ld a).f1.length = n ∧ ∀ x, x ∈ (s.ld a).f1 → -1 ≤ x ∧ x ≤ (i : Int)
  tp : 0 ≤ s.top ∧ s.top ≤ (i : Int)
  rl : s.reqs.length ≤ 5 * i
  rq : ∀ p, p ∈ s.reqs → Okp n i p
  gl : s.grs.length ≤ i
  gr : ∀ p, p ∈ s.grs → Okp n i p
  bl : s.beats.length ≤ i
theorem Bd.more {t : Int} {n i : Nat} {s : St} (h : Bd t n i s) : Bd t n (i + 1) s where
  lc := h.lc
  ll := h.ll
  lu := h.lu
  lv := h.lv
  lld := h.lld
  ck := fun a ha => by have := h.ck a ha; omega
  lf := fun a ha => by have := h.lf a ha; omega
  vo := fun a ha => by
    obtain ⟨h1, h2, h3, h4⟩ := h.vo a ha
    exact ⟨h1, by omega, by omega, by omega⟩
  ld := fun a ha => by
    obtain ⟨h1, h2, h3⟩ := h.ld a ha
    exact ⟨h1, h2, fun x hx => by have := h3 x hx; omega⟩
  tp := by have := h.tp; omega
  rl := by have := h.rl; omega
  rq := fun p hp => (h.rq p hp).more
  gl := by have := h.gl; omega
  gr := fun p hp => (h.gr p hp).more
  bl := by have := h.bl; omega
theorem Bd.tick {t : Int} {n i : Nat} {s : St} (h : Bd t n i s) {a : Int} (ha : isn n a) : Bd t n (i + 1) (s.tick a) := by
  have h1 := h.more
  refine { h1 with lc := by simp [St.tick, h.lc], ck := fun b hb => ?_, bl := by have := h.bl; simp [St.tick]; omega }
  have := h.ck a ha
  have := h.ck b hb
  show 0 ≤ (s.clock.set a.toNat (s.clk a + 1)).getD b.toNat 0 ∧ (s.clock.set a.toNat (s.clk a + 1)).getD b.toNat 0 ≤ _
  rw [getD_set ha.1 hb.1 (by rw [h.lc]; exact ha.2)]
  unfold St.clk at *
  split <;> omega
theorem Bd.fall {t : Int} {n i : Nat} {s : St} (h : Bd t n i s) (a : Int) : Bd t n (i + 1) (s.fall a) := by
  have h1 := h.more
  exact { h1 with lu := by simp [St.fall, h.lu], bl := by have := h.bl; simp [St.fall]; omega }
theorem none_mem {n : Nat} {x : Int} (h : x ∈ none_ n) : x = -1 := List.eq_of_mem_replicate h
theorem Bd.rise {t : Int} {n i : Nat} {s : St} (h : Bd t n i s) (ht : 0 ≤ t) {a : Int} (ha : isn n a) : Bd t n (i + 1) (s.rise t n a) := by
  have h1 := h.more
  refine { h1 with lc := by simp [St.rise, h.lc], ll := by simp [St.rise, h.ll], lu := by simp [St.rise, h.lu], lv := by simp [St.rise, h.lv], lld := by simp [St.rise, h.lld], ck := fun b hb => ?_, lf := fun b hb => ?_, vo := fun b hb => ?_, ld := fun b hb => ?_, bl := by have := h.bl; simp [St.rise]; omega }
  · have := h.ck b hb
    show 0 ≤ (s.clock.set a.toNat 0).getD b.toNat 0 ∧ (s.clock.set a.toNat 0).getD b.toNat 0 ≤ _
    rw [getD_set ha.1 hb.1 (by rw [h.lc]; exact ha.2)]
    unfold St.clk at *
    split <;> omega
  · have := h.lf a ha
    have := h.lf b hb
    show 0 ≤ (s.life.set a.toNat (s.lf a + 1)).getD b.toNat 0 ∧ (s.life.set a.toNat (s.lf a + 1)).getD b.toNat 0 ≤ _
    rw [getD_set ha.1 hb.1 (by rw [h.ll]; exact ha.2)]
    unfold St.lf at *
    split <;> omega
  · have e : (s.rise t n a).vo b = if b = a then ⟨(s.vo a).f0, (s.vo a).f1, 0, t⟩ else s.vo b := getD_set ha.1 hb.1 (by rw [h.lv]; exact ha.2)
    rw [e]
    split
    · obtain ⟨h1, h2, h3, h4⟩ := h.vo a ha
      exact ⟨h1, by simp only; omega, by simp only; omega, by simp only; omega⟩
    · exact h1.vo b hb
  · have e : (s.rise t n a).ld b = if b = a then ⟨0, none_ n⟩ else s.ld b := getD_set ha.1 hb.1 (by rw [h.lld]; exact ha.2)
    rw [e]
    split
    · have := h.tp
      exact ⟨⟨by simp only; omega, by simp only [St.rise]; omega⟩, by simp [none_], fun x hx => by rw [none_mem hx]; omega⟩
    · exact h1.ld b hb
theorem Bd.start {t : Int} {n i : Nat} {s : St} (h : Bd t n i s) {a : Int} (ha : isn n a) : Bd t n (i + 1) (s.start n a) := by
  have h1 := h.more
  have h2 := h.tp
  refine { h1 with lld := by simp [St.start, h.lld], tp := by simp only [St.start]; omega, ld := fun b hb => ?_ }
  have e : (s.start n a).ld b = if b = a then ⟨s.top + 1, none_ n⟩ else s.ld b := getD_set ha.1 hb.1 (by rw [h.lld]; exact ha.2)
  rw [e]
  split
  · exact ⟨⟨by simp only; omega, by simp only [St.start]; omega⟩, by simp [none_], fun x hx => by rw [none_mem hx]; omega⟩
  · obtain ⟨q1, q2, q3⟩ := h1.ld b hb
    exact ⟨⟨q1.1, by simp only [St.start]; omega⟩, q2, q3⟩
theorem paps_ok {t : Int} {n i : Nat} {s : St} (h : Bd t n i s) {a : Int} (ha : isn n a) {p : Pap} (hp : p ∈ s.paps n a) : Okp n i p := by
  unfold St.paps at hp
  rw [List.mem_map] at hp
  obtain ⟨k, hk, rfl⟩ := hp
  rw [List.mem_range] at hk
  have h1 := h.ld a ha
  have h2 := h.tp
  exact ⟨ha, ⟨by simp only; omega, by simp only; omega⟩, ⟨h1.1.1, by simp only; omega⟩, h.ck a ha, h.lf a ha⟩
/-- It asks, in the same step as it starts. -/
theorem Bd.ask {t : Int} {n i : Nat} {s : St} (h : Bd t n (i + 1) s) (hl : s.reqs.length ≤ 5 * i) (hn : n ≤ 5) {a : Int} (ha : isn n a) : Bd t n (i + 1) (s.ask n a) := by
  refine { h with rl := ?_, rq := fun p hp => ?_ }
  · simp [St.ask, St.paps]
    omega
  · rcases List.mem_append.1 hp with hp | hp
    · exact h.rq p hp
    · exact paps_ok h ha hp
theorem Bd.grant {t : Int} {n i : Nat} {s : St} (h : Bd t n i s) (ht : 0 ≤ t) {p : Pap} (hp : p ∈ s.reqs) : Bd t n (i + 1) (s.grant t p) := by
  have h1 := h.more
  have ho := h.rq p hp
  refine { h1 with lv := by simp [St.grant, h.lv], vo := fun b hb => ?_, gl := by have := h.gl; simp [St.grant]; omega, gr := fun q hq => ?_ }
  · have e : (s.grant t p).vo b = if b = p.f1 then ⟨p.f2, p.f0, s.clk p.f1 + t, (s.vo p.f1).f3⟩ else s.vo b := getD_set ho.to_.1 hb.1 (by rw [h.lv]; exact ho.to_.2)
    rw [e]
    split
    · have h2 := h.ck p.f1 ho.to_
      obtain ⟨_, _, h3, _⟩ := h.vo p.f1 ho.to_
      have h4 := ho.ep
      exact ⟨.inr ho.fr, by simp only; omega, by simp only; omega, by simp only; omega⟩
    · exact h1.vo b hb
  · rcases List.mem_append.1 hq with hq | hq
    · exact h1.gr q hq
    · rw [List.mem_singleton.1 hq]
      exact ho.more
theorem Bd.got {t : Int} {n i : Nat} {s : St} (h : Bd t n i s) {p : Pap} (hp : p ∈ s.grs) : Bd t n (i + 1) (s.got p) := by
  have h1 := h.more
  have ho := h.gr p hp
  refine { h1 with lld := by simp [St.got, h.lld], ld := fun b hb => ?_ }
  have e : (s.got p).ld b = if b = p.f0 then ⟨(s.ld p.f0).f0, gra (s.ld p.f0).f1 p.f1.toNat p.f3⟩ else s.ld b := getD_set ho.fr.1 hb.1 (by rw [h.lld]; exact ho.fr.2)
  rw [e]
  split
  · obtain ⟨q1, q2, q3⟩ := h1.ld p.f0 ho.fr
    have q4 := ho.asked
    refine ⟨q1, by simp only [gra_length]; exact q2, fun x hx => ?_⟩
    simp only [gra] at hx
    rcases List.mem_or_eq_of_mem_set hx with hx | rfl
    · exact q3 x hx
    · have : (s.ld p.f0).f1.getD p.f1.toNat 0 ∈ (s.ld p.f0).f1 := by
        have : p.f1.toNat < (s.ld p.f0).f1.length := by rw [q2]; have := ho.to_; unfold isn at this; omega
        simp [this]
      have := q3 _ this
      omega
  · exact h1.ld b hb
end Go.Proofs.Ytgfblogneggpmaa.One
set_option linter.unusedVariables false
namespace Go.Proofs.Ytgfblogneggpmaa.One
open Go.RowKit Go.Proofs.Ytgfblogneggpmaa.Fn Go.Proofs.YtgfblogneggpmaaW.PrintWords Go.Proofs.YtgfblogneggpmaaW.PrintMore Go.Proofs.Ytgfblogneggpmaa.Vote Go.Proofs.Ytgfblogneggpmaa.Clk Go.Proofs.Ytgfblogneggpmaa.Thr
/-- Paper p was asked at place r: as long as its node lives on, its ticks since tell. -/
def St.At (s : St) (p : Pap) (r : Nat) : Prop :=
  r ≤ s.beats.length ∧ p.f4 ≤ s.lf p.f0 ∧ (p.f4 = s.lf p.f0 → s.isup p.f0 = true → upf s.nd s.wh p.f0 r s.beats.length = true ∧ s.clk p.f0 - p.f3 = tk s.nd s.wh p.f0 s.beats.length - tk s.nd s.wh p.f0 r)
/-- The voter's word stands: it will not be given to another one ahead of Term ticks since a place behind r. -/
def St.K1 (s : St) (t : Int) (p : Pap) (r : Nat) : Prop :=
  (s.vo p.f1).f1 = p.f0 ∧ (s.isup p.f1 = true → ∃ u, r ≤ u ∧ u ≤ s.beats.length ∧ upf s.nd s.wh p.f1 u s.beats.length = true ∧ s.clk p.f1 - (tk s.nd s.wh p.f1 s.beats.length - tk s.nd s.wh p.f1 u) + t ≤ max (s.vo p.f1).f2 (s.vo p.f1).f3)
/-- Or the voter has had Term ticks since. -/
def St.K2 (s : St) (t : Int) (p : Pap) (r : Nat) : Prop :=
  ∃ u q, r ≤ u ∧ u ≤ q ∧ q ≤ s.beats.length ∧ upf s.nd s.wh p.f1 u q = true ∧ t ≤ tk s.nd s.wh p.f1 q - tk s.nd s.wh p.f1 u
structure Gh (t : Int) (n : Nat) (s : St) : Prop where
  ok : okb s.nd s.wh (n : Int) s.beats.length = true
  up : ∀ a, isn n a → (s.isup a = true ↔ 0 ≤ since s.nd s.wh a s.beats.length)
  rq : ∀ p, p ∈ s.reqs → ∃ r, s.At p r
  gr : ∀ p, p ∈ s.grs → ∃ r, s.At p r ∧ (s.K1 t p r ∨ s.K2 t p r)
  ask : ∀ a, isn n a → ∀ v, isn n v → 0 ≤ (s.ld a).f1.getD v.toNat 0 → ∃ p, p ∈ s.grs ∧ p.f0 = a ∧ p.f1 = v ∧ p.f3 = (s.ld a).f1.getD v.toNat 0 ∧ p.f4 = s.lf a
/-- One beat more. -/
theorem pnd_app (l : List S106) (b : S106) (i : Nat) : pnd (l ++ [b]) i = if i < l.length then pnd l i else if i = l.length then b.f0 else z106.f0 := by
  unfold pnd
  by_cases h : i < l.length
  · rw [if_pos h, List.getD_eq_getElem?_getD, List.getElem?_append_left h, ← List.getD_eq_getElem?_getD]
  · rw [if_neg h, List.getD_eq_getElem?_getD, List.getElem?_append_right (by omega)]
    by_cases h2 : i = l.length
    · subst h2
      simp
    · rw [if_neg h2, List.getElem?_eq_none (by simp; omega)]
      rfl
theorem pwh_app (l : List S106) (b : S106) (i : Nat) : pwh (l ++ [b]) i = if i < l.length then pwh l i else if i = l.length then b.f1 else z106.f1 := by
  unfold pwh
  by_cases h : i < l.length
  · rw [if_pos h, List.getD_eq_getElem?_getD, List.getElem?_append_left h, ← List.getD_eq_getElem?_getD]
  · rw [if_neg h, List.getD_eq_getElem?_getD, List.getElem?_append_right (by omega)]
    by_cases h2 : i = l.length
    · subst h2
      simp
    · rw [if_neg h2, List.getElem?_eq_none (by simp; omega)]
      rfl
section
variable (l : List S106) (x w : Int)
theorem app_cong {k : Nat} (hk : k ≤ l.length) : ∀ i, i < k → pnd l i = pnd (l ++ [⟨x, w⟩]) i ∧ pwh l i = pwh (l ++ [⟨x, w⟩]) i := fun i hi => by
  rw [pnd_app, pwh_app, if_pos (by omega), if_pos (by omega)]
  exact ⟨rfl, rfl⟩
theorem tk_app (a : Int) {k : Nat} (hk : k ≤ l.length) : tk (pnd (l ++ [⟨x, w⟩])) (pwh (l ++ [⟨x, w⟩])) a k = tk (pnd l) (pwh l) a k := (tk_congr a k (app_cong l x w hk)).symm
theorem since_app (a : Int) {k : Nat} (hk : k ≤ l.length) : since (pnd (l ++ [⟨x, w⟩])) (pwh (l ++ [⟨x, w⟩])) a k = since (pnd l) (pwh l) a k := (since_congr a k (app_cong l x w hk)).symm
theorem upf_app (a : Int) (p : Nat) {q : Nat} (hq : q ≤ l.length) : upf (pnd (l ++ [⟨x, w⟩])) (pwh (l ++ [⟨x, w⟩])) a p q = upf (pnd l) (pwh l) a p q := by
  unfold upf
  rw [since_app l x w a hq]
theorem pnd_last : pnd (l ++ [⟨x, w⟩]) l.length = x := by rw [pnd_app, if_neg (Nat.lt_irrefl _), if_pos rfl]
theorem pwh_last : pwh (l ++ [⟨x, w⟩]) l.length = w := by rw [pwh_app, if_neg (Nat.lt_irrefl _), if_pos rfl]
theorem tk_one (a : Int) : tk (pnd (l ++ [⟨x, w⟩])) (pwh (l ++ [⟨x, w⟩])) a (l.length + 1) = if x = a ∧ w = 0 then tk (pnd l) (pwh l) a l.length + 1 else tk (pnd l) (pwh l) a l.length := by
  rw [tk, tk_app l x w a (Nat.le_refl _), pnd_last, pwh_last]
theorem since_one (a : Int) : since (pnd (l ++ [⟨x, w⟩])) (pwh (l ++ [⟨x, w⟩])) a (l.length + 1) = if x = a then (if w = 1 then -1 else if w = 2 then (l.length : Int) + 1 else since (pnd l) (pwh l) a l.length) else since (pnd l) (pwh l) a l.length := by
  rw [since, since_app l x w a (Nat.le_refl _), pnd_last, pwh_last]
theorem okb_one (n : Int) : okb (pnd (l ++ [⟨x, w⟩])) (pwh (l ++ [⟨x, w⟩])) n (l.length + 1) = (okb (pnd l) (pwh l) n l.length && (decide (0 ≤ x ∧ x < n) && (decide (since (pnd l) (pwh l) x l.length < 0 ↔ w = 2) && decide (w = 0 ∨ w = 1 ∨ w = 2)))) := by
  rw [okb, ← okb_congr n l.length (app_cong l x w (Nat.le_refl _)), pnd_last, pwh_last, since_app l x w x (Nat.le_refl _)]
theorem upf_one (a : Int) (p : Nat) (hp : p ≤ l.length) (h : x = a → w = 0) : upf (pnd (l ++ [⟨x, w⟩])) (pwh (l ++ [⟨x, w⟩])) a p (l.length + 1) = upf (pnd l) (pwh l) a p l.length := by
  unfold upf
  rw [since_one]
  by_cases e : x = a
  · have := h e
    rw [if_pos e, if_neg (by omega), if_neg (by omega)]
  · rw [if_neg e]
end
/-- The past, where a beat is added: what was so of ticks between elder places. -/
theorem K2_beat {t : Int} {s s' : St} {x w : Int} (hb : s'.beats = s.beats ++ [⟨x, w⟩]) {p : Pap} {r : Nat} (h : s.K2 t p r) : s'.K2 t p r := by
  obtain ⟨u, q, h1, h2, h3, h4, h5⟩ := h
  unfold St.nd St.wh at h4 h5
  refine ⟨u, q, h1, h2, by rw [hb]; simp; omega, ?_, ?_⟩
  · unfold St.nd St.wh
    rw [hb, upf_app _ _ _ _ _ h3]
    exact h4
  · unfold St.nd St.wh
    rw [hb, tk_app _ _ _ _ h3, tk_app _ _ _ _ (show u ≤ s.beats.length by omega)]
    exact h5
theorem K2_same {t : Int} {s s' : St} (hb : s'.beats = s.beats) {p : Pap} {r : Nat} (h : s.K2 t p r) : s'.K2 t p r := by
  unfold St.K2 St.nd St.wh at *
  rw [hb]
  exact h
/-- A paper of a node of which nothing has changed but that others' beats, or a tick of its own, were added. -/
theorem At_beat {s s' : St} {x w : Int} (hb : s'.beats = s.beats ++ [⟨x, w⟩]) {p : Pap} {r : Nat} (h : s.At p r) (hl : s'.lf p.f0 = s.lf p.f0) (hu : s'.isup p.f0 = true → s.isup p.f0 = true ∧ (x = p.f0 → w = 0) ∧ s'.clk p.f0 = s.clk p.f0 + if x = p.f0 then 1 else 0) : s'.At p r := by
  obtain ⟨h1, h2, h3⟩ := h
  refine ⟨by rw [hb]; simp; omega, by rw [hl]; exact h2, fun e1 e2 => ?_⟩
  obtain ⟨u1, u2, u3⟩ := hu e2
  obtain ⟨h4, h5⟩ := h3 (by rw [← hl]; exact e1) u1
  unfold St.nd St.wh at *
  rw [hb, List.length_append, List.length_singleton, upf_one _ _ _ _ _ h1 u2, tk_one, tk_app _ _ _ _ h1, u3]
  refine ⟨h4, ?_⟩
  by_cases e : x = p.f0
  · rw [if_pos e, if_pos ⟨e, u2 e⟩]
    omega
  · rw [if_neg e, if_neg (fun q => e q.1)]
    omega
theorem At_rise {s s' : St} {x w : Int} (hb : s'.beats = s.beats ++ [⟨x, w⟩]) {p : Pap} {r : Nat} (h : s.At p r) (hl : s'.lf p.f0 = s.lf p.f0 + 1) : s'.At p r := by
  obtain ⟨h1, h2, h3⟩ := h
  exact ⟨by rw [hb]; simp; omega, by rw [hl]; omega, fun e1 => by rw [hl] at e1; omega⟩
theorem At_same {s s' : St} (hb : s'.beats = s.beats) (hl : s'.life = s.life) (hu : s'.up = s.up) (hc : s'.clock = s.clock) {p : Pap} {r : Nat} (h : s.At p r) : s'.At p r := by
  unfold St.At St.nd St.wh St.lf St.isup St.clk at *
  rw [hb, hl, hu, hc]
  exact h
/-- A voter of whom nothing has changed but that others' beats, or a tick of its own, were added. -/
theorem K1_beat {t : Int} {s s' : St} {x w : Int} (hb : s'.beats = s.beats ++ [⟨x, w⟩]) {p : Pap} {r : Nat} (h : s.K1 t p r) (hv : s'.vo p.f1 = s.vo p.f1) (hu : s'.isup p.f1 = true → s.isup p.f1 = true ∧ (x = p.f1 → w = 0) ∧ s'.clk p.f1 = s.clk p.f1 + if x = p.f1 then 1 else 0) : s'.K1 t p r := by
  obtain ⟨h1, h2⟩ := h
  refine ⟨by rw [hv]; exact h1, fun e2 => ?_⟩
  obtain ⟨u1, u2, u3⟩ := hu e2
  obtain ⟨u, q1, q2, q3, q4⟩ := h2 u1
  refine ⟨u, q1, by rw [hb]; simp; omega, ?_, ?_⟩
  · unfold St.nd St.wh at *
    rw [hb, List.length_append, List.length_singleton, upf_one _ _ _ _ _ q2 u2]
    exact q3
  · unfold St.nd St.wh at *
    rw [hb, List.length_append, List.length_singleton, tk_one, tk_app _ _ _ _ q2, u3, hv]
    by_cases e : x = p.f1
    · rw [if_pos e, if_pos ⟨e, u2 e⟩]
      omega
    · rw [if_neg e, if_neg (fun q => e q.1)]
      omega
section
variable {t : Int} {n i : Nat} {s : St} (hd : Bd t n i s) (hg : Gh t n s)
include hd hg
omit hd hg in
theorem tick_isup (a b : Int) : (s.tick a).isup b = s.isup b := rfl
omit hg in
theorem tick_clk {a b : Int} (ha : isn n a) (hb : isn n b) : (s.tick a).clk b = s.clk b + if a = b then 1 else 0 := by
  have e : (s.tick a).clk b = if b = a then s.clk a + 1 else s.clk b := getD_set ha.1 hb.1 (by rw [hd.lc]; exact ha.2)
  rw [e]
  by_cases h : b = a
  · subst h
    rw [if_pos rfl, if_pos rfl]
  · rw [if_neg h, if_neg (fun q => h q.symm), Int.add_zero]
omit hg in
theorem fall_isup {a b : Int} (ha : isn n a) (hb : isn n b) : (s.fall a).isup b = if b = a then false else s.isup b := getD_set ha.1 hb.1 (by rw [hd.lu]; exact ha.2)
omit hg in
theorem rise_isup {a b : Int} (ha : isn n a) (hb : isn n b) : (s.rise t n a).isup b = if b = a then true else s.isup b := getD_set ha.1 hb.1 (by rw [hd.lu]; exact ha.2)
omit hg in
theorem rise_clk {a b : Int} (ha : isn n a) (hb : isn n b) : (s.rise t n a).clk b = if b = a then 0 else s.clk b := getD_set ha.1 hb.1 (by rw [hd.lc]; exact ha.2)
omit hg in
theorem rise_lf {a b : Int} (ha : isn n a) (hb : isn n b) : (s.rise t n a).lf b = if b = a then s.lf a + 1 else s.lf b := getD_set ha.1 hb.1 (by rw [hd.ll]; exact ha.2)
omit hg in
theorem rise_vo {a b : Int} (ha : isn n a) (hb : isn n b) : (s.rise t n a).vo b = if b = a then ⟨(s.vo a).f0, (s.vo a).f1, 0, t⟩ else s.vo b := getD_set ha.1 hb.1 (by rw [hd.lv]; exact ha.2)
omit hg in
theorem rise_ld {a b : Int} (ha : isn n a) (hb : isn n b) : (s.rise t n a).ld b = if b = a then ⟨0, none_ n⟩ else s.ld b := getD_set ha.1 hb.1 (by rw [hd.lld]; exact ha.2)
theorem Gh.tick {a : Int} (ha : isn n a) (hu : s.isup a = true) : Gh t n (s.tick a) where
  ok := by
    have h1 := (hg.up a ha).1 hu
    have h2 := hg.ok
    unfold St.nd St.wh at *
    show okb (pnd (s.beats ++ [⟨a, 0⟩])) (pwh (s.beats ++ [⟨a, 0⟩])) (n : Int) (s.beats ++ ([⟨a, 0⟩] : List S106)).length = true
    rw [List.length_append, List.length_singleton, okb_one, h2, decide_eq_true (show 0 ≤ a ∧ a < (n : Int) from ha), decide_eq_true (show since (pnd s.beats) (pwh s.beats) a s.beats.length < 0 ↔ (0 : Int) = 2 from ⟨fun q => by omega, fun q => by omega⟩)]
    rfl
  up := fun b hb => by
    have h1 := hg.up b hb
    unfold St.nd St.wh at *
    show s.isup b = true ↔ 0 ≤ since (pnd (s.beats ++ [⟨a, 0⟩])) (pwh (s.beats ++ [⟨a, 0⟩])) b (s.beats ++ ([⟨a, 0⟩] : List S106)).length
    rw [List.length_append, List.length_singleton, since_one, if_neg (c := (0 : Int) = 1) (by omega), if_neg (c := (0 : Int) = 2) (by omega), ite_self]
    exact h1
  rq := fun p hp => by
    obtain ⟨r, h1⟩ := hg.rq p hp
    exact ⟨r, At_beat (x := a) (w := 0) rfl h1 rfl (fun e => ⟨e, fun _ => rfl, tick_clk hd ha (hd.rq p hp).fr⟩)⟩
  gr := fun p hp => by
    obtain ⟨r, h1, h2⟩ := hg.gr p hp
    refine ⟨r, At_beat (x := a) (w := 0) rfl h1 rfl (fun e => ⟨e, fun _ => rfl, tick_clk hd ha (hd.gr p hp).fr⟩), ?_⟩
    rcases h2 with h2 | h2
    · exact .inl (K1_beat (x := a) (w := 0) rfl h2 rfl (fun e => ⟨e, fun _ => rfl, tick_clk hd ha (hd.gr p hp).to_⟩))
    · exact .inr (K2_beat rfl h2)
  ask := hg.ask
theorem Gh.fall {a : Int} (ha : isn n a) (hu : s.isup a = true) : Gh t n (s.fall a) where
  ok := by
    have h1 := (hg.up a ha).1 hu
    have h2 := hg.ok
    unfold St.nd St.wh at *
    show okb (pnd (s.beats ++ [⟨a, 1⟩])) (pwh (s.beats ++ [⟨a, 1⟩])) (n : Int) (s.beats ++ ([⟨a, 1⟩] : List S106)).length = true
    rw [List.length_append, List.length_singleton, okb_one, h2, decide_eq_true (show 0 ≤ a ∧ a < (n : Int) from ha), decide_eq_true (show since (pnd s.beats) (pwh s.beats) a s.beats.length < 0 ↔ (1 : Int) = 2 from ⟨fun q => by omega, fun q => by omega⟩)]
    rfl
  up := fun b hb => by
    have h1 := hg.up b hb
    rw [fall_isup hd ha hb]
    unfold St.nd St.wh at *
    show _ ↔ 0 ≤ since (pnd (s.beats ++ [⟨a, 1⟩])) (pwh (s.beats ++ [⟨a, 1⟩])) b (s.beats ++ ([⟨a, 1⟩] : List S106)).length
    rw [List.length_append, List.length_singleton, since_one]
    by_cases e : b = a
    · rw [if_pos e, if_pos e.symm, if_pos rfl]
      exact ⟨fun q => Bool.noConfusion q, fun q => by omega⟩
    · rw [if_neg e, if_neg (fun q => e q.symm)]
      exact h1
  rq := fun p hp => by
    obtain ⟨r, h1⟩ := hg.rq p hp
    refine ⟨r, At_beat (x := a) (w := 1) rfl h1 rfl (fun e => ?_)⟩
    rw [fall_isup hd ha (hd.rq p hp).fr] at e
    by_cases q : p.f0 = a
    · rw [if_pos q] at e
      cases e
    · rw [if_neg q] at e
      exact ⟨e, fun q2 => absurd q2.symm q, by rw [if_neg (fun q2 => q q2.symm), Int.add_zero]; rfl⟩
  gr := fun p hp => by
    obtain ⟨r, h1, h2⟩ := hg.gr p hp
    refine ⟨r, At_beat (x := a) (w := 1) rfl h1 rfl (fun e => ?_), ?_⟩
    · rw [fall_isup hd ha (hd.gr p hp).fr] at e
      by_cases q : p.f0 = a
      · rw [if_pos q] at e
        cases e
      · rw [if_neg q] at e
        exact ⟨e, fun q2 => absurd q2.symm q, by rw [if_neg (fun q2 => q q2.symm), Int.add_zero]; rfl⟩
    · rcases h2 with h2 | h2
      · refine .inl (K1_beat (x := a) (w := 1) rfl h2 rfl (fun e => ?_))
        rw [fall_isup hd ha (hd.gr p hp).to_] at e
        by_cases q : p.f1 = a
        · rw [if_pos q] at e
          cases e
        · rw [if_neg q] at e
          exact ⟨e, fun q2 => absurd q2.symm q, by rw [if_neg (fun q2 => q q2.symm), Int.add_zero]; rfl⟩
      · exact .inr (K2_beat rfl h2)
  ask := hg.ask
theorem Gh.rise (ht : 0 ≤ t) {a : Int} (ha : isn n a) (hu : s.isup a = false) : Gh t n (s.rise t n a) where
  ok := by
    have h1 : ¬0 ≤ since s.nd s.wh a s.beats.length := fun q => by rw [(hg.up a ha).2 q] at hu; cases hu
    have h2 := hg.ok
    unfold St.nd St.wh at *
    show okb (pnd (s.beats ++ [⟨a, 2⟩])) (pwh (s.beats ++ [⟨a, 2⟩])) (n : Int) (s.beats ++ ([⟨a, 2⟩] : List S106)).length = true
    rw [List.length_append, List.length_singleton, okb_one, h2, decide_eq_true (show 0 ≤ a ∧ a < (n : Int) from ha), decide_eq_true (show since (pnd s.beats) (pwh s.beats) a s.beats.length < 0 ↔ (2 : Int) = 2 from ⟨fun q => rfl, fun q => by omega⟩)]
    rfl
  up := fun b hb => by
    have h1 := hg.up b hb
    rw [rise_isup hd ha hb]
    unfold St.nd St.wh at *
    show _ ↔ 0 ≤ since (pnd (s.beats ++ [⟨a, 2⟩])) (pwh (s.beats ++ [⟨a, 2⟩])) b (s.beats ++ ([⟨a, 2⟩] : List S106)).length
    rw [List.length_append, List.length_singleton, since_one]
    by_cases e : b = a
    · rw [if_pos e, if_pos e.symm, if_neg (by omega), if_pos rfl]
      exact ⟨fun _ => by omega, fun _ => rfl⟩
    · rw [if_neg e, if_neg (fun q => e q.symm)]
      exact h1
  rq := fun p hp => by
    obtain ⟨r, h1⟩ := hg.rq p hp
    refine ⟨r, ?_⟩
    by_cases q : p.f0 = a
    · exact At_rise (x := a) (w := 2) rfl h1 (by rw [rise_lf hd ha (hd.rq p hp).fr, if_pos q, q])
    · refine At_beat (x := a) (w := 2) rfl h1 (by rw [rise_lf hd ha (hd.rq p hp).fr, if_neg q]) (fun e => ?_)
      rw [rise_isup hd ha (hd.rq p hp).fr, if_neg q] at e
      exact ⟨e, fun q2 => absurd q2.symm q, by rw [if_neg (fun q2 => q q2.symm), Int.add_zero, rise_clk hd ha (hd.rq p hp).fr, if_neg q]⟩
  gr := fun p hp => by
    obtain ⟨r, h1, h2⟩ := hg.gr p hp
    refine ⟨r, ?_, ?_⟩
    · by_cases q : p.f0 = a
      · exact At_rise (x := a) (w := 2) rfl h1 (by rw [rise_lf hd ha (hd.gr p hp).fr, if_pos q, q])
      · refine At_beat (x := a) (w := 2) rfl h1 (by rw [rise_lf hd ha (hd.gr p hp).fr, if_neg q]) (fun e => ?_)
        rw [rise_isup hd ha (hd.gr p hp).fr, if_neg q] at e
        exact ⟨e, fun q2 => absurd q2.symm q, by rw [if_neg (fun q2 => q q2.symm), Int.add_zero, rise_clk hd ha (hd.gr p hp).fr, if_neg q]⟩
    · rcases h2 with h2 | h2
      · by_cases q : p.f1 = a
        · have hv : (s.rise t n a).vo p.f1 = ⟨(s.vo a).f0, (s.vo a).f1, 0, t⟩ := by rw [rise_vo hd ha (hd.gr p hp).to_, if_pos q]
          have hc : (s.rise t n a).clk p.f1 = 0 := by rw [rise_clk hd ha (hd.gr p hp).to_, if_pos q]
          have hlen : (s.rise t n a).beats.length = s.beats.length + 1 := by simp [St.rise]
          refine .inl ⟨by rw [hv, ← h2.1, q], fun _ => ⟨s.beats.length + 1, by have := h1.1; omega, by rw [hlen]; exact Nat.le_refl _, ?_, ?_⟩⟩
          · show upf (pnd (s.beats ++ [⟨a, 2⟩])) (pwh (s.beats ++ [⟨a, 2⟩])) p.f1 _ _ = true
            rw [hlen]
            unfold upf
            rw [since_one, if_pos q.symm, if_neg (by omega), if_pos rfl, decide_eq_true_eq]
            omega
          · rw [hv, hc, hlen, Int.sub_self]
            simp only
            omega
        · refine .inl (K1_beat (x := a) (w := 2) rfl h2 (by rw [rise_vo hd ha (hd.gr p hp).to_, if_neg q]) (fun e => ?_))
          rw [rise_isup hd ha (hd.gr p hp).to_, if_neg q] at e
          exact ⟨e, fun q2 => absurd q2.symm q, by rw [if_neg (fun q2 => q q2.symm), Int.add_zero, rise_clk hd ha (hd.gr p hp).to_, if_neg q]⟩
      · exact .inr (K2_beat rfl h2)
  ask := fun b hb v hv h => by
    rw [rise_ld hd ha hb] at h ⊢
    rw [rise_lf hd ha hb]
    by_cases q : b = a
    · rw [if_pos q] at h
      unfold none_ at h
      rw [List.getD_eq_getElem?_getD, List.getElem?_replicate] at h
      have : v.toNat < n := by unfold isn at hv; omega
      rw [if_pos this] at h
      simp at h
    · rw [if_neg q] at h ⊢
      rw [if_neg q]
      exact hg.ask b hb v hv h
theorem Gh.start {a : Int} (ha : isn n a) : Gh t n (s.start n a) where
  ok := hg.ok
  up := hg.up
  rq := hg.rq
  gr := hg.gr
  ask := fun b hb v hv h => by
    have e : (s.start n a).ld b = if b = a then ⟨s.top + 1, none_ n⟩ else s.ld b := getD_set ha.1 hb.1 (by rw [hd.lld]; exact ha.2)
    rw [e] at h ⊢
    by_cases q : b = a
    · rw [if_pos q] at h
      unfold none_ at h
      rw [List.getD_eq_getElem?_getD, List.getElem?_replicate] at h
      have : v.toNat < n := by unfold isn at hv; omega
      rw [if_pos this] at h
      simp at h
    · rw [if_neg q] at h ⊢
      exact hg.ask b hb v hv h
omit hd in
theorem since_here {a : Int} (ha : isn n a) (hu : s.isup a = true) : upf s.nd s.wh a s.beats.length s.beats.length = true := by
  have h1 := (hg.up a ha).1 hu
  have h2 := since_rng s.nd s.wh a s.beats.length
  unfold upf
  rw [decide_eq_true_eq]
  omega
omit hd in
theorem Gh.ask_ {a : Int} (ha : isn n a) (hu : s.isup a = true) : Gh t n (s.ask n a) where
  ok := hg.ok
  up := hg.up
  rq := fun p hp => by
    rcases List.mem_append.1 hp with hp | hp
    · exact hg.rq p hp
    · unfold St.paps at hp
      rw [List.mem_map] at hp
      obtain ⟨k, hk, rfl⟩ := hp
      exact ⟨s.beats.length, Nat.le_refl _, Int.le_refl _, fun _ _ => ⟨since_here hg ha hu, by rw [show (s.ask n a).beats.length = s.beats.length from rfl, Int.sub_self]; exact Int.sub_self _⟩⟩
  gr := hg.gr
  ask := hg.ask
theorem Gh.grant {p : Pap} (hp : p ∈ s.reqs) (hu : s.isup p.f1 = true) (hb : bars (s.vo p.f1).f0 (s.vo p.f1).f1 (s.vo p.f1).f2 (s.vo p.f1).f3 p.f0 p.f2 (s.clk p.f1) = false) : Gh t n (s.grant t p) where
  ok := hg.ok
  up := hg.up
  rq := hg.rq
  gr := fun q hq => by
    have ho := hd.rq p hp
    have ev : ∀ b, 0 ≤ b → (s.grant t p).vo b = if b = p.f1 then ⟨p.f2, p.f0, s.clk p.f1 + t, (s.vo p.f1).f3⟩ else s.vo b := fun b h => getD_set ho.to_.1 h (by rw [hd.lv]; exact ho.to_.2)
    have k1 : ∀ (q : Pap) (r : Nat), q.f0 = p.f0 → q.f1 = p.f1 → r ≤ s.beats.length → (s.grant t p).K1 t q r := fun q r e1 e2 hr => by
      refine ⟨by rw [ev _ (by rw [e2]; exact ho.to_.1), if_pos e2, e1], fun _ => ⟨s.beats.length, hr, Nat.le_refl _, ?_, ?_⟩⟩
      · rw [e2]
        exact since_here hg ho.to_ hu
      · rw [ev _ (by rw [e2]; exact ho.to_.1), if_pos e2, e2]
        show s.clk p.f1 - (tk s.nd s.wh p.f1 s.beats.length - tk s.nd s.wh p.f1 s.beats.length) + t ≤ max (s.clk p.f1 + t) _
        omega
    rcases List.mem_append.1 hq with hq | hq
    · obtain ⟨r, h1, h2⟩ := hg.gr q hq
      refine ⟨r, h1, ?_⟩
      rcases h2 with h2 | h2
      · by_cases e : q.f1 = p.f1
        · by_cases e2 : q.f0 = p.f0
          · exact .inl (k1 q r e2 e h1.1)
          · obtain ⟨w1, w2⟩ := h2
            rw [e] at w1 w2
            obtain ⟨u, y1, y2, y3, y4⟩ := w2 hu
            unfold bars bar0 bar1 bar2 bar3 barO at hb
            simp only [Bool.or_eq_false_iff, decide_eq_false_iff_not, Bool.and_eq_false_iff, beq_eq_false_iff_ne, bne_eq_false_iff_eq] at hb
            obtain ⟨⟨⟨b0, b1, b2⟩, b3⟩, b4⟩ := hb
            have hfr := (hd.gr q hq).fr.1
            refine .inr ⟨u, s.beats.length, y1, y2, Nat.le_refl _, by rw [e]; exact y3, ?_⟩
            show t ≤ tk s.nd s.wh q.f1 s.beats.length - tk s.nd s.wh q.f1 u
            rw [e]
            rcases b4 with b4 | b4 | b4 <;> omega
        · refine .inl ⟨by rw [ev _ (hd.gr q hq).to_.1, if_neg e]; exact h2.1, fun hu2 => ?_⟩
          rw [ev _ (hd.gr q hq).to_.1, if_neg e]
          exact h2.2 hu2
      · exact .inr h2
    · rw [List.mem_singleton.1 hq]
      obtain ⟨r, h1⟩ := hg.rq p hp
      exact ⟨r, h1, .inl (k1 p r rfl rfl h1.1)⟩
  ask := fun b hb2 v hv h => by
    obtain ⟨q, h1, h2⟩ := hg.ask b hb2 v hv h
    exact ⟨q, List.mem_append_left _ h1, h2⟩
theorem Gh.got {p : Pap} (hp : p ∈ s.grs) (hl : s.lf p.f0 = p.f4) : Gh t n (s.got p) where
  ok := hg.ok
  up := hg.up
  rq := hg.rq
  gr := hg.gr
  ask := fun b hb v hv h => by
    have ho := hd.gr p hp
    have e : (s.got p).ld b = if b = p.f0 then ⟨(s.ld p.f0).f0, gra (s.ld p.f0).f1 p.f1.toNat p.f3⟩ else s.ld b := getD_set ho.fr.1 hb.1 (by rw [hd.lld]; exact ho.fr.2)
    rw [e] at h ⊢
    by_cases q : b = p.f0
    · subst q
      rw [if_pos rfl] at h ⊢
      simp only at h ⊢
      have hto : p.f1.toNat < (s.ld p.f0).f1.length := by rw [(hd.ld p.f0 hb).2.1]; have := ho.to_; unfold isn at this; omega
      rw [gra_get _ _ _ _ hto] at h ⊢
      by_cases q2 : v.toNat = p.f1.toNat
      · have q3 : v = p.f1 := by have := hv.1; have := ho.to_.1; omega
        rw [if_pos q2] at h ⊢
        by_cases q4 : (s.ld p.f0).f1.getD p.f1.toNat 0 ≤ p.f3
        · exact ⟨p, hp, rfl, q3.symm, by omega, hl.symm⟩
        · obtain ⟨q5, h1, h2, h3, h4, h5⟩ := hg.ask p.f0 hb v hv (by rw [q2]; have := ho.asked; omega)
          exact ⟨q5, h1, h2, h3, by rw [h4, q2]; omega, h5⟩
      · rw [if_neg q2] at h ⊢
        exact hg.ask p.f0 hb v hv h
    · rw [if_neg q] at h ⊢
      exact hg.ask b hb v hv h
end
/-- Does it lead? -/
def St.val (s : St) (t d r : Int) (n : Nat) (a : Int) : Prop := s.isup a = true ∧ 0 ≤ thr (s.ld a).f1 (maj n) ∧ s.clk a < thr (s.ld a).f1 (maj n) + ((hold t d r : Nat) : Int)
/-- Two majorities have one in common. -/
theorem both_have : ∀ (a b : List Int) (x y : Int), a.length = b.length → a.length < a.countP (fun z => decide (x ≤ z)) + b.countP (fun z => decide (y ≤ z)) → ∃ i : Nat, i < a.length ∧ x ≤ a.getD i 0 ∧ y ≤ b.getD i 0
  | [], [], _, _, _, h => by simp at h
  | [], _ :: _, _, _, h, _ => by simp at h
  | _ :: _, [], _, _, h, _ => by simp at h
  | u :: a, v :: b, x, y, hl, h => by
    by_cases h1 : x ≤ u ∧ y ≤ v
    · exact ⟨0, by simp, by simpa using h1.1, by simpa using h1.2⟩
    · have ih := both_have a b x y (by simpa using hl)
      rw [List.countP_cons, List.countP_cons, List.length_cons] at h
      simp only [decide_eq_true_eq] at h
      obtain ⟨i, h2, h3, h4⟩ := ih (by
        by_cases h5 : x ≤ u
        · rw [if_pos h5, if_neg (fun q => h1 ⟨h5, q⟩)] at h
          omega
        · rw [if_neg h5] at h
          split at h <;> omega)
      exact ⟨i + 1, by simp; omega, by simpa using h3, by simpa using h4⟩
/-- One that had Term ticks where another one that leads had less than a hold: clocks aren't near. -/
theorem far_apart {t d r : Int} (hm : mayt t d r) {n : Nat} {s : St} (hg : Gh t n s) (hn : ∀ q, q ≤ s.beats.length → nearAt s.nd s.wh d r n q = true) {p : Pap} {R : Nat} (hf : isn n p.f0) (hv : isn n p.f1) (hA : s.At p R) (hl : p.f4 = s.lf p.f0) (hu : s.isup p.f0 = true) (hk : s.clk p.f0 < p.f3 + ((hold t d r : Nat) : Int)) (h2 : s.K2 t p R) : False := by
  obtain ⟨u, q, g1, g2, g3, g4, g5⟩ := h2
  obtain ⟨a1, _, a2⟩ := hA
  obtain ⟨a3, a4⟩ := a2 hl hu
  obtain ⟨m1, m2, m3, m4, m5, m6, m7⟩ := hm
  have hw : ∀ i, i < s.beats.length → s.wh i = 0 ∨ s.wh i = 1 ∨ s.wh i = 2 := fun i hi => (okb_at s.nd s.wh hg.ok hi).2.2.2
  have hfu : upf s.nd s.wh p.f0 u q = true := upf_to s.nd s.wh hw (upf_from s.nd s.wh a3 g1) g2 g3 |> fun h => h
  have t1 := (tk_mono s.nd s.wh p.f0 R (u - R)).1
  have t2 := (tk_mono s.nd s.wh p.f0 u (q - u)).1
  have t3 := (tk_mono s.nd s.wh p.f0 q (s.beats.length - q)).1
  rw [show R + (u - R) = u by omega] at t1
  rw [show u + (q - u) = q by omega] at t2
  rw [show q + (s.beats.length - q) = s.beats.length by omega] at t3
  have hle := hold_le (t := t) (d := d) (r := r) (by omega) m3 m5
  have hx : tk s.nd s.wh p.f0 q - tk s.nd s.wh p.f0 u < ((hold t d r : Nat) : Int) := by omega
  have hx0 : 0 ≤ tk s.nd s.wh p.f0 q - tk s.nd s.wh p.f0 u := by omega
  by_cases e : p.f0 = p.f1
  · rw [← e] at g5
    omega
  · have hT : two s.nd s.wh d r p.f0 p.f1 u q = true := by
      have h1 := (nearAt_iff s.nd s.wh d r n q).1 (hn q g3)
      by_cases e2 : p.f1 < p.f0
      · have := h1 p.f0.toNat p.f1.toNat u (by unfold isn at hf; omega) (by unfold isn at hf hv; omega) g2
        rwa [Int.toNat_of_nonneg hf.1, Int.toNat_of_nonneg hv.1] at this
      · have := h1 p.f1.toNat p.f0.toNat u (by unfold isn at hv; omega) (by unfold isn at hf hv; omega) g2
        rw [Int.toNat_of_nonneg hf.1, Int.toNat_of_nonneg hv.1] at this
        rw [two_comm]
        exact this
    unfold two at hT
    rw [hfu, g4, Bool.and_self, Bool.not_true, Bool.false_or, decide_eq_true_eq] at hT
    generalize tk s.nd s.wh p.f0 q - tk s.nd s.wh p.f0 u = x at *
    generalize tk s.nd s.wh p.f1 q - tk s.nd s.wh p.f1 u = y at *
    have hmy : many t d r x.toNat = false := hold_false (by omega)
    unfold many at hmy
    rw [decide_eq_false_iff_not, Int.toNat_of_nonneg hx0, Int.tdiv_eq_ediv_of_nonneg hx0] at hmy
    have hmn : min x y = x := by omega
    have hmx : max x y = y := by omega
    rw [hmn, hmx] at hT
    omega
theorem one_leads {t d r : Int} (hm : mayt t d r) {n i : Nat} (hn1 : 1 ≤ n) {s : St} (hd : Bd t n i s) (hg : Gh t n s) (hn : ∀ q, q ≤ s.beats.length → nearAt s.nd s.wh d r n q = true) {a b : Int} (ha : isn n a) (hb : isn n b) (hab : a ≠ b) (va : s.val t d r n a) (vb : s.val t d r n b) : False := by
  obtain ⟨u1, u2, u3⟩ := va
  obtain ⟨v1, v2, v3⟩ := vb
  have la := (hd.ld a ha).2.1
  have lb := (hd.ld b hb).2.1
  have ca := thr_many (s.ld a).f1 (maj n) (by unfold maj; omega) (by unfold maj; omega)
  have cb := thr_many (s.ld b).f1 (maj n) (by unfold maj; omega) (by unfold maj; omega)
  obtain ⟨v, h1, h2, h3⟩ := both_have (s.ld a).f1 (s.ld b).f1 (thr (s.ld a).f1 (maj n)) (thr (s.ld b).f1 (maj n)) (by omega) (by unfold maj at *; omega)
  have hv : isn n (v : Int) := ⟨by omega, by omega⟩
  obtain ⟨p, p1, p2, p3, p4, p5⟩ := hg.ask a ha (v : Int) hv (by rw [Int.toNat_natCast]; omega)
  obtain ⟨q, q1, q2, q3, q4, q5⟩ := hg.ask b hb (v : Int) hv (by rw [Int.toNat_natCast]; omega)
  rw [Int.toNat_natCast] at p4 q4
  obtain ⟨R, pA, pk⟩ := hg.gr p p1
  obtain ⟨R', qA, qk⟩ := hg.gr q q1
  rcases pk with pk | pk
  · rcases qk with qk | qk
    · have e1 := pk.1
      have e2 := qk.1
      rw [p3, p2] at e1
      rw [q3, q2, e1] at e2
      exact hab e2
    · exact far_apart hm hg hn (hd.gr q q1).fr (hd.gr q q1).to_ qA (by rw [q5, q2]) (by rw [q2]; exact v1) (by rw [q2]; omega) qk
  · exact far_apart hm hg hn (hd.gr p p1).fr (hd.gr p p1).to_ pA (by rw [p5, p2]) (by rw [p2]; exact u1) (by rw [p2]; omega) pk
end Go.Proofs.Ytgfblogneggpmaa.One
namespace Go.Proofs.Ytgfblogneggpmaa.One
open Go.RowKit Go.Proofs.Ytgfblogneggpmaa.Fn Go.Proofs.YtgfblogneggpmaaW.PrintWords Go.Proofs.YtgfblogneggpmaaW.PrintLast Go.Proofs.YtgfblogneggpmaaW.PrintMore Go.Proofs.Ytgfblogneggpmaa.Vote Go.Proofs.Ytgfblogneggpmaa.Clk Go.Proofs.Ytgfblogneggpmaa.Thr
set_option linter.unusedVariables false
/-- A lead in its row: its epoch, and where its list lies. -/
abbrev Raw := Int × (Option Addr × Nat × Nat)
def zraw : Raw := (0, none, 0, 0)
/-- The list's value. -/
def Raw.v (x : Raw) : Value := .slice x.2.1 x.2.2.1 x.2.2.2
def kraw : Kd Raw := Kd.pair (Kd.int .u64) (Kd.scalar (fun x : Option Addr × Nat × Nat => Value.slice x.1 x.2.1 x.2.2) (fun _ => rfl))
theorem kraw_openM {w : World} {base : Nat} {ok : Nat → Prop} {x : Raw} {cs : List Value} (h : kraw.M w base ok x cs) : cs = [.int .u64 x.1, x.v] := by
  obtain ⟨c0, c1, rfl, h0, h1⟩ := h
  rw [show c0 = [Value.int .u64 x.1] from h0, show c1 = [x.v] from h1]
  rfl
theorem kraw_mkM (w : World) (base : Nat) (ok : Nat → Prop) (x : Raw) : kraw.M w base ok x [.int .u64 x.1, x.v] := ⟨[.int .u64 x.1], [x.v], rfl, rfl, rfl⟩
/-- The rows' values. -/
structure NV where
  raw : List Raw
  c : Value
  l : Value
  u : Value
  v : Value
  d : Value
  r : Value
  g : Value
  b : Value
/-- The rows lie in memory, each in blocks of its own (tag 1 to 8); blocks that were there, of no row (tag 0), are as they were in world W0. -/
structure Nw (w0 : World) (B : Nat) (W0 : World) (t0 : Nat → Nat) (W : World) (tag : Nat → Nat) (x : NV) (s : St) : Prop where
  c : (Kd.int .i64).R 2 W B (fun k => tag k = 1) x.c s.clock
  l : (Kd.int .i64).R 3 W B (fun k => tag k = 2) x.l s.life
  u : Kd.bool.R 4 W B (fun k => tag k = 3) x.u s.up
  v : k38.R 38 W B (fun k => tag k = 4) x.v s.votes
  d : kraw.R 52 W B (fun k => tag k = 5) x.d x.raw
  r : k116.R 116 W B (fun k => tag k = 6) x.r s.reqs
  g : k116.R 116 W B (fun k => tag k = 7) x.g s.grs
  b : k106.R 106 W B (fun k => tag k = 8) x.b s.beats
  dl : x.raw.length = s.leads.length
  dv : ∀ j : Nat, j < s.leads.length → (x.raw.getD j zraw).1 = (s.leads.getD j z52).f0 ∧ Kd.V (Kd.int .i64) 2 W B (fun k => tag k = 9) (x.raw.getD j zraw).v (s.leads.getD j z52).f1
  bel : Below B w0 W
  base : B ≤ W.heap.size
  fresh : ∀ k, W.heap.size ≤ k → tag k = 0
  size : W0.heap.size ≤ W.heap.size
  tg : ∀ k, k < W0.heap.size → tag k = t0 k
  kp : ∀ k, k < W0.heap.size → t0 k = 0 → W.heap[k]? = W0.heap[k]?
section
variable {w0 W0 W W' : World} {B : Nat} {t0 tag : Nat → Nat} {x : NV} {s : St}
theorem Nw.move (h : Nw w0 B W0 t0 W tag x s) (hm : ∀ k, tag k ≠ 0 → k < W.heap.size → W'.heap[k]? = W.heap[k]?) (hz : ∀ k, k < W0.heap.size → t0 k = 0 → W'.heap[k]? = W.heap[k]?) (hb : Below B w0 W') (hs : W.heap.size ≤ W'.heap.size) : Nw w0 B W0 t0 W' tag x s where
  c := Kd.R_step h.c (fun k hk => hm k (by omega))
  l := Kd.R_step h.l (fun k hk => hm k (by omega))
  u := Kd.R_step h.u (fun k hk => hm k (by omega))
  v := Kd.R_step h.v (fun k hk => hm k (by omega))
  d := Kd.R_step h.d (fun k hk => hm k (by omega))
  r := Kd.R_step h.r (fun k hk => hm k (by omega))
  g := Kd.R_step h.g (fun k hk => hm k (by omega))
  b := Kd.R_step h.b (fun k hk => hm k (by omega))
  dl := h.dl
  dv := fun j hj => ⟨(h.dv j hj).1, Kd.V_step (h.dv j hj).2 (fun k hk => hm k (by omega))⟩
  bel := hb
  base := Nat.le_trans h.base hs
  fresh := fun k hk => h.fresh k (Nat.le_trans hs hk)
  size := Nat.le_trans h.size hs
  tg := h.tg
  kp := fun k hk ht => (hz k hk ht).trans (h.kp k hk ht)
theorem Nw.below (h : Nw w0 B W0 t0 W tag x s) (hb : Below W.heap.size W W') : Nw w0 B W0 t0 W' tag x s :=
  h.move (fun k _ hk => hb.block k hk) (fun k hk _ => hb.block k (Nat.lt_of_lt_of_le hk h.size)) (h.bel.trans (hb.mono h.base)) hb.size
theorem Nw.drew (h : Nw w0 B W0 t0 W tag x s) : Nw w0 B W0 t0 W.drew tag x s := h.below (below_drew (Below.refl _ _))
theorem Nw.alloc (h : Nw w0 B W0 t0 W tag x s) (o : Obj) : Nw w0 B W0 t0 (W.alloc o) tag x s := h.below (below_alloc (Below.refl _ _) o)
/-- A store into a block of no row, made since W0. -/
theorem Nw.set0 (h : Nw w0 B W0 t0 W tag x s) {g : Nat} (hg : tag g = 0) (h0 : W0.heap.size ≤ g) (hB : B ≤ g) (j : Nat) (u : Value) : Nw w0 B W0 t0 (W.setCell ⟨g, j, none⟩ u) tag x s :=
  h.move (fun k hk _ => Below.heap_setCell W ⟨g, j, none⟩ u k (fun e => hk (by rw [e]; exact hg))) (fun k hk _ => Below.heap_setCell W ⟨g, j, none⟩ u k (by simp only; omega)) (h.bel.setCell hB u) (by simp)
/-- From here on. -/
theorem Nw.anew (h : Nw w0 B W0 t0 W tag x s) : Nw w0 B W tag W tag x s := { h with size := Nat.le_refl _, tg := fun _ _ => rfl, kp := fun _ _ _ => rfl }
theorem Nw.trans {t2 : Nat → Nat} {x' : NV} {s' : St} (h : Nw w0 B W0 t0 W tag x s) (h2 : Nw w0 B W tag W' t2 x' s') : Nw w0 B W0 t0 W' t2 x' s' :=
  { h2 with size := Nat.le_trans h.size h2.size, tg := fun k hk => (h2.tg k (Nat.lt_of_lt_of_le hk h.size)).trans (h.tg k hk), kp := fun k hk ht => (h2.kp k (Nat.lt_of_lt_of_le hk h.size) (by rw [h.tg k hk]; exact ht)).trans (h.kp k hk ht) }
/-- A block of the caller's own, of no row, behind a call. -/
theorem Nw.own {t2 : Nat → Nat} {x' : NV} {s' : St} (h : Nw w0 B W tag W' t2 x' s') {g : Nat} {o : Obj} (hg : W.heap[g]? = some o) (ht : tag g = 0) : W'.heap[g]? = some o ∧ t2 g = 0 :=
  ⟨(h.kp g (blk_lt hg) ht).trans hg, (h.tg g (blk_lt hg)).trans ht⟩
/-- Blocks made from a on are of row i. -/
def ri (tag : Nat → Nat) (a b i : Nat) : Nat → Nat := fun k => if a ≤ k ∧ k < b then i else tag k
theorem ri_old {a b i j : Nat} (hf : ∀ k, a ≤ k → tag k = 0) (hj : j ≠ 0) {k : Nat} (hk : tag k = j) : ri tag a b i k = j := by
  unfold ri
  rw [if_neg (fun q => hj (by rw [← hk]; exact hf k q.1))]
  exact hk
/-- What was made since world Wb (of no row yet) is of kind i. -/
theorem Nw.retag {Wb : World} (hb : Nw w0 B W0 t0 Wb tag x s) (h : Nw w0 B W0 t0 W tag x s) (hs : Wb.heap.size ≤ W.heap.size) (i : Nat) : Nw w0 B W0 t0 W (ri tag Wb.heap.size W.heap.size i) x s := 
  { h with
    c := Kd.R_mono h.c (fun k => ri_old hb.fresh (by decide))
    l := Kd.R_mono h.l (fun k => ri_old hb.fresh (by decide))
    u := Kd.R_mono h.u (fun k => ri_old hb.fresh (by decide))
    v := Kd.R_mono h.v (fun k => ri_old hb.fresh (by decide))
    d := Kd.R_mono h.d (fun k => ri_old hb.fresh (by decide))
    r := Kd.R_mono h.r (fun k => ri_old hb.fresh (by decide))
    g := Kd.R_mono h.g (fun k => ri_old hb.fresh (by decide))
    b := Kd.R_mono h.b (fun k => ri_old hb.fresh (by decide))
    dv := fun j hj => ⟨(h.dv j hj).1, Kd.V_mono (h.dv j hj).2 (fun k => ri_old hb.fresh (by decide))⟩
    fresh := fun k hk => by
      unfold ri
      rw [if_neg (by omega)]
      exact h.fresh k hk
    tg := fun k hk => by
      unfold ri
      rw [if_neg (by have := hb.size; omega)]
      exact h.tg k hk }
/-- Another row, where row i (value v) has grown. -/
theorem other {α : Type} {dk : Kd α} {e i j : Nat} {u v : Value} {xs : List α} (h : dk.R e W B (fun k => tag k = j) u xs) (hij : j ≠ i) (hv : ∀ k, v.ownBlock = some k → tag k = i) (hg : W.grownBy W' v.ownBlock) : dk.R e W' B (fun k => ri tag W.heap.size W'.heap.size i k = j) u xs := by
  have h1 := Kd.R_bound h
  refine Kd.R_mono (Kd.R_move h1 (fun k hk => hg.block k hk.2.2.1 (fun e2 => hij (by rw [← hk.1]; exact hv k e2.symm)))) (fun k hk => ?_)
  unfold ri
  rw [if_neg (fun e2 => by have := hk.2.2.1; omega)]
  exact hk.1
/-- A list that is read, where row i has grown. -/
theorem otherV {i j : Nat} {u v : Value} {xs : List Int} (h : Kd.V (Kd.int .i64) 2 W B (fun k => tag k = j) u xs) (hij : j ≠ i) (hv : ∀ k, v.ownBlock = some k → tag k = i) (hg : W.grownBy W' v.ownBlock) : Kd.V (Kd.int .i64) 2 W' B (fun k => ri tag W.heap.size W'.heap.size i k = j) u xs := by
  have h1 := Kd.V_bound h
  refine Kd.V_mono (Kd.V_step h1 (fun k hk _ => hg.block k hk.2 (fun e2 => hij (by rw [← hk.1]; exact hv k e2.symm)))) (fun k hk => ?_)
  unfold ri
  rw [if_neg (fun e2 => by have := hk.2; omega)]
  exact hk.1
/-- The row itself. -/
theorem self_ {α : Type} {dk : Kd α} {e i : Nat} {v1 : Value} {xs : List α} (h : dk.R e W' B (fun k => tag k = i ∨ W.heap.size ≤ k) v1 xs) : dk.R e W' B (fun k => ri tag W.heap.size W'.heap.size i k = i) v1 xs := by
  refine Kd.R_mono (Kd.R_bound h) (fun k hk => ?_)
  obtain ⟨h1, _, h2, _⟩ := hk
  unfold ri
  by_cases e : W.heap.size ≤ k
  · rw [if_pos ⟨e, h2⟩]
  · rw [if_neg (fun q => e q.1)]
    omega
theorem freshri {i : Nat} (h : ∀ k, W.heap.size ≤ k → tag k = 0) (hs : W.heap.size ≤ W'.heap.size) : ∀ k, W'.heap.size ≤ k → ri tag W.heap.size W'.heap.size i k = 0 := fun k hk => by
  unfold ri
  rw [if_neg (by omega)]
  exact h k (by omega)
theorem tgri {i : Nat} (hs0 : W0.heap.size ≤ W.heap.size) (h : ∀ k, k < W0.heap.size → tag k = t0 k) : ∀ k, k < W0.heap.size → ri tag W.heap.size W'.heap.size i k = t0 k := fun k hk => by
  unfold ri
  rw [if_neg (by omega)]
  exact h k hk
theorem kpri {v : Value} {i : Nat} (hi : i ≠ 0) (hs0 : W0.heap.size ≤ W.heap.size) (h : ∀ k, k < W0.heap.size → tag k = t0 k) (hk0 : ∀ k, k < W0.heap.size → t0 k = 0 → W.heap[k]? = W0.heap[k]?) (hv : ∀ k, v.ownBlock = some k → tag k = i) (hg : W.grownBy W' v.ownBlock) : ∀ k, k < W0.heap.size → t0 k = 0 → W'.heap[k]? = W0.heap[k]? := fun k hk ht =>
  (hg.block k (by omega) (fun e => hi (by rw [← hv k e.symm, h k hk, ht]))).trans (hk0 k hk ht)
/-- A row's own block, of no row's: stays behind what has grown. -/
theorem Nw.stay {v : Value} {i g : Nat} {o : Obj} (hi : i ≠ 0) (hv : ∀ k, v.ownBlock = some k → tag k = i) (hg : W.grownBy W' v.ownBlock) (ho : W.heap[g]? = some o) (ht : tag g = 0) : W'.heap[g]? = some o ∧ ri tag W.heap.size W'.heap.size i g = 0 := by
  refine ⟨(hg.block g (blk_lt ho) (fun e => hi (by rw [← hv g e.symm, ht]))).trans ho, ?_⟩
  unfold ri
  rw [if_neg (fun q => by have := blk_lt ho; omega)]
  exact ht
theorem Nw.app_c (h : Nw w0 B W0 t0 W tag x s) {v1 : Value} {p : List Int} (hR : (Kd.int .i64).R 2 W' B (fun k => tag k = 1 ∨ W.heap.size ≤ k) v1 p) (hB : Below B w0 W') (hg : W.grownBy W' x.c.ownBlock) : Nw w0 B W0 t0 W' (ri tag W.heap.size W'.heap.size 1) { x with c := v1 } { s with clock := p } where
    c := self_ hR
    l := other h.l (by decide) h.c.1 hg
    u := other h.u (by decide) h.c.1 hg
    v := other h.v (by decide) h.c.1 hg
    d := other h.d (by decide) h.c.1 hg
    r := other h.r (by decide) h.c.1 hg
    g := other h.g (by decide) h.c.1 hg
    b := other h.b (by decide) h.c.1 hg
    dl := h.dl
    dv := fun j hj => ⟨(h.dv j hj).1, otherV (h.dv j hj).2 (by decide) h.c.1 hg⟩
    bel := hB
    base := Nat.le_trans h.base hg.size
    fresh := freshri h.fresh hg.size
    size := Nat.le_trans h.size hg.size
    tg := tgri h.size h.tg
    kp := kpri (v := x.c) (i := 1) (by decide) h.size h.tg h.kp h.c.1 hg
theorem Nw.app_l (h : Nw w0 B W0 t0 W tag x s) {v1 : Value} {p : List Int} (hR : (Kd.int .i64).R 3 W' B (fun k => tag k = 2 ∨ W.heap.size ≤ k) v1 p) (hB : Below B w0 W') (hg : W.grownBy W' x.l.ownBlock) : Nw w0 B W0 t0 W' (ri tag W.heap.size W'.heap.size 2) { x with l := v1 } { s with life := p } where
    c := other h.c (by decide) h.l.1 hg
    l := self_ hR
    u := other h.u (by decide) h.l.1 hg
    v := other h.v (by decide) h.l.1 hg
    d := other h.d (by decide) h.l.1 hg
    r := other h.r (by decide) h.l.1 hg
    g := other h.g (by decide) h.l.1 hg
    b := other h.b (by decide) h.l.1 hg
    dl := h.dl
    dv := fun j hj => ⟨(h.dv j hj).1, otherV (h.dv j hj).2 (by decide) h.l.1 hg⟩
    bel := hB
    base := Nat.le_trans h.base hg.size
    fresh := freshri h.fresh hg.size
    size := Nat.le_trans h.size hg.size
    tg := tgri h.size h.tg
    kp := kpri (v := x.l) (i := 2) (by decide) h.size h.tg h.kp h.l.1 hg
theorem Nw.app_u (h : Nw w0 B W0 t0 W tag x s) {v1 : Value} {p : List Bool} (hR : Kd.bool.R 4 W' B (fun k => tag k = 3 ∨ W.heap.size ≤ k) v1 p) (hB : Below B w0 W') (hg : W.grownBy W' x.u.ownBlock) : Nw w0 B W0 t0 W' (ri tag W.heap.size W'.heap.size 3) { x with u := v1 } { s with up := p } where
    c := other h.c (by decide) h.u.1 hg
    l := other h.l (by decide) h.u.1 hg
    u := self_ hR
    v := other h.v (by decide) h.u.1 hg
    d := other h.d (by decide) h.u.1 hg
    r := other h.r (by decide) h.u.1 hg
    g := other h.g (by decide) h.u.1 hg
    b := other h.b (by decide) h.u.1 hg
    dl := h.dl
    dv := fun j hj => ⟨(h.dv j hj).1, otherV (h.dv j hj).2 (by decide) h.u.1 hg⟩
    bel := hB
    base := Nat.le_trans h.base hg.size
    fresh := freshri h.fresh hg.size
    size := Nat.le_trans h.size hg.size
    tg := tgri h.size h.tg
    kp := kpri (v := x.u) (i := 3) (by decide) h.size h.tg h.kp h.u.1 hg
theorem Nw.app_v (h : Nw w0 B W0 t0 W tag x s) {v1 : Value} {p : List S38} (hR : k38.R 38 W' B (fun k => tag k = 4 ∨ W.heap.size ≤ k) v1 p) (hB : Below B w0 W') (hg : W.grownBy W' x.v.ownBlock) : Nw w0 B W0 t0 W' (ri tag W.heap.size W'.heap.size 4) { x with v := v1 } { s with votes := p } where
    c := other h.c (by decide) h.v.1 hg
    l := other h.l (by decide) h.v.1 hg
    u := other h.u (by decide) h.v.1 hg
    v := self_ hR
    d := other h.d (by decide) h.v.1 hg
    r := other h.r (by decide) h.v.1 hg
    g := other h.g (by decide) h.v.1 hg
    b := other h.b (by decide) h.v.1 hg
    dl := h.dl
    dv := fun j hj => ⟨(h.dv j hj).1, otherV (h.dv j hj).2 (by decide) h.v.1 hg⟩
    bel := hB
    base := Nat.le_trans h.base hg.size
    fresh := freshri h.fresh hg.size
    size := Nat.le_trans h.size hg.size
    tg := tgri h.size h.tg
    kp := kpri (v := x.v) (i := 4) (by decide) h.size h.tg h.kp h.v.1 hg
theorem Nw.app_d (h : Nw w0 B W0 t0 W tag x s) {v1 : Value} {p : List S52} {raw : List Raw} (hR : kraw.R 52 W' B (fun k => tag k = 5 ∨ W.heap.size ≤ k) v1 raw) (hl : raw.length = p.length) (hp : ∀ j : Nat, j < p.length → (raw.getD j zraw).1 = (p.getD j z52).f0 ∧ Kd.V (Kd.int .i64) 2 W B (fun k => tag k = 9) (raw.getD j zraw).v (p.getD j z52).f1) (hB : Below B w0 W') (hg : W.grownBy W' x.d.ownBlock) : Nw w0 B W0 t0 W' (ri tag W.heap.size W'.heap.size 5) { x with d := v1, raw := raw } { s with leads := p } where
    c := other h.c (by decide) h.d.1 hg
    l := other h.l (by decide) h.d.1 hg
    u := other h.u (by decide) h.d.1 hg
    v := other h.v (by decide) h.d.1 hg
    d := self_ hR
    r := other h.r (by decide) h.d.1 hg
    g := other h.g (by decide) h.d.1 hg
    b := other h.b (by decide) h.d.1 hg
    dl := hl
    dv := fun j hj => ⟨(hp j hj).1, otherV (hp j hj).2 (by decide) h.d.1 hg⟩
    bel := hB
    base := Nat.le_trans h.base hg.size
    fresh := freshri h.fresh hg.size
    size := Nat.le_trans h.size hg.size
    tg := tgri h.size h.tg
    kp := kpri (v := x.d) (i := 5) (by decide) h.size h.tg h.kp h.d.1 hg
theorem Nw.app_r (h : Nw w0 B W0 t0 W tag x s) {v1 : Value} {p : List S116} (hR : k116.R 116 W' B (fun k => tag k = 6 ∨ W.heap.size ≤ k) v1 p) (hB : Below B w0 W') (hg : W.grownBy W' x.r.ownBlock) : Nw w0 B W0 t0 W' (ri tag W.heap.size W'.heap.size 6) { x with r := v1 } { s with reqs := p } where
    c := other h.c (by decide) h.r.1 hg
    l := other h.l (by decide) h.r.1 hg
    u := other h.u (by decide) h.r.1 hg
    v := other h.v (by decide) h.r.1 hg
    d := other h.d (by decide) h.r.1 hg
    r := self_ hR
    g := other h.g (by decide) h.r.1 hg
    b := other h.b (by decide) h.r.1 hg
    dl := h.dl
    dv := fun j hj => ⟨(h.dv j hj).1, otherV (h.dv j hj).2 (by decide) h.r.1 hg⟩
    bel := hB
    base := Nat.le_trans h.base hg.size
    fresh := freshri h.fresh hg.size
    size := Nat.le_trans h.size hg.size
    tg := tgri h.size h.tg
    kp := kpri (v := x.r) (i := 6) (by decide) h.size h.tg h.kp h.r.1 hg
theorem Nw.app_g (h : Nw w0 B W0 t0 W tag x s) {v1 : Value} {p : List S116} (hR : k116.R 116 W' B (fun k => tag k = 7 ∨ W.heap.size ≤ k) v1 p) (hB : Below B w0 W') (hg : W.grownBy W' x.g.ownBlock) : Nw w0 B W0 t0 W' (ri tag W.heap.size W'.heap.size 7) { x with g := v1 } { s with grs := p } where
    c := other h.c (by decide) h.g.1 hg
    l := other h.l (by decide) h.g.1 hg
    u := other h.u (by decide) h.g.1 hg
    v := other h.v (by decide) h.g.1 hg
    d := other h.d (by decide) h.g.1 hg
    r := other h.r (by decide) h.g.1 hg
    g := self_ hR
    b := other h.b (by decide) h.g.1 hg
    dl := h.dl
    dv := fun j hj => ⟨(h.dv j hj).1, otherV (h.dv j hj).2 (by decide) h.g.1 hg⟩
    bel := hB
    base := Nat.le_trans h.base hg.size
    fresh := freshri h.fresh hg.size
    size := Nat.le_trans h.size hg.size
    tg := tgri h.size h.tg
    kp := kpri (v := x.g) (i := 7) (by decide) h.size h.tg h.kp h.g.1 hg
theorem Nw.app_b (h : Nw w0 B W0 t0 W tag x s) {v1 : Value} {p : List S106} (hR : k106.R 106 W' B (fun k => tag k = 8 ∨ W.heap.size ≤ k) v1 p) (hB : Below B w0 W') (hg : W.grownBy W' x.b.ownBlock) : Nw w0 B W0 t0 W' (ri tag W.heap.size W'.heap.size 8) { x with b := v1 } { s with beats := p } where
    c := other h.c (by decide) h.b.1 hg
    l := other h.l (by decide) h.b.1 hg
    u := other h.u (by decide) h.b.1 hg
    v := other h.v (by decide) h.b.1 hg
    d := other h.d (by decide) h.b.1 hg
    r := other h.r (by decide) h.b.1 hg
    g := other h.g (by decide) h.b.1 hg
    b := self_ hR
    dl := h.dl
    dv := fun j hj => ⟨(h.dv j hj).1, otherV (h.dv j hj).2 (by decide) h.b.1 hg⟩
    bel := hB
    base := Nat.le_trans h.base hg.size
    fresh := freshri h.fresh hg.size
    size := Nat.le_trans h.size hg.size
    tg := tgri h.size h.tg
    kp := kpri (v := x.b) (i := 8) (by decide) h.size h.tg h.kp h.b.1 hg
theorem Nw.put_c (h : Nw w0 B W0 t0 W tag x s) {v : Value} (hx : x.c = v) {p : List Int} (hR : (Kd.int .i64).R 2 W' B (fun k => tag k = 1) v p) (hg : W.grownBy W' v.ownBlock) : Nw w0 B W0 t0 W' tag x { s with clock := p } := by
  have hk2 := h.c.1
  subst hx
  exact {
    c := hR
    l := Kd.R_grown h.l hg (fun k hk e => by exact absurd ((hk2 k e.symm).symm.trans hk) (by decide))
    u := Kd.R_grown h.u hg (fun k hk e => by exact absurd ((hk2 k e.symm).symm.trans hk) (by decide))
    v := Kd.R_grown h.v hg (fun k hk e => by exact absurd ((hk2 k e.symm).symm.trans hk) (by decide))
    d := Kd.R_grown h.d hg (fun k hk e => by exact absurd ((hk2 k e.symm).symm.trans hk) (by decide))
    r := Kd.R_grown h.r hg (fun k hk e => by exact absurd ((hk2 k e.symm).symm.trans hk) (by decide))
    g := Kd.R_grown h.g hg (fun k hk e => by exact absurd ((hk2 k e.symm).symm.trans hk) (by decide))
    b := Kd.R_grown h.b hg (fun k hk e => by exact absurd ((hk2 k e.symm).symm.trans hk) (by decide))
    dl := h.dl
    dv := fun j hj => ⟨(h.dv j hj).1, Kd.V_grown (h.dv j hj).2 hg (fun k hk e => absurd ((hk2 k e.symm).symm.trans hk) (by decide))⟩
    bel := pw_below_grown h.bel _ h.base hg (Kd.R_base h.c)
    base := Nat.le_trans h.base hg.size
    fresh := fun k hk => h.fresh k (Nat.le_trans hg.size hk)
    size := Nat.le_trans h.size hg.size
    tg := h.tg
    kp := kpri (v := x.c) (i := 1) (by decide) h.size h.tg h.kp h.c.1 hg }
theorem Nw.put_l (h : Nw w0 B W0 t0 W tag x s) {v : Value} (hx : x.l = v) {p : List Int} (hR : (Kd.int .i64).R 3 W' B (fun k => tag k = 2) v p) (hg : W.grownBy W' v.ownBlock) : Nw w0 B W0 t0 W' tag x { s with life := p } := by
  have hk2 := h.l.1
  subst hx
  exact {
    c := Kd.R_grown h.c hg (fun k hk e => by exact absurd ((hk2 k e.symm).symm.trans hk) (by decide))
    l := hR
    u := Kd.R_grown h.u hg (fun k hk e => by exact absurd ((hk2 k e.symm).symm.trans hk) (by decide))
    v := Kd.R_grown h.v hg (fun k hk e => by exact absurd ((hk2 k e.symm).symm.trans hk) (by decide))
    d := Kd.R_grown h.d hg (fun k hk e => by exact absurd ((hk2 k e.symm).symm.trans hk) (by decide))
    r := Kd.R_grown h.r hg (fun k hk e => by exact absurd ((hk2 k e.symm).symm.trans hk) (by decide))
    g := Kd.R_grown h.g hg (fun k hk e => by exact absurd ((hk2 k e.symm).symm.trans hk) (by decide))
    b := Kd.R_grown h.b hg (fun k hk e => by exact absurd ((hk2 k e.symm).symm.trans hk) (by decide))
    dl := h.dl
    dv := fun j hj => ⟨(h.dv j hj).1, Kd.V_grown (h.dv j hj).2 hg (fun k hk e => absurd ((hk2 k e.symm).symm.trans hk) (by decide))⟩
    bel := pw_below_grown h.bel _ h.base hg (Kd.R_base h.l)
    base := Nat.le_trans h.base hg.size
    fresh := fun k hk => h.fresh k (Nat.le_trans hg.size hk)
    size := Nat.le_trans h.size hg.size
    tg := h.tg
    kp := kpri (v := x.l) (i := 2) (by decide) h.size h.tg h.kp h.l.1 hg }
theorem Nw.put_u (h : Nw w0 B W0 t0 W tag x s) {v : Value} (hx : x.u = v) {p : List Bool} (hR : Kd.bool.R 4 W' B (fun k => tag k = 3) v p) (hg : W.grownBy W' v.ownBlock) : Nw w0 B W0 t0 W' tag x { s with up := p } := by
  have hk2 := h.u.1
  subst hx
  exact {
    c := Kd.R_grown h.c hg (fun k hk e => by exact absurd ((hk2 k e.symm).symm.trans hk) (by decide))
    l := Kd.R_grown h.l hg (fun k hk e => by exact absurd ((hk2 k e.symm).symm.trans hk) (by decide))
    u := hR
    v := Kd.R_grown h.v hg (fun k hk e => by exact absurd ((hk2 k e.symm).symm.trans hk) (by decide))
    d := Kd.R_grown h.d hg (fun k hk e => by exact absurd ((hk2 k e.symm).symm.trans hk) (by decide))
    r := Kd.R_grown h.r hg (fun k hk e => by exact absurd ((hk2 k e.symm).symm.trans hk) (by decide))
    g := Kd.R_grown h.g hg (fun k hk e => by exact absurd ((hk2 k e.symm).symm.trans hk) (by decide))
    b := Kd.R_grown h.b hg (fun k hk e => by exact absurd ((hk2 k e.symm).symm.trans hk) (by decide))
    dl := h.dl
    dv := fun j hj => ⟨(h.dv j hj).1, Kd.V_grown (h.dv j hj).2 hg (fun k hk e => absurd ((hk2 k e.symm).symm.trans hk) (by decide))⟩
    bel := pw_below_grown h.bel _ h.base hg (Kd.R_base h.u)
    base := Nat.le_trans h.base hg.size
    fresh := fun k hk => h.fresh k (Nat.le_trans hg.size hk)
    size := Nat.le_trans h.size hg.size
    tg := h.tg
    kp := kpri (v := x.u) (i := 3) (by decide) h.size h.tg h.kp h.u.1 hg }
theorem Nw.put_v (h : Nw w0 B W0 t0 W tag x s) {v : Value} (hx : x.v = v) {p : List S38} (hR : k38.R 38 W' B (fun k => tag k = 4) v p) (hg : W.grownBy W' v.ownBlock) : Nw w0 B W0 t0 W' tag x { s with votes := p } := by
  have hk2 := h.v.1
  subst hx
  exact {
    c := Kd.R_grown h.c hg (fun k hk e => by exact absurd ((hk2 k e.symm).symm.trans hk) (by decide))
    l := Kd.R_grown h.l hg (fun k hk e => by exact absurd ((hk2 k e.symm).symm.trans hk) (by decide))
    u := Kd.R_grown h.u hg (fun k hk e => by exact absurd ((hk2 k e.symm).symm.trans hk) (by decide))
    v := hR
    d := Kd.R_grown h.d hg (fun k hk e => by exact absurd ((hk2 k e.symm).symm.trans hk) (by decide))
    r := Kd.R_grown h.r hg (fun k hk e => by exact absurd ((hk2 k e.symm).symm.trans hk) (by decide))
    g := Kd.R_grown h.g hg (fun k hk e => by exact absurd ((hk2 k e.symm).symm.trans hk) (by decide))
    b := Kd.R_grown h.b hg (fun k hk e => by exact absurd ((hk2 k e.symm).symm.trans hk) (by decide))
    dl := h.dl
    dv := fun j hj => ⟨(h.dv j hj).1, Kd.V_grown (h.dv j hj).2 hg (fun k hk e => absurd ((hk2 k e.symm).symm.trans hk) (by decide))⟩
    bel := pw_below_grown h.bel _ h.base hg (Kd.R_base h.v)
    base := Nat.le_trans h.base hg.size
    fresh := fun k hk => h.fresh k (Nat.le_trans hg.size hk)
    size := Nat.le_trans h.size hg.size
    tg := h.tg
    kp := kpri (v := x.v) (i := 4) (by decide) h.size h.tg h.kp h.v.1 hg }
theorem Nw.put_d (h : Nw w0 B W0 t0 W tag x s) {v : Value} (hx : x.d = v) {p : List S52} {raw : List Raw} (hR : kraw.R 52 W' B (fun k => tag k = 5) v raw) (hl : raw.length = p.length) (hp : ∀ j : Nat, j < p.length → (raw.getD j zraw).1 = (p.getD j z52).f0 ∧ Kd.V (Kd.int .i64) 2 W B (fun k => tag k = 9) (raw.getD j zraw).v (p.getD j z52).f1) (hg : W.grownBy W' v.ownBlock) : Nw w0 B W0 t0 W' tag { x with raw := raw } { s with leads := p } := by
  have hk2 := h.d.1
  subst hx
  exact {
    c := Kd.R_grown h.c hg (fun k hk e => by exact absurd ((hk2 k e.symm).symm.trans hk) (by decide))
    l := Kd.R_grown h.l hg (fun k hk e => by exact absurd ((hk2 k e.symm).symm.trans hk) (by decide))
    u := Kd.R_grown h.u hg (fun k hk e => by exact absurd ((hk2 k e.symm).symm.trans hk) (by decide))
    v := Kd.R_grown h.v hg (fun k hk e => by exact absurd ((hk2 k e.symm).symm.trans hk) (by decide))
    d := hR
    r := Kd.R_grown h.r hg (fun k hk e => by exact absurd ((hk2 k e.symm).symm.trans hk) (by decide))
    g := Kd.R_grown h.g hg (fun k hk e => by exact absurd ((hk2 k e.symm).symm.trans hk) (by decide))
    b := Kd.R_grown h.b hg (fun k hk e => by exact absurd ((hk2 k e.symm).symm.trans hk) (by decide))
    dl := hl
    dv := fun j hj => ⟨(hp j hj).1, Kd.V_grown (hp j hj).2 hg (fun k hk e => absurd ((hk2 k e.symm).symm.trans hk) (by decide))⟩
    bel := pw_below_grown h.bel _ h.base hg (Kd.R_base h.d)
    base := Nat.le_trans h.base hg.size
    fresh := fun k hk => h.fresh k (Nat.le_trans hg.size hk)
    size := Nat.le_trans h.size hg.size
    tg := h.tg
    kp := kpri (v := x.d) (i := 5) (by decide) h.size h.tg h.kp h.d.1 hg }
/-! what the rows hold -/
theorem Nw.row_c (h : Nw w0 B W0 t0 W tag x s) (hl : 0 < s.clock.length) : ∃ g c, x.c = .slice (some ⟨g, 0, none⟩) s.clock.length c ∧ B ≤ g ∧ g < W.heap.size ∧ tag g = 1 ∧ ∀ j : Nat, j < s.clock.length → W.cell? ⟨g, j, none⟩ = some (.int .i64 (s.clock.getD j (0 : Int))) ∧ W.frozen? ⟨g, j, none⟩ = false := by
  obtain ⟨g, c, e, hb, hlt, _⟩ := Kd.R_form h.c hl
  have h2 := h.c
  rw [e] at h2
  refine ⟨g, c, e, hb, hlt, h.c.1 g (by rw [e]; simp [Value.ownBlock]), fun j hj => ?_⟩
  have h3 := Kd.R_cell (0 : Int) h2 (j : Int) (by omega) (by omega)
  rw [Int.toNat_natCast] at h3
  exact h3
theorem Nw.row_l (h : Nw w0 B W0 t0 W tag x s) (hl : 0 < s.life.length) : ∃ g c, x.l = .slice (some ⟨g, 0, none⟩) s.life.length c ∧ B ≤ g ∧ g < W.heap.size ∧ tag g = 2 ∧ ∀ j : Nat, j < s.life.length → W.cell? ⟨g, j, none⟩ = some (.int .i64 (s.life.getD j (0 : Int))) ∧ W.frozen? ⟨g, j, none⟩ = false := by
  obtain ⟨g, c, e, hb, hlt, _⟩ := Kd.R_form h.l hl
  have h2 := h.l
  rw [e] at h2
  refine ⟨g, c, e, hb, hlt, h.l.1 g (by rw [e]; simp [Value.ownBlock]), fun j hj => ?_⟩
  have h3 := Kd.R_cell (0 : Int) h2 (j : Int) (by omega) (by omega)
  rw [Int.toNat_natCast] at h3
  exact h3
theorem Nw.row_u (h : Nw w0 B W0 t0 W tag x s) (hl : 0 < s.up.length) : ∃ g c, x.u = .slice (some ⟨g, 0, none⟩) s.up.length c ∧ B ≤ g ∧ g < W.heap.size ∧ tag g = 3 ∧ ∀ j : Nat, j < s.up.length → W.cell? ⟨g, j, none⟩ = some (.bool (s.up.getD j false)) ∧ W.frozen? ⟨g, j, none⟩ = false := by
  obtain ⟨g, c, e, hb, hlt, _⟩ := Kd.R_form h.u hl
  have h2 := h.u
  rw [e] at h2
  refine ⟨g, c, e, hb, hlt, h.u.1 g (by rw [e]; simp [Value.ownBlock]), fun j hj => ?_⟩
  have h3 := Kd.R_cell false h2 (j : Int) (by omega) (by omega)
  rw [Int.toNat_natCast] at h3
  exact h3
theorem Nw.row_v (h : Nw w0 B W0 t0 W tag x s) (hl : 0 < s.votes.length) : ∃ g c, x.v = .slice (some ⟨g, 0, none⟩) s.votes.length c ∧ B ≤ g ∧ g < W.heap.size ∧ tag g = 4 ∧ ∀ j : Nat, j < s.votes.length → (W.cell? ⟨g, j * 4, none⟩ = some (.int .u64 (s.votes.getD j z38).f0) ∧ W.cell? ⟨g, j * 4 + 1, none⟩ = some (.int .i64 (s.votes.getD j z38).f1) ∧ W.cell? ⟨g, j * 4 + 2, none⟩ = some (.int .i64 (s.votes.getD j z38).f2) ∧ W.cell? ⟨g, j * 4 + 3, none⟩ = some (.int .i64 (s.votes.getD j z38).f3)) ∧ ∀ o, W.frozen? ⟨g, j * 4 + o, none⟩ = false := by
  obtain ⟨g, c, e, hb, hlt, _⟩ := Kd.R_form h.v hl
  have h2 := h.v
  rw [e] at h2
  refine ⟨g, c, e, hb, hlt, h.v.1 g (by rw [e]; simp [Value.ownBlock]), fun j hj => ?_⟩
  obtain ⟨cl, hcl, hM, hcc, hfr⟩ := Kd.R_elem h2 z38 (j : Int) (by omega) (by omega)
  obtain rfl := k38_openM hM
  rw [Int.toNat_natCast] at hcc hfr
  exact ⟨⟨hcc 0 _ rfl, hcc 1 _ rfl, hcc 2 _ rfl, hcc 3 _ rfl⟩, hfr⟩
theorem Nw.row_r (h : Nw w0 B W0 t0 W tag x s) (hl : 0 < s.reqs.length) : ∃ g c, x.r = .slice (some ⟨g, 0, none⟩) s.reqs.length c ∧ B ≤ g ∧ g < W.heap.size ∧ tag g = 6 ∧ ∀ j : Nat, j < s.reqs.length → (W.cell? ⟨g, j * 5, none⟩ = some (.int .i64 (s.reqs.getD j z116).f0) ∧ W.cell? ⟨g, j * 5 + 1, none⟩ = some (.int .i64 (s.reqs.getD j z116).f1) ∧ W.cell? ⟨g, j * 5 + 2, none⟩ = some (.int .u64 (s.reqs.getD j z116).f2) ∧ W.cell? ⟨g, j * 5 + 3, none⟩ = some (.int .i64 (s.reqs.getD j z116).f3) ∧ W.cell? ⟨g, j * 5 + 4, none⟩ = some (.int .i64 (s.reqs.getD j z116).f4)) ∧ ∀ o, W.frozen? ⟨g, j * 5 + o, none⟩ = false := by
  obtain ⟨g, c, e, hb, hlt, _⟩ := Kd.R_form h.r hl
  have h2 := h.r
  rw [e] at h2
  refine ⟨g, c, e, hb, hlt, h.r.1 g (by rw [e]; simp [Value.ownBlock]), fun j hj => ?_⟩
  obtain ⟨cl, hcl, hM, hcc, hfr⟩ := Kd.R_elem h2 z116 (j : Int) (by omega) (by omega)
  obtain rfl := k116_openM hM
  rw [Int.toNat_natCast] at hcc hfr
  exact ⟨⟨hcc 0 _ rfl, hcc 1 _ rfl, hcc 2 _ rfl, hcc 3 _ rfl, hcc 4 _ rfl⟩, hfr⟩
theorem Nw.row_g (h : Nw w0 B W0 t0 W tag x s) (hl : 0 < s.grs.length) : ∃ g c, x.g = .slice (some ⟨g, 0, none⟩) s.grs.length c ∧ B ≤ g ∧ g < W.heap.size ∧ tag g = 7 ∧ ∀ j : Nat, j < s.grs.length → (W.cell? ⟨g, j * 5, none⟩ = some (.int .i64 (s.grs.getD j z116).f0) ∧ W.cell? ⟨g, j * 5 + 1, none⟩ = some (.int .i64 (s.grs.getD j z116).f1) ∧ W.cell? ⟨g, j * 5 + 2, none⟩ = some (.int .u64 (s.grs.getD j z116).f2) ∧ W.cell? ⟨g, j * 5 + 3, none⟩ = some (.int .i64 (s.grs.getD j z116).f3) ∧ W.cell? ⟨g, j * 5 + 4, none⟩ = some (.int .i64 (s.grs.getD j z116).f4)) ∧ ∀ o, W.frozen? ⟨g, j * 5 + o, none⟩ = false := by
  obtain ⟨g, c, e, hb, hlt, _⟩ := Kd.R_form h.g hl
  have h2 := h.g
  rw [e] at h2
  refine ⟨g, c, e, hb, hlt, h.g.1 g (by rw [e]; simp [Value.ownBlock]), fun j hj => ?_⟩
  obtain ⟨cl, hcl, hM, hcc, hfr⟩ := Kd.R_elem h2 z116 (j : Int) (by omega) (by omega)
  obtain rfl := k116_openM hM
  rw [Int.toNat_natCast] at hcc hfr
  exact ⟨⟨hcc 0 _ rfl, hcc 1 _ rfl, hcc 2 _ rfl, hcc 3 _ rfl, hcc 4 _ rfl⟩, hfr⟩
theorem Nw.row_d (h : Nw w0 B W0 t0 W tag x s) (hl : 0 < s.leads.length) : ∃ g c, x.d = .slice (some ⟨g, 0, none⟩) s.leads.length c ∧ B ≤ g ∧ g < W.heap.size ∧ tag g = 5 ∧ ∀ j : Nat, j < s.leads.length → ∃ A c1, (W.cell? ⟨g, j * 2, none⟩ = some (.int .u64 (s.leads.getD j z52).f0) ∧ W.cell? ⟨g, j * 2 + 1, none⟩ = some (.slice A (s.leads.getD j z52).f1.length c1)) ∧ Kd.V (Kd.int .i64) 2 W B (fun k => tag k = 9) (.slice A (s.leads.getD j z52).f1.length c1) (s.leads.getD j z52).f1 ∧ ∀ o, W.frozen? ⟨g, j * 2 + o, none⟩ = false := by
  have h2 := h.d
  obtain ⟨g, c, e, hb, hlt, _⟩ := Kd.R_form h.d (by rw [h.dl]; exact hl)
  rw [e] at h2
  refine ⟨g, c, by rw [e, h.dl], hb, hlt, h.d.1 g (by rw [e]; simp [Value.ownBlock]), fun j hj => ?_⟩
  obtain ⟨cl, hcl, hM, hcc, hfr⟩ := Kd.R_elem h2 zraw (j : Int) (by omega) (by rw [h.dl]; omega)
  obtain rfl := kraw_openM hM
  rw [Int.toNat_natCast] at hcc hfr
  obtain ⟨h3, h4⟩ := h.dv j hj
  have h5 := hcc 0 _ rfl
  have h6 := hcc 1 _ rfl
  rw [h3] at h5
  obtain ⟨A, c1, e1⟩ := Kd.V_slice h4
  rw [e1] at h6
  rw [e1] at h4
  exact ⟨A, c1, ⟨h5, h6⟩, h4, hfr⟩
/-! a row's element is stored -/
theorem Nw.set_c (h : Nw w0 B W0 t0 W tag x s) {g n c : Nat} (hx : x.c = .slice (some ⟨g, 0, none⟩) n c) (j : Nat) (y : Int) : Nw w0 B W0 t0 (W.setCell ⟨g, j, none⟩ (.int .i64 y)) tag x { s with clock := s.clock.set j y } := by
  have h2 := h.c
  rw [hx] at h2
  obtain rfl := (Kd.R_reads' h2).1
  obtain ⟨h3, h4⟩ := Kd.R_put h2 (j : Int) y
  rw [Int.toNat_natCast] at h3 h4
  exact h.put_c hx h3 h4
theorem Nw.set_l (h : Nw w0 B W0 t0 W tag x s) {g n c : Nat} (hx : x.l = .slice (some ⟨g, 0, none⟩) n c) (j : Nat) (y : Int) : Nw w0 B W0 t0 (W.setCell ⟨g, j, none⟩ (.int .i64 y)) tag x { s with life := s.life.set j y } := by
  have h2 := h.l
  rw [hx] at h2
  obtain rfl := (Kd.R_reads' h2).1
  obtain ⟨h3, h4⟩ := Kd.R_put h2 (j : Int) y
  rw [Int.toNat_natCast] at h3 h4
  exact h.put_l hx h3 h4
theorem Nw.set_u (h : Nw w0 B W0 t0 W tag x s) {g n c : Nat} (hx : x.u = .slice (some ⟨g, 0, none⟩) n c) (j : Nat) (y : Bool) : Nw w0 B W0 t0 (W.setCell ⟨g, j, none⟩ (.bool y)) tag x { s with up := s.up.set j y } := by
  have h2 := h.u
  rw [hx] at h2
  obtain rfl := (Kd.R_reads' h2).1
  obtain ⟨h3, h4⟩ := Kd.R_put h2 (j : Int) y
  rw [Int.toNat_natCast] at h3 h4
  exact h.put_u hx h3 h4
/-- A vote is stored. -/
def st4 (W : World) (g j : Nat) (y : S38) : World := (((W.setCell ⟨g, j * 4, none⟩ (.int .u64 y.f0)).setCell ⟨g, j * 4 + 1, none⟩ (.int .i64 y.f1)).setCell ⟨g, j * 4 + 2, none⟩ (.int .i64 y.f2)).setCell ⟨g, j * 4 + 3, none⟩ (.int .i64 y.f3)
theorem Nw.set_v (h : Nw w0 B W0 t0 W tag x s) {g n c : Nat} (hx : x.v = .slice (some ⟨g, 0, none⟩) n c) (j : Nat) (hj : j < n) (y : S38) : Nw w0 B W0 t0 (st4 W g j y) tag x { s with votes := s.votes.set j y } := by
  have h2 := h.v
  rw [hx] at h2
  obtain ⟨cl, hcl, hM, hcc, hfr⟩ := Kd.R_elem h2 z38 (j : Int) (by omega) (by omega)
  obtain rfl := k38_openM hM
  obtain ⟨h3, h4⟩ := Kd.R_seg h2 (j : Int) (by omega) (by omega) (seg := [.int .u64 y.f0, .int .i64 y.f1, .int .i64 y.f2, .int .i64 y.f3]) (j := 0) hcl hcc (show 4 ≤ 4 from by decide) (x' := y) (k38_mkM _ _ _ y) (fun _ hk => hk)
  rw [Int.toNat_natCast] at h3 h4
  exact h.put_v hx h3 h4
/-- A lead is stored. -/
def st2 (W : World) (g j : Nat) (e : Int) (v : Value) : World := (W.setCell ⟨g, j * 2, none⟩ (.int .u64 e)).setCell ⟨g, j * 2 + 1, none⟩ v
theorem Nw.set_d (h : Nw w0 B W0 t0 W tag x s) {g n c : Nat} (hx : x.d = .slice (some ⟨g, 0, none⟩) n c) (j : Nat) (hj : j < n) (e : Int) {A1 : Option Addr} {n1 c1 : Nat} {l : List Int} (hv : Kd.V (Kd.int .i64) 2 W B (fun k => tag k = 9) (.slice A1 n1 c1) l) : Nw w0 B W0 t0 (st2 W g j e (.slice A1 n1 c1)) tag { x with raw := x.raw.set j (e, A1, n1, c1) } { s with leads := s.leads.set j ⟨e, l⟩ } := by
  have h2 := h.d
  rw [hx] at h2
  have hn := (Kd.R_reads' h2).1
  have hdl := h.dl
  obtain ⟨cl, hcl, hM, hcc, hfr⟩ := Kd.R_elem h2 zraw (j : Int) (by omega) (by omega)
  obtain rfl := kraw_openM hM
  obtain ⟨h3, h4⟩ := Kd.R_seg h2 (j : Int) (by omega) (by omega) (seg := [.int .u64 e, .slice A1 n1 c1]) (j := 0) hcl hcc (show 2 ≤ 2 from by decide) (x' := (e, A1, n1, c1)) (kraw_mkM _ _ (fun k => tag k = 5 ∧ k ≠ g) (e, A1, n1, c1)) (fun _ hk => hk)
  rw [Int.toNat_natCast] at h3 h4
  refine h.put_d hx h3 (by simpa using hdl) (fun q hq => ?_) h4
  rw [List.length_set] at hq
  by_cases e2 : q = j
  · subst e2
    have q1 : q < x.raw.length := by omega
    have r1 : (x.raw.set q (e, A1, n1, c1)).getD q zraw = (e, A1, n1, c1) := by simp [q1]
    have r2 : (s.leads.set q ⟨e, l⟩).getD q z52 = ⟨e, l⟩ := by simp [hq]
    rw [r1, r2]
    exact ⟨rfl, hv⟩
  · have r1 : (x.raw.set j (e, A1, n1, c1)).getD q zraw = x.raw.getD q zraw := by rw [List.getD_eq_getElem?_getD, List.getElem?_set_ne (fun e3 => e2 e3.symm), ← List.getD_eq_getElem?_getD]
    have r2 : (s.leads.set j ⟨e, l⟩).getD q z52 = s.leads.getD q z52 := by rw [List.getD_eq_getElem?_getD, List.getElem?_set_ne (fun e3 => e2 e3.symm), ← List.getD_eq_getElem?_getD]
    rw [r1, r2]
    exact h.dv q hq
/-- The nodes' block. -/
def nblk (t d r : Int) (x : NV) (top : Int) (ok : Bool) : Obj := .cells #[.int .i64 t, .int .i64 d, .int .i64 r, x.c, x.l, x.u, x.v, x.d, x.r, x.g, x.b, .int .u64 top, .bool ok] 80 (0, 0)
theorem nblk_cells {t d r : Int} {x : NV} {top : Int} {ok : Bool} {g : Nat} (h : W.heap[g]? = some (nblk t d r x top ok)) : W.cell? ⟨g, 0, none⟩ = some (.int .i64 t) ∧ W.cell? ⟨g, 1, none⟩ = some (.int .i64 d) ∧ W.cell? ⟨g, 2, none⟩ = some (.int .i64 r) ∧ W.cell? ⟨g, 3, none⟩ = some x.c ∧ W.cell? ⟨g, 4, none⟩ = some x.l ∧ W.cell? ⟨g, 5, none⟩ = some x.u ∧ W.cell? ⟨g, 6, none⟩ = some x.v ∧ W.cell? ⟨g, 7, none⟩ = some x.d ∧ W.cell? ⟨g, 8, none⟩ = some x.r ∧ W.cell? ⟨g, 9, none⟩ = some x.g ∧ W.cell? ⟨g, 10, none⟩ = some x.b ∧ W.cell? ⟨g, 11, none⟩ = some (.int .u64 top) ∧ W.cell? ⟨g, 12, none⟩ = some (.bool ok) :=
  ⟨(blk_cell h 0).trans rfl, (blk_cell h 1).trans rfl, (blk_cell h 2).trans rfl, (blk_cell h 3).trans rfl, (blk_cell h 4).trans rfl, (blk_cell h 5).trans rfl, (blk_cell h 6).trans rfl, (blk_cell h 7).trans rfl, (blk_cell h 8).trans rfl, (blk_cell h 9).trans rfl, (blk_cell h 10).trans rfl, (blk_cell h 11).trans rfl, (blk_cell h 12).trans rfl⟩
/-- The zero of it: what a result's block holds. -/
def zblk : Obj := nblk 0 0 0 ⟨[], .slice none 0 0, .slice none 0 0, .slice none 0 0, .slice none 0 0, .slice none 0 0, .slice none 0 0, .slice none 0 0, .slice none 0 0⟩ 0 false
end
end Go.Proofs.Ytgfblogneggpmaa.One
