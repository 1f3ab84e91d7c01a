/- What the functions of packages clock and vote come to: plain facts on numbers. -/
import Derived.Test.YtgfblogneggpmaaFnx4
import Derived.Test.YtgfblogneggpmaaFnx5
import Derived.Test.YtgfblogneggpmaaFnx0
import Derived.Test.YtgfblogneggpmaaExGuard
import Derived.Test.YtgfblogneggpmaaExAsk
namespace Go.Proofs.Ytgfblogneggpmaa.Vote
open Go.RowKit Go.Proofs.Ytgfblogneggpmaa.Fn Go.Proofs.YtgfblogneggpmaaW.PrintWords Go.Proofs.YtgfblogneggpmaaW.PrintMore

theorem i64_wf {x : Int} (h : (Lit.int .i64 x).wf = true) : -9223372036854775808 ≤ x ∧ x ≤ 9223372036854775807 := by
  simp [Lit.wf, IntKind.min, IntKind.max, IntKind.bits, IntKind.signed] at h
  omega
theorem u64_wf {x : Int} (h : (Lit.int .u64 x).wf = true) : 0 ≤ x ∧ x ≤ 18446744073709551615 := by
  simp [Lit.wf, IntKind.min, IntKind.max, IntKind.bits, IntKind.signed] at h
  omega
theorem u16_wf {x : Int} (h : (Lit.int .u16 x).wf = true) : 0 ≤ x ∧ x ≤ 65535 := by
  simp [Lit.wf, IntKind.min, IntKind.max, IntKind.bits, IntKind.signed] at h
  omega
theorem u8_wf {x : Int} (h : (Lit.int .u8 x).wf = true) : 0 ≤ x ∧ x ≤ 255 := by
  simp [Lit.wf, IntKind.min, IntKind.max, IntKind.bits, IntKind.signed] at h
  omega
theorem w64_id (x : Int) (h0 : -9223372036854775808 ≤ x) (h : x ≤ 9223372036854775807) : wrap64 x = x := by
  unfold wrap64
  omega
/-- A term's guard. -/
def hold (t d r : Int) : Nat := first (many t d r) (t.toNat + 1) 0
theorem hold_false {t d r : Int} {x : Nat} (h : x < hold t d r) : many t d r x = false := (first_spec (many t d r) (t.toNat + 1) 0).2.2.1 x (Nat.zero_le _) h
theorem many_term {t d r : Int} (h0 : 0 ≤ t) (hd : 0 ≤ d) (hr : 1 ≤ r) : many t d r t.toNat = true := by
  unfold many
  rw [decide_eq_true_eq, Int.tdiv_eq_ediv_of_nonneg (by omega)]
  have := Int.ediv_nonneg (show 0 ≤ ((t.toNat : Nat) : Int) by omega) (show 0 ≤ r by omega)
  omega
theorem hold_le {t d r : Int} (h0 : 0 ≤ t) (hd : 0 ≤ d) (hr : 1 ≤ r) : hold t d r ≤ t.toNat := by
  by_cases h : hold t d r ≤ t.toNat
  · exact h
  · have := hold_false (show t.toNat < hold t d r by omega)
    rw [many_term h0 hd hr] at this
    cases this
theorem hold_true {t d r : Int} (h0 : 0 ≤ t) (hd : 0 ≤ d) (hr : 1 ≤ r) : many t d r (hold t d r) = true := by
  rcases (first_spec (many t d r) (t.toNat + 1) 0).2.2.2 with h | h
  · have := hold_le h0 hd hr
    unfold hold at this
    omega
  · exact h
theorem hold_more {t t' d r : Int} (h0 : 0 ≤ t) (h : t ≤ t') (hd : 0 ≤ d) (hr : 1 ≤ r) : hold t d r ≤ hold t' d r := by
  by_cases hh : hold t d r ≤ hold t' d r
  · exact hh
  · have h1 := hold_false (show hold t' d r < hold t d r by omega)
    have h2 := hold_true (t := t') (by omega) hd hr
    unfold many at h1 h2
    rw [decide_eq_true_eq] at h2
    rw [decide_eq_false_iff_not] at h1
    omega
theorem hold_less {t d d' r : Int} (h0 : 0 ≤ t) (hd : 0 ≤ d) (h : d ≤ d') (hr : 1 ≤ r) : hold t d' r ≤ hold t d r := by
  by_cases hh : hold t d' r ≤ hold t d r
  · exact hh
  · have h1 := hold_false (show hold t d r < hold t d' r by omega)
    have h2 := hold_true h0 hd hr
    unfold many at h1 h2
    rw [decide_eq_true_eq] at h2
    rw [decide_eq_false_iff_not] at h1
    omega
/-- May terms be? -/
def mayt (t d r : Int) : Prop := 1 ≤ t ∧ t ≤ 1000000 ∧ 0 ≤ d ∧ d ≤ 1099511627776 ∧ 1 ≤ r ∧ r ≤ 1099511627776 ∧ 1 ≤ hold t d r
instance (t d r : Int) : Decidable (mayt t d r) := inferInstanceAs (Decidable (_ ∧ _))
/-- May a vote be? -/
def mayv (b c d : Int) : Prop := (b = -1 ∨ (0 ≤ b ∧ b < 64)) ∧ 0 ≤ c ∧ 0 ≤ d ∧ c ≤ 2199023255552 ∧ d ≤ 2199023255552
instance (b c d : Int) : Decidable (mayv b c d) := inferInstanceAs (Decidable (_ ∧ _))
theorem hold_eq (t d r : Int) : vote_Hold.f t d r = some (if mayt t d r then ((hold t d r : Int), 0) else (0, 1)) := by
  unfold vote_Hold.f clock_Guard.f
  by_cases hg : 0 ≤ t ∧ t ≤ 1099511627776 ∧ 0 ≤ d ∧ d ≤ 1099511627776 ∧ 1 ≤ r ∧ r ≤ 1099511627776
  · rw [if_pos hg, Option.bind_some, if_pos rfl]
    show (if t < 1 then some (0, 1) else if t > 1000000 then some (0, 1) else if ((hold t d r : Nat) : Int) < 1 then some (0, 1) else some (((hold t d r : Nat) : Int), 0)) = _
    by_cases h1 : t < 1
    · rw [if_pos h1, if_neg (c := mayt t d r) (fun h => by have := h.1; omega)]
    · by_cases h2 : t > 1000000
      · rw [if_neg h1, if_pos h2, if_neg (c := mayt t d r) (fun h => by have := h.2.1; omega)]
      · by_cases h3 : ((hold t d r : Nat) : Int) < 1
        · rw [if_neg h1, if_neg h2, if_pos h3, if_neg (c := mayt t d r) (fun h => by have := h.2.2.2.2.2.2; omega)]
        · rw [if_neg h1, if_neg h2, if_neg h3, if_pos (c := mayt t d r) ⟨by omega, by omega, hg.2.2.1, hg.2.2.2.1, hg.2.2.2.2.1, hg.2.2.2.2.2, by omega⟩]
  · rw [if_neg hg, if_neg (c := mayt t d r) (fun h => hg ⟨by have := h.1; omega, by have := h.2.1; omega, h.2.2.1, h.2.2.2.1, h.2.2.2.2.1, h.2.2.2.2.2.1⟩)]
    rfl
theorem may_eq (t d r : Int) : vote_May.f t d r = some (if mayt t d r then 0 else 1) := by
  unfold vote_May.f
  rw [hold_eq]
  by_cases h : mayt t d r
  · rw [if_pos h, if_pos h]; rfl
  · rw [if_neg h, if_neg h]; rfl
theorem node_eq (a : Int) : vote_node.f a = some (decide (0 ≤ a ∧ a < 64)) := by
  unfold vote_node.f
  by_cases h : 0 ≤ a <;> simp [h]
theorem moment_eq (a : Int) : vote_moment.f a = some (decide (0 ≤ a ∧ a ≤ 1099511627776)) := by
  unfold vote_moment.f
  by_cases h : 0 ≤ a <;> simp [h]
theorem check_eq (a b c d : Int) : vote_Check.f a b c d = some (if mayv b c d then 0 else 1) := by
  have hmn : mn c d < 0 ↔ ¬(0 ≤ c ∧ 0 ≤ d) := by unfold mn; split <;> omega
  have hmx : mx c d > 2199023255552 ↔ ¬(c ≤ 2199023255552 ∧ d ≤ 2199023255552) := by unfold mx; split <;> omega
  have key : ∀ (P : Prop), P → (∀ q : Prop, (q ↔ (b = -1 ∨ (0 ≤ b ∧ b < 64))) → P → q) → True := fun _ _ _ => trivial
  have tail : (b = -1 ∨ (0 ≤ b ∧ b < 64)) → (if mn c d < 0 then some (1 : Int) else if mx c d > 2199023255552 then some 1 else some 0) = some (if mayv b c d then 0 else 1) := by
    intro hb
    by_cases h1 : mn c d < 0
    · rw [if_pos h1, if_neg (c := mayv b c d) (fun h => hmn.1 h1 ⟨h.2.1, h.2.2.1⟩)]
    · rw [if_neg h1]
      by_cases h2 : mx c d > 2199023255552
      · rw [if_pos h2, if_neg (c := mayv b c d) (fun h => hmx.1 h2 ⟨h.2.2.2.1, h.2.2.2.2⟩)]
      · have e1 : 0 ≤ c ∧ 0 ≤ d := Decidable.not_not.1 (fun h => h1 (hmn.2 h))
        have e2 : c ≤ 2199023255552 ∧ d ≤ 2199023255552 := Decidable.not_not.1 (fun h => h2 (hmx.2 h))
        rw [if_neg h2, if_pos (c := mayv b c d) ⟨hb, e1.1, e1.2, e2.1, e2.2⟩]
  unfold vote_Check.f
  by_cases hb : b = -1
  · rw [if_pos hb]
    exact tail (.inl hb)
  · rw [if_neg hb, node_eq, Option.bind_some]
    by_cases hn : 0 ≤ b ∧ b < 64
    · rw [if_pos (by simpa using hn)]
      exact tail (.inr hn)
    · rw [if_neg (by simpa using hn), if_neg (c := mayv b c d) (fun h => by have := h.1; omega)]
/-- Is it barred? -/
def bars (E who until_ wait from_ epoch now : Int) : Bool := bar0 wait now || bar1 E epoch || bar2 E who from_ epoch || bar3 who until_ from_ now
/-- May it be asked? -/
def maya (t d r who until_ wait from_ now : Int) : Prop := mayt t d r ∧ mayv who until_ wait ∧ (0 ≤ from_ ∧ from_ < 64) ∧ 0 ≤ now ∧ now ≤ 1099511627776
instance (t d r who until_ wait from_ now : Int) : Decidable (maya t d r who until_ wait from_ now) := inferInstanceAs (Decidable (_ ∧ _))
theorem ask_ok {t d r E who until_ wait from_ epoch now : Int} (h : maya t d r who until_ wait from_ now) :
    vote_Ask.f t d r E who until_ wait from_ epoch now = if bars E who until_ wait from_ epoch now = true then some (E, who, until_, wait, false, 0) else some (epoch, from_, wrap64 (now + t), wait, true, 0) := by
  unfold vote_Ask.f
  rw [may_eq, if_pos h.1, Option.bind_some, if_pos rfl, check_eq, if_pos h.2.1, Option.bind_some, if_pos rfl, node_eq, Option.bind_some, if_pos (by simpa using h.2.2.1), moment_eq, Option.bind_some, if_pos (by simpa using h.2.2.2)]
  rfl
theorem ask_no {t d r E who until_ wait from_ epoch now : Int} (h : ¬maya t d r who until_ wait from_ now) :
    vote_Ask.f t d r E who until_ wait from_ epoch now = some (E, who, until_, wait, false, 1) := by
  unfold vote_Ask.f
  rw [may_eq]
  by_cases h1 : mayt t d r
  · rw [if_pos h1, Option.bind_some, if_pos rfl, check_eq]
    by_cases h2 : mayv who until_ wait
    · rw [if_pos h2, Option.bind_some, if_pos rfl, node_eq, Option.bind_some]
      by_cases h3 : 0 ≤ from_ ∧ from_ < 64
      · rw [if_pos (by simpa using h3), moment_eq, Option.bind_some, if_neg (fun q => h ⟨h1, h2, h3, by simpa using q⟩)]
      · rw [if_neg (by simpa using h3)]
    · rw [if_neg h2, Option.bind_some, if_neg (by decide)]
  · rw [if_neg h1, Option.bind_some, if_neg (by decide)]
end Go.Proofs.Ytgfblogneggpmaa.Vote
