/- A queue of timers in memory: Less, Swap, Pop, Push by hand. -/
import Derived.Test.YtahppppkepcbkaaFnx0
import Derived.Test.YtahppppkepcbkaaFnx19
import Derived.Test.YtahppppkepcbkaaFnx20
import Derived.Test.YtahppppkepcbkaaFnx21
import Derived.Test.YtahppppkepcbkaaFnx22
import Derived.Test.YtahppppkepcbkaaTm
import Derived.Test.YtahppppkepcbkaaHand
import Derived.BigRegion
import Derived.Deep.LoopGhost
import Derived.Deep.RegionHeld3
import Derived.Deep.RegionWith
import Derived.Laws.MakeOwn
import Derived.OwnWalk
import Derived.Handy
namespace Go.Proofs.Ytahppppkepcbkaa.Fn
open Go.RowKit Go.Proofs.YtahppppkepcbkaaW.PrintWords Go.Proofs.YtahppppkepcbkaaW.PrintLast Go.Proofs.YtahppppkepcbkaaW.PrintMore Go.Proofs.Ytahppppkepcbkaa.Tm
set_option linter.unusedVariables false
set_option linter.unusedSimpArgs false
set_option maxRecDepth 100000
/-- The first one that is not 0. -/
def orl : List Int → Int
  | [] => 0
  | a :: l => if a = 0 then orl l else a
theorem or_l0 (l : List Int) (hl : l.length ≤ 1000) : ∀ (d i K : Nat), i + d = l.length → d + 1 ≤ K → cmp_Or_int.l0 K 0 l (l.length : Int) (i : Int) = some (orl (l.drop i))
  | 0, i, K, hi, hK => by
    obtain ⟨K, rfl⟩ : ∃ m, K = m + 1 := ⟨K - 1, by omega⟩
    rw [cmp_Or_int.l0, if_neg (by omega), List.drop_of_length_le (by omega)]
    rfl
  | d + 1, i, K, hi, hK => by
    obtain ⟨K, rfl⟩ : ∃ m, K = m + 1 := ⟨K - 1, by omega⟩
    have h1 : i < l.length := by omega
    have e : rd l (i : Int) = l[i] := by simp [rd, h1]
    rw [cmp_Or_int.l0, if_pos (by omega), if_pos (by omega), if_pos (by omega), e, show wrap64 ((i : Int) + 1) = ((i + 1 : Nat) : Int) by unfold wrap64; omega, or_l0 l hl d (i + 1) K (by omega) (by omega), List.drop_eq_getElem_cons h1, orl]
    split <;> rfl
theorem or_eq (K : Nat) (a b c d : Int) (hK : 10 ≤ K) : cmp_Or_int.f K [a, b, c, d] = some (if a = 0 then (if b = 0 then (if c = 0 then d else c) else b) else a) := by
  have h := or_l0 [a, b, c, d] (by simp) 4 0 K rfl (by omega)
  unfold cmp_Or_int.f
  rw [show ((0 : Nat) : Int) = 0 from rfl] at h
  rw [h, List.drop_zero]
  simp only [orl]
  by_cases h3 : d = 0
  · rw [if_pos h3, h3]
  · rw [if_neg h3]
theorem cmp64_eq (a b : Int) : cmp_Compare_int64.f a b = some (cmp3 a b) := by
  unfold cmp_Compare_int64.f cmp_isNaN_int64.f cmp3
  simp only [Option.bind_some, bne_self_eq_false]
  by_cases h : a < b
  · simp [h]
  · by_cases h' : a > b <;> simp [h, h']
theorem cmpi_eq (a b : Int) : cmp_Compare_int.f a b = some (cmp3 a b) := by
  unfold cmp_Compare_int.f cmp_isNaN_int.f cmp3
  simp only [Option.bind_some, bne_self_eq_false]
  by_cases h : a < b
  · simp [h]
  · by_cases h' : a > b <;> simp [h, h']
theorem cmpu_eq (a b : Int) : cmp_Compare_uint64.f a b = some (cmp3 a b) := by
  unfold cmp_Compare_uint64.f cmp_isNaN_uint64.f cmp3
  simp only [Option.bind_some, bne_self_eq_false]
  by_cases h : a < b
  · simp [h]
  · by_cases h' : a > b <;> simp [h, h']
/-- Which comes first, as a number. -/
def tcmp (a b : S52) : Int := if cmp3 a.f0 b.f0 = 0 then (if cmp3 a.f1 b.f1 = 0 then (if cmp3 a.f2 b.f2 = 0 then cmp3 a.f3 b.f3 else cmp3 a.f2 b.f2) else cmp3 a.f1 b.f1) else cmp3 a.f0 b.f0
theorem cmp3_cases (a b : Int) : (a < b ∧ cmp3 a b = -1) ∨ (a = b ∧ cmp3 a b = 0) ∨ (b < a ∧ cmp3 a b = 1) := by
  unfold cmp3
  by_cases h : a < b
  · exact Or.inl ⟨h, if_pos h⟩
  · by_cases h' : a > b
    · exact Or.inr (Or.inr ⟨h', by rw [if_neg h, if_pos h']⟩)
    · exact Or.inr (Or.inl ⟨by omega, by rw [if_neg h, if_neg h']⟩)
theorem tcmp_lt (a b : S52) : tcmp a b < 0 ↔ tlt a b := by
  unfold tcmp tlt
  rcases cmp3_cases a.f0 b.f0 with ⟨h0, e0⟩ | ⟨h0, e0⟩ | ⟨h0, e0⟩ <;> rcases cmp3_cases a.f1 b.f1 with ⟨h1, e1⟩ | ⟨h1, e1⟩ | ⟨h1, e1⟩ <;> rcases cmp3_cases a.f2 b.f2 with ⟨h2, e2⟩ | ⟨h2, e2⟩ | ⟨h2, e2⟩ <;> rcases cmp3_cases a.f3 b.f3 with ⟨h3, e3⟩ | ⟨h3, e3⟩ | ⟨h3, e3⟩ <;> rw [e0, e1, e2, e3] <;> simp <;> omega
theorem compare_eq (K : Nat) (a b : S52) (hK : 10 ≤ K) : timer_compare.f K a.f0 a.f1 a.f2 a.f3 b.f0 b.f1 b.f2 b.f3 = some (tcmp a b) := by
  unfold timer_compare.f
  rw [cmp64_eq, cmpi_eq, cmpi_eq, cmpu_eq, Option.bind_some, Option.bind_some, Option.bind_some, Option.bind_some, or_eq K _ _ _ _ hK, Option.bind_some]
  rfl
theorem tless_eq (a b : S52) : timer_Less.f 10 a.f0 a.f1 a.f2 a.f3 b.f0 b.f1 b.f2 b.f3 = some (lt a b) := by
  unfold timer_Less.f
  rw [compare_eq 10 a b (Nat.le_refl _), Option.bind_some]
  unfold lt
  rw [decide_eq_decide.2 (tcmp_lt a b)]
theorem rd_g (l : List S52) (i : Nat) : rd_T52 l (i : Int) = g l i := by simp [rd_T52, g]
set_option maxHeartbeats 1000000 in
theorem qless_any (A : Option Addr) (c : Nat) (l : List S52) (W : World) (hR : Kd.C k52 W A l.length l) (i k : Nat) (hi : i < l.length) (hk : k < l.length) :
    Calls Try.prog 91 #[.slice A l.length c, .int .i64 (i : Int), .int .i64 (k : Int)] W fun e W' => e = .returned (.bool (lt (g l i) (g l k))) ∧ Below W.heap.size W W' := by
  have hu52 := Try.underlying52
  obtain ⟨ad, rfl, hx0, hx1, hx2, hx3⟩ := at_T52 hR (i : Int) (by omega) (by omega)
  obtain ⟨ad', e', hy0, hy1, hy2, hy3⟩ := at_T52 hR (k : Int) (by omega) (by omega)
  cases e'
  rw [Int.toNat_natCast, rd_g] at hx0 hx1 hx2 hx3 hy0 hy1 hy2 hy3
  have hk' := tless_eq (g l i) (g l k)
  have HK := Lib.hid hk'
  clear hR hk'
  generalize g l i = x at *
  generalize g l k = y at *
  obtain ⟨x0, x1, x2, x3⟩ := x
  obtain ⟨y0, y1, y2, y3⟩ := y
  go_enter Try.func91, Try.ntmps91
  go_wp2_with fail
  go_region_with (go_at_call 26; refine (timer_Less.calls 10 _ _ _ _ _ _ _ _ _ _ HK.out).mono ?_; rintro e w1 ⟨rfl, hb⟩; have HB := Lib.hid ((Below.refl W.heap.size W).drew.trans hb); clear hb)
  all_goals go_wp2
  all_goals
    go_ret
    exact ⟨rfl, HB.out⟩
end Go.Proofs.Ytahppppkepcbkaa.Fn
