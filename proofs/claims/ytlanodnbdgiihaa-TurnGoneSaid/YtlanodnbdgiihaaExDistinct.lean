/- turn.distinct, by hand: numbers of nodes, none twice; what was met lies in an array. -/
import Derived.Test.YtlanodnbdgiihaaFnx0
import Derived.Test.YtlanodnbdgiihaaHand
import Derived.BigRegion
import Derived.Deep.LoopGhost
namespace Go.Proofs.Ytlanodnbdgiihaa.Fn
open Go.RowKit Go.Proofs.YtlanodnbdgiihaaW.PrintWords Go.Proofs.YtlanodnbdgiihaaW.PrintLast Go.Proofs.YtlanodnbdgiihaaW.PrintMore
set_option linter.unusedVariables false
set_option linter.unusedSimpArgs false
set_option maxRecDepth 100000
def distd (l : List Int) : Bool := decide (∀ x ∈ l, 0 ≤ x ∧ x < 64) && decide l.Nodup
def turn_distinct.f (l0 : List Int) : Option (Bool) := some (distd l0)
/-- Which numbers were met. -/
structure Met (w : World) (g : Nat) (l : List Int) : Prop where
  mk :: (out : ∃ cs : Array Value, w.heap[g]? = some (.cells cs 73 (0, 0)) ∧ cs.size = 64 ∧ ∀ n : Nat, n < 64 → cs[n]? = some (.bool (decide ((n : Int) ∈ l))))
theorem Met.cell {w : World} {g : Nat} {l : List Int} (h : Met w g l) (n : Nat) (hn : n < 64) : w.cell? ⟨g, n, none⟩ = some (.bool (decide ((n : Int) ∈ l))) := by
  obtain ⟨cs, h1, h2, h3⟩ := h.out
  exact (blk_cell h1 n).trans (h3 n hn)
theorem Met.frozen {w : World} {g : Nat} {l : List Int} (h : Met w g l) (n : Nat) : w.frozen? ⟨g, n, none⟩ = false := by
  obtain ⟨cs, h1, _⟩ := h.out
  exact blk_frozen h1 n
theorem Met.drew {w : World} {g : Nat} {l : List Int} (h : Met w g l) : Met w.drew g l := by
  obtain ⟨cs, h1, h2⟩ := h.out
  exact ⟨cs, blk_drew h1, h2⟩
theorem Met.set {w : World} {g : Nat} {l : List Int} (h : Met w g l) (n : Nat) (hn : n < 64) : Met (w.setCell ⟨g, n, none⟩ (.bool true)) g (l ++ [(n : Int)]) := by
  obtain ⟨cs, h1, h2, h3⟩ := h.out
  refine ⟨⟨cs.setIfInBounds n (.bool true), blk_set h1 n _, by simp [h2], fun m hm => ?_⟩⟩
  rw [Array.getElem?_setIfInBounds]
  by_cases e : n = m
  · subst e
    rw [if_pos rfl, if_pos (by omega)]
    simp
  · rw [if_neg e, h3 m hm]
    have : ((m : Int) ∈ l ++ [(n : Int)]) ↔ (m : Int) ∈ l := by simp; omega
    simp only [this]
theorem take_snoc {l : List Int} {i : Nat} (hi : i < l.length) : l.take (i + 1) = l.take i ++ [rd l (i : Int)] := by
  rw [List.take_succ_eq_append_getElem hi]
  show _ = l.take i ++ [l.getD ((i : Int)).toNat 0]
  simp [hi]
theorem mem_rd {l : List Int} {i : Nat} (hi : i < l.length) : rd l (i : Int) ∈ l := by
  have : rd l (i : Int) = l[i] := by show l.getD ((i : Int)).toNat 0 = l[i]; simp [hi]
  rw [this]
  exact List.getElem_mem hi
set_option maxHeartbeats 1000000 in
theorem distinct_any (A : Option Addr) (c : Nat) (l : List Int) (w : World) (hr : Kd.C (Kd.int .i64) w A l.length l) (hc : l.length ≤ c) :
    Calls Try.prog 40 #[.slice A l.length c] w fun e w' => e = .returned (.bool (distd l)) ∧ Below w.heap.size w w' := by
  have hu73 := Try.underlying73
  have hml : l.length ≤ 9223372036854775807 := by
    have := hr
    unfold Kd.C ReadsRow at this
    simp only [maxLen] at this
    omega
  have HR := Lib.hid hr
  clear hr
  go_enter Try.func40, Try.ntmps40
  go_wp2_with fail
  go_loopg [8] l.length (fun gg v8 wr => ∃ i : Nat, v8 = .int .i64 (i : Int) ∧ Aside0 (i ≤ l.length) ∧ Aside0 (l.length ≤ gg + i) ∧ Aside0 (∀ x ∈ l.take i, 0 ≤ x ∧ x < 64) ∧ Aside0 ((l.take i).Nodup) ∧ Aside0 (Met wr w.heap.size (l.take i)) ∧ Aside0 (Below w.heap.size w wr))
  case atStart => exact ⟨0, rfl, ⟨Nat.zero_le _⟩, ⟨by omega⟩, ⟨fun x h => by simp at h⟩, ⟨by simp⟩, ⟨⟨⟨Array.replicate 64 (.bool false), blk_new w _, by simp, fun n hn => by simp [hn]⟩⟩⟩, ⟨(Below.refl _ w).alloc (Nat.le_refl _) _⟩⟩
  case round =>
    obtain ⟨i, rfl, a1, a2, a3, a4, a5, a6⟩ := hrel
    by_cases hi : i < l.length
    · obtain ⟨ad, rfl, hx⟩ := Kd.at_int (Kd.C_below HR.out a6.out) (i : Int) (by omega) (by omega)
      rw [Int.toNat_natCast] at hx
      have hin := mem_rd hi
      have hts := take_snoc hi
      have HS := Lib.hid hts
      clear hts
      generalize hxx : rd l (i : Int) = x at hx hin HS
      have bad1 : ¬(0 ≤ x ∧ x < 64) → false = distd l := by
        intro h
        unfold distd
        rw [decide_eq_false (fun q => h (q x hin))]
        rfl
      have bad2 : x ∈ l.take i → false = distd l := by
        intro h
        unfold distd
        have : ¬l.Nodup := by
          intro q
          have q2 := q.sublist (List.take_sublist (i + 1) l)
          rw [HS.out, List.nodup_append] at q2
          exact q2.2.2 x h x (by simp) rfl
        rw [decide_eq_false this, Bool.and_false]
      have B1 := Lib.hid bad1
      have B2 := Lib.hid bad2
      clear bad1 bad2 hxx
      by_cases h1 : x < 0
      · have c1 : decide (x < 0) = true := by simpa using h1
        go_wp2
        all_goals
          go_ret
          exact ⟨by rw [← B1.out (by omega)]; rfl, a6.out⟩
      · have c1 : decide (x < 0) = false := by simpa using h1
        by_cases h2 : 64 ≤ x
        · have c2 : decide (64 ≤ x) = true := by simpa using h2
          go_wp2
          all_goals
            go_ret
            exact ⟨by rw [← B1.out (by omega)]; rfl, a6.out⟩
        · have c2 : decide (64 ≤ x) = false := by simpa using h2
          obtain ⟨n, rfl⟩ := Int.eq_ofNat_of_zero_le (show 0 ≤ x by omega)
          have hn : n < 64 := by omega
          have hcell := a5.out.cell n hn
          have hfr := a5.out.frozen n
          cases hm : decide ((n : Int) ∈ l.take i) with
          | true =>
            rw [hm] at hcell
            go_wp2
            all_goals
              go_ret
              exact ⟨by rw [← B2.out (of_decide_eq_true hm)]; rfl, a6.out⟩
          | false =>
            rw [hm] at hcell
            go_wp2
            all_goals
              go_roundg (l.length - (i + 1))
              case measure => have := a2.out; omega
              case rel =>
                refine ⟨i + 1, by first | rfl | go_num, ⟨hi⟩, ⟨by omega⟩, ⟨?_⟩, ⟨?_⟩, ⟨?_⟩, ⟨?_⟩⟩
                · intro x hx
                  rw [HS.out] at hx
                  rcases List.mem_append.1 hx with hx | hx
                  · exact a3.out x hx
                  · rw [List.mem_singleton.1 hx]
                    exact ⟨by omega, by omega⟩
                · rw [HS.out, List.nodup_append]
                  refine ⟨a4.out, by simp, ?_⟩
                  intro x hx y hy e
                  rw [List.mem_singleton.1 hy] at e
                  rw [e] at hx
                  rw [decide_eq_true hx] at hm
                  cases hm
                · rw [HS.out]
                  exact a5.out.set n hn
                · exact a6.out.setCell (p := ⟨w.heap.size, n, none⟩) (Nat.le_refl _) _
    · have e : i = l.length := by have := a1.out; omega
      subst e
      have hd : distd l = true := by
        have h3 := a3.out
        have h4 := a4.out
        rw [List.take_length] at h3 h4
        unfold distd
        rw [decide_eq_true h3, decide_eq_true h4]
        rfl
      go_wp2
      go_ret
      exact ⟨by rw [hd]; rfl, a6.out⟩
theorem turn_distinct.calls (A0 : Option Addr) (c0 : Nat) (l0 : List Int) (r : Bool) (w : World) (hr0 : Kd.C (Kd.int .i64) w A0 l0.length l0) (hc0 : l0.length ≤ c0) (h : turn_distinct.f l0 = some r) :
    Calls Try.prog 40 #[.slice A0 l0.length c0] w fun e w' => e = .returned (.bool r) ∧ Below w.heap.size w w' := by
  obtain rfl := Option.some.inj h
  exact distinct_any A0 c0 l0 w hr0 hc0
end Go.Proofs.Ytlanodnbdgiihaa.Fn
