/- What a vote's grants come to, step by step: the plain law behind VoteOnce, VoteEpochs, VoteWaits. -/
import Derived.Test.YtgfblogneggpmaaFnx0
import Derived.Test.YtgfblogneggpmaaFnxok
import Derived.Test.YtgfblogneggpmaaVote
namespace Go.Proofs.Ytgfblogneggpmaa.Vote
open Go.RowKit Go.Proofs.Ytgfblogneggpmaa.Fn Go.Proofs.YtgfblogneggpmaaW.PrintWords Go.Proofs.YtgfblogneggpmaaW.PrintMore

/-- What is so of a vote, and of its grants, behind n steps. -/
structure Inv (t : Int) (n : Nat) (now : Int) (out : List S33) (again : List Int) (E who until_ wait : Int) : Prop where
  n0 : 0 ≤ now
  n1 : now ≤ 15 * (n : Int)
  l1 : out.length ≤ n
  l2 : again.length ≤ n
  w : who = -1 ∨ (0 ≤ who ∧ who < 64)
  u0 : 0 ≤ until_
  u1 : until_ ≤ 15 * (n : Int) + t
  w0 : 0 ≤ wait
  w1 : wait ≤ 15 * (n : Int) + t
  g : ∀ x ∈ out, 0 ≤ x.f1 ∧ 0 ≤ x.f2 ∧ x.f2 ≤ now ∧ (x.f2 + t ≤ now ∨ x.f2 + t ≤ wait ∨ (x.f1 = who ∧ x.f2 + t ≤ until_)) ∧ x.f0 ≠ 0 ∧ x.f0 ≤ E ∧ (x.f0 = E → x.f1 = who)
  p : out.Pairwise (fun x y => (x.f1 ≠ y.f1 → x.f2 + t ≤ y.f2) ∧ x.f0 ≤ y.f0 ∧ (x.f0 = y.f0 → x.f1 = y.f1))
  a : ∀ a ∈ again, 0 ≤ a ∧ a ≤ now ∧ a + t ≤ wait
  q : ∀ x ∈ out, ∀ a ∈ again, x.f2 > a → a + t ≤ x.f2
theorem Inv.start {t : Int} (ht : 0 ≤ t) : Inv t 0 0 [] [] 0 (-1) 0 0 :=
  ⟨by omega, by omega, Nat.le_refl _, Nat.le_refl _, .inl rfl, by omega, by omega, by omega, by omega, fun x h => by simp at h, List.Pairwise.nil, fun x h => by simp at h, fun x h => by simp at h⟩
/-- Nothing granted; time goes on. -/
theorem Inv.stay {t : Int} {n : Nat} {now : Int} {out : List S33} {again : List Int} {E who until_ wait : Int} (h : Inv t n now out again E who until_ wait) (y : Int) (hy : 0 ≤ y ∧ y ≤ 15) : Inv t (n + 1) (now + y) out again E who until_ wait := by
  obtain ⟨n0, n1, l1, l2, w, u0, u1, w0, w1, g, p, a, q⟩ := h
  refine ⟨by omega, by omega, by omega, by omega, w, u0, by omega, w0, by omega, ?_, p, ?_, q⟩
  · intro x hx
    obtain ⟨g1, g2, g3, g4, g5⟩ := g x hx
    exact ⟨g1, g2, by omega, by omega, g5⟩
  · intro x hx
    obtain ⟨a1, a2, a3⟩ := a x hx
    exact ⟨a1, by omega, a3⟩
/-- It begins again. -/
theorem Inv.again {t : Int} {n : Nat} {now : Int} {out : List S33} {again : List Int} {E who until_ wait : Int} (h : Inv t n now out again E who until_ wait) (ht : 0 ≤ t) (y : Int) (hy : 0 ≤ y ∧ y ≤ 15) : Inv t (n + 1) (now + y) out (again ++ [now + y]) E who 0 (now + y + t) := by
  obtain ⟨n0, n1, l1, l2, w, u0, u1, w0, w1, g, p, a, q⟩ := h
  refine ⟨by omega, by omega, by omega, by simp; omega, w, by omega, by omega, by omega, by omega, ?_, p, ?_, ?_⟩
  · intro x hx
    obtain ⟨g1, g2, g3, g4, g5⟩ := g x hx
    exact ⟨g1, g2, by omega, .inr (.inl (by omega)), g5⟩
  · intro x hx
    rcases List.mem_append.1 hx with hx | hx
    · obtain ⟨a1, a2, a3⟩ := a x hx
      exact ⟨a1, by omega, by omega⟩
    · rw [List.mem_singleton.1 hx]
      exact ⟨by omega, by omega, by omega⟩
  · intro x hx z hz
    rcases List.mem_append.1 hz with hz | hz
    · exact q x hx z hz
    · rw [List.mem_singleton.1 hz]
      have := (g x hx).2.2.1
      intro h
      omega
/-- It is granted. -/
theorem Inv.grant {t : Int} {n : Nat} {now : Int} {out : List S33} {again : List Int} {E who until_ wait : Int} (h : Inv t n now out again E who until_ wait) (ht : 0 ≤ t) (y : Int) (hy : 0 ≤ y ∧ y ≤ 15) (from_ epoch : Int) (hf : 0 ≤ from_ ∧ from_ < 64) (hb : bars E who until_ wait from_ epoch (now + y) = false) :
    Inv t (n + 1) (now + y) (out ++ [⟨epoch, from_, now + y⟩]) again epoch from_ (now + y + t) wait := by
  obtain ⟨n0, n1, l1, l2, w, u0, u1, w0, w1, g, p, a, q⟩ := h
  unfold bars bar0 bar1 bar2 bar3 barO at hb
  simp only [Bool.or_eq_false_iff, decide_eq_false_iff_not, Bool.and_eq_false_iff, beq_eq_false_iff_ne, bne_eq_false_iff_eq] at hb
  obtain ⟨⟨⟨b0, b1, b2⟩, b3⟩, b4⟩ := hb
  have key : ∀ x ∈ out, x.f1 ≠ from_ → x.f2 + t ≤ now + y := by
    intro x hx hne
    obtain ⟨g1, g2, g3, g4, g5⟩ := g x hx
    rcases g4 with g4 | g4 | ⟨g4, g4'⟩
    · omega
    · omega
    · rcases b4 with b4 | b4 | b4 <;> omega
  refine ⟨by omega, by omega, by simp; omega, by omega, .inr hf, by omega, by omega, w0, by omega, ?_, ?_, ?_, ?_⟩
  · intro x hx
    rcases List.mem_append.1 hx with hx | hx
    · have hk := key x hx
      obtain ⟨g1, g2, g3, g4, g5, g6, g7⟩ := g x hx
      refine ⟨g1, g2, by omega, ?_, g5, by omega, ?_⟩
      · by_cases he : x.f1 = from_
        · exact .inr (.inr ⟨he, by omega⟩)
        · exact .inl (hk he)
      · intro he
        have hE : x.f0 = E := by omega
        have := g7 hE
        rcases b3 with b3 | b3 | b3 <;> omega
    · rw [List.mem_singleton.1 hx]
      exact ⟨hf.1, by simp only; omega, by simp only; omega, .inr (.inr ⟨rfl, by simp only; omega⟩), b2, by simp only; omega, fun _ => rfl⟩
  · refine List.pairwise_append.2 ⟨p, List.pairwise_singleton _ _, ?_⟩
    intro x hx z hz
    rw [List.mem_singleton.1 hz]
    have hk := key x hx
    obtain ⟨g1, g2, g3, g4, g5, g6, g7⟩ := g x hx
    refine ⟨hk, by simp only; omega, ?_⟩
    intro he
    simp only at he ⊢
    have hE : x.f0 = E := by omega
    have := g7 hE
    rcases b3 with b3 | b3 | b3 <;> omega
  · intro x hx
    obtain ⟨a1, a2, a3⟩ := a x hx
    exact ⟨a1, by omega, a3⟩
  · intro x hx z hz
    rcases List.mem_append.1 hx with hx | hx
    · exact q x hx z hz
    · rw [List.mem_singleton.1 hx]
      have := a z hz
      simp only
      omega
end Go.Proofs.Ytgfblogneggpmaa.Vote
