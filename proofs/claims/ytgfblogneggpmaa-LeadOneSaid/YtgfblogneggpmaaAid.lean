/- Small lemmas beside the print's words: what is read with its footprint lies in none of the blocks that the footprint leaves out. -/
import Derived.Test.YtgfblogneggpmaaWMore
import Derived.Test.YtgfblogneggpmaaWFootNe
import Derived.Test.YtgfblogneggpmaaWShare
namespace Go.Proofs.YtgfblogneggpmaaW.PrintWords
open Go.RowKit
namespace Kd
theorem V_away {α : Type} {d : Kd α} {e base g : Nat} {W : World} {ok : Nat → Prop} {v : Value} {xs : List α} (h : V d e W base ok v xs) (hn : 0 < xs.length) (hs : 0 < d.sz) (hok : ∀ k, ok k → k ≠ g) : some g ≠ v.ownBlock := by
  obtain ⟨A, c, rfl, _, hF⟩ := h
  intro he
  cases A with
  | none => simp [Value.ownBlock] at he
  | some ad =>
    have e1 : g = ad.block := by simpa [Value.ownBlock] using he
    exact hok _ (F_in hF rfl hn hs) e1.symm
theorem V_pos {α : Type} {xs : List α} {j : Int} (h0 : 0 ≤ j) (h1 : j < (xs.length : Int)) : 0 < xs.length := by omega
end Kd
end Go.Proofs.YtgfblogneggpmaaW.PrintWords
