/- What clock.Far, Near and Ticks come to, and the document's answer: plain facts on numbers and lists. -/
import Derived.Test.YtahppppkepcbkaaFnx0
import Derived.Test.YtahppppkepcbkaaFnx10
import Derived.Test.YtahppppkepcbkaaFnx2
import Derived.Test.YtahppppkepcbkaaFnx3
import Derived.Test.YtahppppkepcbkaaFnx4
import Derived.Test.YtahppppkepcbkaaFnx5
import Derived.Test.YtahppppkepcbkaaGua
import Derived.Test.YtahppppkepcbkaaClk
import Derived.Test.YtahppppkepcbkaaPlay
namespace Go.Proofs.Ytahppppkepcbkaa.Clo
open Go.RowKit Go.Proofs.Ytahppppkepcbkaa.Fn Go.Proofs.YtahppppkepcbkaaW.PrintWords Go.Proofs.YtahppppkepcbkaaW.PrintMore Go.Proofs.Ytahppppkepcbkaa.Gua Go.Proofs.Ytahppppkepcbkaa.Clk
def mT (n : Nat) (l : List S87) : List (List Int) := (List.range (l.length + 1)).map (rowT n l)
def mS (n : Nat) (l : List S87) : List (List Int) := (List.range (l.length + 1)).map (rowS n l)
theorem mT_length (n : Nat) (l : List S87) : (mT n l).length = l.length + 1 := by simp [mT]
theorem mS_length (n : Nat) (l : List S87) : (mS n l).length = l.length + 1 := by simp [mS]
theorem rd3 (n : Nat) (l : List S87) (p : Nat) (hp : p ≤ l.length) : rd_L3 (mT n l) (p : Int) = rowT n l p := by
  unfold rd_L3 mT
  rw [Int.toNat_natCast, List.getD_eq_getElem?_getD, List.getElem?_map, List.getElem?_range (by omega)]
  rfl
theorem rd5 (n : Nat) (l : List S87) (p : Nat) (hp : p ≤ l.length) : rd_L5 (mS n l) (p : Int) = rowS n l p := by
  unfold rd_L5 mS
  rw [Int.toNat_natCast, List.getD_eq_getElem?_getD, List.getElem?_map, List.getElem?_range (by omega)]
  rfl
theorem rdT (n : Nat) (l : List S87) (p j : Nat) (hj : j < n) : rd (rowT n l p) (j : Int) = tk (pnd l) (pwh l) (j : Int) p := by
  unfold rd
  rw [Int.toNat_natCast, List.getD_eq_getElem?_getD, rowT_get n l p j hj]
  rfl
theorem rdS (n : Nat) (l : List S87) (p j : Nat) (hj : j < n) : rd (rowS n l p) (j : Int) = since (pnd l) (pwh l) (j : Int) p := by
  unfold rd
  rw [Int.toNat_natCast, List.getD_eq_getElem?_getD, rowS_get n l p j hj]
  rfl
theorem up_eq {n : Nat} {l : List S87} {a p q : Nat} (ha : a < n) (hq : q ≤ l.length) : clock_history_up.f (mT n l) (mS n l) (a : Int) (p : Int) (q : Int) = some (upf (pnd l) (pwh l) (a : Int) p q) := by
  unfold clock_history_up.f upf
  rw [mS_length, rd5 n l q hq, rowS_length, rdS n l q a ha, if_pos (by omega), if_pos (by omega), if_pos (by omega), if_pos (by omega)]
  by_cases h : since (pnd l) (pwh l) (a : Int) q ≥ 0
  · rw [if_pos h, Option.some.injEq, decide_eq_decide]
    exact ⟨fun h2 => ⟨h, h2⟩, fun h2 => h2.2⟩
  · rw [if_neg h, decide_eq_false (fun q => h q.1)]
theorem had_eq {n : Nat} {l : List S87} {a p q : Nat} (ha : a < n) (hp : p ≤ l.length) (hq : q ≤ l.length) (hl : l.length ≤ 400) : clock_history_had.f (mT n l) (mS n l) (a : Int) (p : Int) (q : Int) = some (tk (pnd l) (pwh l) (a : Int) q - tk (pnd l) (pwh l) (a : Int) p) := by
  have h1 := tk_rng (pnd l) (pwh l) (a : Int) p
  have h2 := tk_rng (pnd l) (pwh l) (a : Int) q
  unfold clock_history_had.f
  rw [mT_length, rd3 n l q hq, rd3 n l p hp, rowT_length, rowT_length, rdT n l q a ha, rdT n l p a ha, if_pos (by omega), if_pos (by omega), if_pos (by omega), if_pos (by omega), if_pos (by omega), if_pos (by omega), if_pos (by omega), w64_id _ (by omega) (by omega)]
/-- Two nodes, from any place. -/
def nearP (l : List S87) (d r : Int) (tw a b : Nat) : Bool := (List.range (tw + 1)).all fun f => two (pnd l) (pwh l) d r (a : Int) (b : Int) f tw
theorem l2_end {n : Nat} {l : List S87} {tw : Nat} {d r : Int} {a b : Nat} {v : Bool} {G : Nat} (hv : ∀ F, G ≤ F → clock_history_near.l1 F (tw : Int) d r (a : Int) (n : Int) (a : Int) (a : Int) (wrap64 ((b : Int) + 1)) (mT n l) (mS n l) = some v) (F : Nat) (hF : G + 2 ≤ F) :
    clock_history_near.l2 F (tw : Int) d r (a : Int) (b : Int) (-1) (n : Int) (a : Int) (a : Int) (b : Int) (mT n l) (mS n l) = some v := by
  obtain ⟨F, rfl⟩ : ∃ q, F = q + 2 := ⟨F - 2, by omega⟩
  rw [clock_history_near.l2, if_neg (by omega), clock_history_near.j3, if_neg (by decide)]
  exact hv F (by omega)
theorem l2_eq {n : Nat} {l : List S87} {tw : Nat} {d r : Int} {a b : Nat} {v : Bool} {G : Nat} (hl : l.length ≤ 400) (htw : tw ≤ l.length) (hd : bnd d r) (ha : a < n) (hba : b < a)
    (hv : ∀ F, G ≤ F → clock_history_near.l1 F (tw : Int) d r (a : Int) (n : Int) (a : Int) (a : Int) (wrap64 ((b : Int) + 1)) (mT n l) (mS n l) = some v) : ∀ (p F : Nat), p ≤ tw → G + 2 * p + 6 ≤ F →
    clock_history_near.l2 F (tw : Int) d r (a : Int) (b : Int) (p : Int) (n : Int) (a : Int) (a : Int) (b : Int) (mT n l) (mS n l) = some (((List.range (p + 1)).all fun f => two (pnd l) (pwh l) d r (a : Int) (b : Int) f tw) && v) := by
  intro p
  induction p with
  | zero => exact fun F hp hF => l2_step hl htw hd ha hba hv 0 F hp hF (fun F' hF' => by
      rw [show wrap64 (((0 : Nat) : Int) - 1) = -1 by rw [w64_id _ (by omega) (by omega)]; rfl]
      simpa using l2_end hv F' (by omega))
  | succ p ih => exact fun F hp hF => l2_step hl htw hd ha hba hv (p + 1) F hp hF (fun F' hF' => by
      rw [show wrap64 (((p + 1 : Nat) : Int) - 1) = (p : Int) by rw [w64_id _ (by omega) (by omega)]; omega]
      exact ih F' (by omega) (by omega))
  where
  l2_step {n : Nat} {l : List S87} {tw : Nat} {d r : Int} {a b : Nat} {v : Bool} {G : Nat} (hl : l.length ≤ 400) (htw : tw ≤ l.length) (hd : bnd d r) (ha : a < n) (hba : b < a)
    (hv : ∀ F, G ≤ F → clock_history_near.l1 F (tw : Int) d r (a : Int) (n : Int) (a : Int) (a : Int) (wrap64 ((b : Int) + 1)) (mT n l) (mS n l) = some v) (p F : Nat) (hp : p ≤ tw) (hF : G + 2 * p + 6 ≤ F)
    (hn : ∀ F', G + 2 * p + 4 ≤ F' → clock_history_near.l2 F' (tw : Int) d r (a : Int) (b : Int) (wrap64 ((p : Int) - 1)) (n : Int) (a : Int) (a : Int) (b : Int) (mT n l) (mS n l) = some (((List.range p).all fun f => two (pnd l) (pwh l) d r (a : Int) (b : Int) f tw) && v)) :
    clock_history_near.l2 F (tw : Int) d r (a : Int) (b : Int) (p : Int) (n : Int) (a : Int) (a : Int) (b : Int) (mT n l) (mS n l) = some (((List.range (p + 1)).all fun f => two (pnd l) (pwh l) d r (a : Int) (b : Int) f tw) && v) := by
    obtain ⟨F, rfl⟩ : ∃ q, F = q + 2 := ⟨F - 2, by omega⟩
    have hoff : (upf (pnd l) (pwh l) (a : Int) p tw && upf (pnd l) (pwh l) (b : Int) p tw) = false → clock_history_near.j3 (F + 1) (tw : Int) d r (a : Int) (b : Int) (p : Int) (n : Int) (a : Int) (a : Int) (b : Int) false (mT n l) (mS n l) = some (((List.range (p + 1)).all fun f => two (pnd l) (pwh l) d r (a : Int) (b : Int) f tw) && v) := by
      intro h
      have hall : ((List.range (p + 1)).all fun f => two (pnd l) (pwh l) d r (a : Int) (b : Int) f tw) = true := by
        rw [List.all_eq_true]
        intro f hf
        rw [List.mem_range] at hf
        unfold two
        rw [Bool.or_eq_true]
        left
        rw [Bool.not_eq_true']
        cases h1 : upf (pnd l) (pwh l) (a : Int) f tw with
        | false => rfl
        | true =>
          cases h2 : upf (pnd l) (pwh l) (b : Int) f tw with
          | false => rfl
          | true =>
            rw [upf_from _ _ h1 (show f ≤ p by omega), upf_from _ _ h2 (show f ≤ p by omega)] at h
            cases h
      rw [clock_history_near.j3, if_neg (by decide), hall, Bool.true_and]
      exact hv F (by omega)
    rw [clock_history_near.l2, if_pos (by omega), up_eq ha htw, Option.bind_some]
    cases h1 : upf (pnd l) (pwh l) (a : Int) p tw with
    | false =>
      rw [if_neg (by decide)]
      exact hoff (by rw [h1]; rfl)
    | true =>
      rw [if_pos rfl, up_eq (by omega) htw, Option.bind_some]
      cases h2 : upf (pnd l) (pwh l) (b : Int) p tw with
      | false => exact hoff (by rw [h1, h2]; rfl)
      | true =>
        have hma := tk_mono (pnd l) (pwh l) (a : Int) p (tw - p)
        have hmb := tk_mono (pnd l) (pwh l) (b : Int) p (tw - p)
        rw [show p + (tw - p) = tw by omega] at hma hmb
        rw [clock_history_near.j3, if_pos rfl, had_eq ha (by omega) htw hl, Option.bind_some, had_eq (show b < n by omega) (by omega) htw hl, Option.bind_some, List.range_succ, List.all_append, List.all_cons, List.all_nil, Bool.and_true]
        have htwo : two (pnd l) (pwh l) d r (a : Int) (b : Int) p tw = decide (max (tk (pnd l) (pwh l) (a : Int) tw - tk (pnd l) (pwh l) (a : Int) p) (tk (pnd l) (pwh l) (b : Int) tw - tk (pnd l) (pwh l) (b : Int) p) - min (tk (pnd l) (pwh l) (a : Int) tw - tk (pnd l) (pwh l) (a : Int) p) (tk (pnd l) (pwh l) (b : Int) tw - tk (pnd l) (pwh l) (b : Int) p) ≤ d + min (tk (pnd l) (pwh l) (a : Int) tw - tk (pnd l) (pwh l) (a : Int) p) (tk (pnd l) (pwh l) (b : Int) tw - tk (pnd l) (pwh l) (b : Int) p) / r) := by
          unfold two
          rw [h1, h2]
          rfl
        rw [htwo]
        obtain ⟨d0, d1, r0, r1⟩ := hd
        have hx : 0 ≤ tk (pnd l) (pwh l) (a : Int) tw - tk (pnd l) (pwh l) (a : Int) p ∧ tk (pnd l) (pwh l) (a : Int) tw - tk (pnd l) (pwh l) (a : Int) p ≤ 400 := by omega
        have hy : 0 ≤ tk (pnd l) (pwh l) (b : Int) tw - tk (pnd l) (pwh l) (b : Int) p ∧ tk (pnd l) (pwh l) (b : Int) tw - tk (pnd l) (pwh l) (b : Int) p ≤ 400 := by omega
        generalize tk (pnd l) (pwh l) (a : Int) tw - tk (pnd l) (pwh l) (a : Int) p = x at *
        generalize tk (pnd l) (pwh l) (b : Int) tw - tk (pnd l) (pwh l) (b : Int) p = y at *
        have em : mx x y = max x y := by unfold mx; omega
        have en : mn x y = min x y := by unfold mn; omega
        have hM : 0 ≤ max x y ∧ max x y ≤ 400 ∧ min x y ≤ max x y := by omega
        have hN : 0 ≤ min x y ∧ min x y ≤ 400 := by omega
        rw [em, en, if_neg (by omega), Int.tdiv_eq_ediv_of_nonneg hN.1]
        generalize max x y = M at *
        generalize min x y = N at *
        have hq0 : 0 ≤ N / r := Int.ediv_nonneg (by omega) (by omega)
        have hq1 : N / r ≤ N := Int.ediv_le_self _ (by omega)
        generalize N / r = q at *
        rw [w64_id _ (by omega) (by omega), w64_id q (by omega) (by omega), w64_id _ (by omega) (by omega)]
        by_cases hc : M - N > d + q
        · rw [if_pos hc, decide_eq_false (by omega), Bool.and_false, Bool.false_and]
        · rw [if_neg hc, decide_eq_true (by omega), Bool.and_true]
          exact hn F (by omega)
theorem l1_eq {n : Nat} {l : List S87} {tw : Nat} {d r : Int} {a : Nat} {v : Bool} {G : Nat} (hl : l.length ≤ 400) (htw : tw ≤ l.length) (hd : bnd d r) (ha : a < n) (hn : n ≤ 64)
    (hv : ∀ F, G ≤ F → clock_history_near.l0 F (tw : Int) d r (n : Int) (wrap64 ((a : Int) + 1)) (mT n l) (mS n l) = some v) : ∀ (m b F : Nat), b + m = a → G + 1000 * m + 2 ≤ F →
    clock_history_near.l1 F (tw : Int) d r (a : Int) (n : Int) (a : Int) (a : Int) (b : Int) (mT n l) (mS n l) = some (((List.range m).all fun j => nearP l d r tw a (b + j)) && v)
  | 0, b, F, hb, hF => by
    obtain ⟨F, rfl⟩ : ∃ q, F = q + 1 := ⟨F - 1, by omega⟩
    rw [clock_history_near.l1, if_neg (by omega), hv F (by omega)]
    rfl
  | m + 1, b, F, hb, hF => by
    obtain ⟨F, rfl⟩ : ∃ q, F = q + 1 := ⟨F - 1, by omega⟩
    rw [clock_history_near.l1, if_pos (by omega), l2_eq (v := ((List.range m).all fun j => nearP l d r tw a (b + 1 + j)) && v) (G := G + 1000 * m + 2) hl htw hd ha (by omega) (fun F' hF' => by
      rw [show wrap64 ((b : Int) + 1) = ((b + 1 : Nat) : Int) by rw [w64_id _ (by omega) (by omega)]; omega]
      exact l1_eq hl htw hd ha hn hv m (b + 1) F' (by omega) hF') tw F (Nat.le_refl _) (by omega)]
    have e : ((List.range (m + 1)).all fun j => nearP l d r tw a (b + j)) = (nearP l d r tw a b && (List.range m).all fun j => nearP l d r tw a (b + 1 + j)) := by
      rw [List.range_succ_eq_map, List.all_cons, List.all_map, Nat.add_zero]
      congr 2
      funext j
      simp only [Function.comp]
      rw [show b + 1 + j = b + (j + 1) by omega]
    rw [e, Bool.and_assoc]
    rfl
theorem l0_eq {n : Nat} {l : List S87} {tw : Nat} {d r : Int} (hl : l.length ≤ 400) (htw : tw ≤ l.length) (hd : bnd d r) (hn : n ≤ 64) : ∀ (m a F : Nat), a + m = n → 70000 * m + 2 ≤ F →
    clock_history_near.l0 F (tw : Int) d r (n : Int) (a : Int) (mT n l) (mS n l) = some ((List.range m).all fun j => (List.range (a + j)).all fun b => nearP l d r tw (a + j) b)
  | 0, a, F, ha, hF => by
    obtain ⟨F, rfl⟩ : ∃ q, F = q + 1 := ⟨F - 1, by omega⟩
    rw [clock_history_near.l0, if_neg (by omega)]
    rfl
  | m + 1, a, F, ha, hF => by
    obtain ⟨F, rfl⟩ : ∃ q, F = q + 1 := ⟨F - 1, by omega⟩
    rw [clock_history_near.l0, if_pos (by omega)]
    have h := l1_eq (n := n) (l := l) (tw := tw) (d := d) (r := r) (a := a) (v := (List.range m).all fun j => (List.range (a + 1 + j)).all fun b => nearP l d r tw (a + 1 + j) b) (G := 70000 * m + 2) hl htw hd (by omega) hn (fun F' hF' => by
      rw [show wrap64 ((a : Int) + 1) = ((a + 1 : Nat) : Int) by rw [w64_id _ (by omega) (by omega)]; omega]
      exact l0_eq hl htw hd hn m (a + 1) F' (by omega) hF') a 0 F (by omega) (by omega)
    rw [Int.natCast_zero] at h
    rw [h, List.range_succ_eq_map, List.all_cons, List.all_map]
    simp only [Nat.zero_add, Nat.add_zero]
    congr 3
    funext j
    simp only [Function.comp]
    rw [show a + 1 + j = a + (j + 1) by omega]
theorem near_eq {n : Nat} {l : List S87} {tw : Nat} {d r : Int} (hl : l.length ≤ 400) (htw : tw ≤ l.length) (hd : bnd d r) (hn : n ≤ 64) (F : Nat) (hF : 5000000 ≤ F) :
    clock_history_near.f F (mT n l) (mS n l) (n : Int) (tw : Int) d r = some (nearAt (pnd l) (pwh l) d r n tw) := by
  have h := l0_eq (n := n) (l := l) (tw := tw) hl htw hd hn n 0 F (by omega) (by omega)
  rw [Int.natCast_zero] at h
  unfold clock_history_near.f nearAt
  rw [h]
  simp only [Nat.zero_add]
  rfl
theorem far_l0 {n : Nat} {l : List S87} {d r : Int} (hl : l.length ≤ 400) (hd : bnd d r) (hn : n ≤ 64) : ∀ (m i F : Nat), i + m = l.length → 5000001 + m ≤ F →
    clock_Far.l0 F (n : Int) l d r (i : Int) (mT n l) (mS n l) = some (((first (fun k => !nearAt (pnd l) (pwh l) d r n (k + 1)) m i : Nat) : Int), 0)
  | 0, i, F, hi, hF => by
    obtain ⟨F, rfl⟩ : ∃ q, F = q + 1 := ⟨F - 1, by omega⟩
    rw [clock_Far.l0, if_neg (by omega)]
    rfl
  | m + 1, i, F, hi, hF => by
    obtain ⟨F, rfl⟩ : ∃ q, F = q + 1 := ⟨F - 1, by omega⟩
    have e : wrap64 ((i : Int) + 1) = ((i + 1 : Nat) : Int) := by rw [w64_id _ (by omega) (by omega)]; omega
    rw [clock_Far.l0, if_pos (by omega), e, near_eq hl (by omega) hd hn F (by omega), Option.bind_some, first]
    cases h : nearAt (pnd l) (pwh l) d r n (i + 1) with
    | false => rfl
    | true =>
      rw [if_pos rfl, if_neg (by decide)]
      exact far_l0 hl hd hn m (i + 1) F (by omega) (by omega)
theorem playok_iff {a0 : Int} {l : List S87} : playok a0 l = true ↔ (1 ≤ a0 ∧ a0 ≤ 64 ∧ l.length ≤ 400) ∧ okb (pnd l) (pwh l) a0 l.length = true := by
  unfold playok
  rw [Bool.and_eq_true, decide_eq_true_eq]
/-- Of how many beats clocks are near. -/
def farl (a0 : Int) (l : List S87) (d r : Int) : Nat := far (pnd l) (pwh l) d r a0.toNat l.length
theorem far_eq (a0 : Int) (l : List S87) (d r : Int) (F : Nat) (hF : 6000000 ≤ F) :
    clock_Far.f F a0 l d r = some (if playok a0 l = true ∧ bnd d r then (((farl a0 l d r : Nat) : Int), 0) else (0, 1)) := by
  obtain ⟨F, rfl⟩ : ∃ q, F = q + 1 := ⟨F - 1, by omega⟩
  unfold clock_Far.f clock_played.f
  cases hp : playok a0 l with
  | false =>
    rw [if_neg (by decide), Option.bind_some, if_neg (c := false = true ∧ bnd d r) (fun q => by cases q.1)]
    simp only
    rw [if_neg (by decide), clock_Far.j0, if_pos rfl]
  | true =>
    obtain ⟨⟨h1, h2, h3⟩, hok⟩ := playok_iff.1 hp
    rw [if_pos rfl, Option.bind_some]
    simp only
    rw [if_pos trivial, bound_eq, Option.bind_some, clock_Far.j0]
    by_cases hb : bnd d r
    · rw [decide_eq_true hb, if_neg (by decide), if_pos ⟨trivial, hb⟩]
      obtain ⟨n, rfl⟩ := Int.eq_ofNat_of_zero_le (show 0 ≤ a0 by omega)
      have h := far_l0 (n := n) (l := l) (d := d) (r := r) h3 hb (by omega) l.length 0 F (by omega) (by omega)
      rw [Int.natCast_zero] at h
      unfold farl far
      rw [Int.toNat_natCast]
      exact h
    · rw [decide_eq_false hb, if_pos (by decide), if_neg (fun q => hb q.2)]
theorem clock_near_eq (a0 : Int) (l : List S87) (d r : Int) (F : Nat) (hF : 6000000 ≤ F) :
    clock_Near.f F a0 l d r = some (if playok a0 l = true ∧ bnd d r then (decide (farl a0 l d r = l.length), 0) else (false, 1)) := by
  unfold clock_Near.f
  rw [far_eq a0 l d r F hF, Option.bind_some]
  by_cases h : playok a0 l = true ∧ bnd d r
  · rw [if_pos h, if_pos h]
    simp only
    rw [if_pos trivial]
    have : ((((farl a0 l d r : Nat) : Int)) == (l.length : Int)) = decide (farl a0 l d r = l.length) := by
      rw [Bool.eq_iff_iff, beq_iff_eq, decide_eq_true_eq]
      omega
    rw [this]
  · rw [if_neg h, if_neg h]
    simp only
    rw [if_neg (by decide)]
theorem near_all {a0 : Int} {l : List S87} {d r : Int} (hd : 0 ≤ d) : farl a0 l d r = l.length ↔ ∀ t, t ≤ l.length → nearAt (pnd l) (pwh l) d r a0.toNat t = true := far_all _ _ d r _ _ hd
/-- May these be a node, and places? -/
def plc (a0 : Int) (l : List S87) (x p q : Int) : Prop := 0 ≤ x ∧ x < a0 ∧ 0 ≤ p ∧ p ≤ q ∧ q ≤ (l.length : Int)
instance (a0 : Int) (l : List S87) (x p q : Int) : Decidable (plc a0 l x p q) := inferInstanceAs (Decidable (_ ∧ _))
theorem ticks_eq (a0 : Int) (l : List S87) (x p q : Int) (F : Nat) (hF : 1 ≤ F) :
    clock_Ticks.f F a0 l x p q = some (if playok a0 l = true ∧ plc a0 l x p q then (if upf (pnd l) (pwh l) x p.toNat q.toNat = true then (tk (pnd l) (pwh l) x q.toNat - tk (pnd l) (pwh l) x p.toNat, 0) else (0, 7)) else (0, 1)) := by
  obtain ⟨F, rfl⟩ : ∃ q, F = q + 1 := ⟨F - 1, by omega⟩
  have hbad : ∀ R1 R2, clock_Ticks.j0 (F + 1) x p q true R1 R2 = some (0, 1) := fun R1 R2 => by rw [clock_Ticks.j0, if_pos rfl]
  unfold clock_Ticks.f clock_played.f
  cases hp : playok a0 l with
  | false =>
    rw [if_neg (by decide), Option.bind_some, if_neg (c := false = true ∧ _) (fun q => by cases q.1)]
    simp only
    rw [if_neg (by decide)]
    exact hbad _ _
  | true =>
    obtain ⟨⟨h1, h2, h3⟩, hok⟩ := playok_iff.1 hp
    rw [if_pos rfl, Option.bind_some]
    simp only
    rw [if_pos trivial]
    by_cases hc : plc a0 l x p q
    · obtain ⟨c1, c2, c3, c4, c5⟩ := hc
      rw [if_neg (by omega), if_neg (by omega), if_neg (by omega), if_neg (by omega), decide_eq_false (by omega), if_pos ⟨trivial, c1, c2, c3, c4, c5⟩, clock_Ticks.j0, if_neg (by decide)]
      obtain ⟨n, rfl⟩ := Int.eq_ofNat_of_zero_le (show 0 ≤ a0 by omega)
      obtain ⟨X, rfl⟩ := Int.eq_ofNat_of_zero_le c1
      obtain ⟨P, rfl⟩ := Int.eq_ofNat_of_zero_le c3
      obtain ⟨Q, rfl⟩ := Int.eq_ofNat_of_zero_le (show 0 ≤ q by omega)
      have hu := up_eq (n := n) (l := l) (a := X) (p := P) (q := Q) (by omega) (by omega)
      have hh := had_eq (n := n) (l := l) (a := X) (p := P) (q := Q) (by omega) (by omega) (by omega) h3
      unfold mT mS at hu hh
      rw [Int.toNat_natCast, Int.toNat_natCast, Int.toNat_natCast, hu, Option.bind_some]
      cases upf (pnd l) (pwh l) (X : Int) P Q with
      | false => rfl
      | true => rw [if_pos rfl, hh, if_pos rfl]; rfl
    · rw [if_neg (c := True ∧ plc a0 l x p q) (fun q => hc q.2)]
      by_cases c1 : x < 0
      · rw [if_pos c1]; exact hbad _ _
      · rw [if_neg c1]
        by_cases c2 : x ≥ a0
        · rw [if_pos c2]; exact hbad _ _
        · rw [if_neg c2]
          by_cases c3 : p < 0
          · rw [if_pos c3]; exact hbad _ _
          · rw [if_neg c3]
            by_cases c4 : p > q
            · rw [if_pos c4]; exact hbad _ _
            · rw [if_neg c4, decide_eq_true (by
                by_cases c5 : q > (l.length : Int)
                · exact c5
                · exact absurd ⟨by omega, by omega, by omega, by omega, by omega⟩ hc)]
              exact hbad _ _
end Go.Proofs.Ytahppppkepcbkaa.Clo
