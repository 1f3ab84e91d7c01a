/- TurnGone, over numbers and lists alone: the printed function answers true at every input. -/
import Derived.Test.YtlanodnbdgiihaaFnx18
import Derived.Test.YtlanodnbdgiihaaSayTurnGone
import Derived.Test.YtlanodnbdgiihaaTurn4
namespace Go.Proofs.Ytlanodnbdgiihaa.Pure
open Go.RowKit Go.Proofs.Ytlanodnbdgiihaa.Fn Go.Proofs.YtlanodnbdgiihaaW.PrintWords Go.Proofs.YtlanodnbdgiihaaW.PrintMore Go.Proofs.Ytlanodnbdgiihaa.Dice

theorem srt_le_of (l : List Int) : ∀ i : Nat, i < l.length → (∀ j : Nat, j + 1 < l.length → l.getD j 0 ≤ l.getD (j + 1) 0) → srt l i = true
  | 0, _, _ => rfl
  | i + 1, hi, h => by
    have h1 := h i hi
    rw [srt, srt_le_of l i (by omega) h, Bool.and_true, decide_eq_false (by omega)]
    rfl
theorem nodesok_sub {a l : List Int} (h : nodesok l = true) (hs : a.Sublist l) : nodesok a = true := by
  have hd := nodesok_dis h
  unfold nodesok at *
  rw [Bool.and_eq_true] at h
  have hp : l.Pairwise (· ≤ ·) := by
    rw [List.pairwise_iff_getElem]
    intro i j hi hj hij
    have := srt_le l _ h.2 i j (by omega) (by omega)
    simpa [hi, hj] using this
  have hpa := hp.sublist hs
  have hda : distd a = true := by
    unfold distd at *
    rw [Bool.and_eq_true, decide_eq_true_eq, decide_eq_true_eq] at *
    exact ⟨fun x hx => hd.1 x (hs.subset hx), hd.2.sublist hs⟩
  rw [hda, Bool.true_and]
  by_cases h0 : a.length = 0
  · rw [h0]
    rfl
  · refine srt_le_of a _ (by omega) (fun j hj => ?_)
    have := List.pairwise_iff_getElem.1 hpa j (j + 1) (by omega) hj (by omega)
    simpa [hj, show j < a.length by omega] using this
theorem gone_l0a (l : List Int) (hl : l.length ≤ 10) (x7 : Int) (kx : Nat) (tl : List Int) (a : Int) (L : ByteArray) (p : Int) (B : Option Bool) (K : Nat) :
    ∀ (d i k : Nat) (acc : List Int), i + d = l.length → kx < i → acc.length ≤ i → d + 1 + K ≤ k → (∀ k, K ≤ k → tattlelaw08_TurnGone.l1 k l x7 (kx : Int) (acc ++ l.drop i) 0 tl a L p = B) → tattlelaw08_TurnGone.l0 k l x7 (kx : Int) acc (i : Int) tl a L p = B
  | 0, i, k, acc, hi, hx, ha, hk, hB => by
    obtain ⟨k, rfl⟩ : ∃ m, k = m + 1 := ⟨k - 1, by omega⟩
    rw [tattlelaw08_TurnGone.l0, if_neg (by omega)]
    have := hB k (by omega)
    rw [List.drop_of_length_le (by omega), List.append_nil] at this
    exact this
  | d + 1, i, k, acc, hi, hx, ha, hk, hB => by
    obtain ⟨k, rfl⟩ : ∃ m, k = m + 1 := ⟨k - 1, by omega⟩
    have hil : i < l.length := by omega
    have y : -9223372036854775808 ≤ (i : Int) + 1 ∧ (i : Int) + 1 ≤ 9223372036854775807 := by omega
    rw [tattlelaw08_TurnGone.l0, if_pos (by omega), if_neg (by omega), if_pos (by omega), if_pos (by omega), w64_id _ y.1 y.2, rd_nat]
    refine gone_l0a l hl x7 kx tl a L p B K d (i + 1) k (acc ++ [l.getD i 0]) (by omega) (by omega) (by simp; omega) (by omega) (fun k hk => ?_)
    have := hB k hk
    rw [List.drop_eq_getElem_cons hil] at this
    rw [List.append_assoc, List.singleton_append, show l.getD i 0 = l[i] by simp [hil]]
    exact this
theorem gone_l0 (l : List Int) (hl : l.length ≤ 10) (x7 : Int) (kx : Nat) (hkx : kx < l.length) (tl : List Int) (a : Int) (L : ByteArray) (p : Int) (B : Option Bool) (K : Nat) :
    ∀ (d i k : Nat) (acc : List Int), i + d = kx → acc.length ≤ i → d + 100 + K ≤ k → (∀ k, K ≤ k → tattlelaw08_TurnGone.l1 k l x7 (kx : Int) (acc ++ (l.drop i).eraseIdx d) 0 tl a L p = B) → tattlelaw08_TurnGone.l0 k l x7 (kx : Int) acc (i : Int) tl a L p = B
  | 0, i, k, acc, hi, ha, hk, hB => by
    obtain ⟨k, rfl⟩ : ∃ m, k = m + 1 := ⟨k - 1, by omega⟩
    have hil : i < l.length := by omega
    have y : -9223372036854775808 ≤ (i : Int) + 1 ∧ (i : Int) + 1 ≤ 9223372036854775807 := by omega
    rw [tattlelaw08_TurnGone.l0, if_pos (by omega), if_pos (by omega), w64_id _ y.1 y.2]
    refine gone_l0a l hl x7 kx tl a L p B K (l.length - (i + 1)) (i + 1) k acc (by omega) (by omega) (by omega) (by omega) (fun k hk => ?_)
    have := hB k hk
    rw [List.drop_eq_getElem_cons hil, List.eraseIdx_cons_zero] at this
    exact this
  | d + 1, i, k, acc, hi, ha, hk, hB => by
    obtain ⟨k, rfl⟩ : ∃ m, k = m + 1 := ⟨k - 1, by omega⟩
    have hil : i < l.length := by omega
    have y : -9223372036854775808 ≤ (i : Int) + 1 ∧ (i : Int) + 1 ≤ 9223372036854775807 := by omega
    rw [tattlelaw08_TurnGone.l0, if_pos (by omega), if_neg (by omega), if_pos (by omega), if_pos (by omega), w64_id _ y.1 y.2, rd_nat]
    refine gone_l0 l hl x7 kx hkx tl a L p B K d (i + 1) k (acc ++ [l.getD i 0]) (by omega) (by simp; omega) (by omega) (fun k hk => ?_)
    have := hB k hk
    rw [List.drop_eq_getElem_cons hil, List.eraseIdx_cons_succ] at this
    rw [List.append_assoc, List.singleton_append, show l.getD i 0 = l[i] by simp [hil]]
    exact this
theorem gone_l2 (l : List Int) (hl : l.length ≤ 10) (h0 : 0 < l.length) (hs : nodesok l = true) (L : ByteArray) (hL : L.size ≤ 400) (kx : Nat) (hkx : kx < l.length) :
    ∀ (m i k : Nat), i + m = 2 * l.length - 1 → m + 500 ≤ k → ∀ (p : Int) (tl : List Int) (at_ : Nat), Vt L l tl at_ p → l.getD kx 0 ∈ askd L l m (rest l tl at_, p) → tattlelaw08_TurnGone.l2 k l (kx : Int) (i : Int) tl (at_ : Int) L p = some true
  | 0, i, k, hi, hk, p, tl, at_, hv, hx => by cases hx
  | m + 1, i, k, hi, hk, p, tl, at_, hv, hx => by
    obtain ⟨k, rfl⟩ : ∃ m, k = m + 1 := ⟨k - 1, by omega⟩
    have e2 : wrap64 (2 * (l.length : Int)) = 2 * (l.length : Int) := w64_id _ (by omega) (by omega)
    have e3 : wrap64 (2 * (l.length : Int) - 1) = 2 * (l.length : Int) - 1 := w64_id _ (by omega) (by omega)
    have y : -9223372036854775808 ≤ (i : Int) + 1 ∧ (i : Int) + 1 ≤ 9223372036854775807 := by omega
    obtain ⟨tl', at', p', h1, h2, _, h4⟩ := next_stp k (by omega) L (by omega) p l (by omega) h0 hs tl at_ hv
    rw [tattlelaw08_TurnGone.l2, e2, e3, if_pos (by omega), h1, Option.bind_some]
    simp only [if_true]
    rw [if_pos (by omega), if_pos (by omega), rd_nat, w64_id _ y.1 y.2]
    rw [askd] at hx
    by_cases he : (stp L l (rest l tl at_, p)).1 = l.getD kx 0
    · rw [if_pos he]
      rfl
    · rw [if_neg he]
      refine gone_l2 l hl h0 hs L hL kx hkx m (i + 1) k (by omega) (by omega) p' tl' at' h2 ?_
      rw [← h4]
      rcases List.mem_cons.1 hx with e | hx
      · exact absurd e.symm he
      · exact hx
theorem gone_l1 (l : List Int) (hl : l.length ≤ 10) (h0 : 2 ≤ l.length) (hs : nodesok l = true) (L : ByteArray) (hL : L.size ≤ 400) (kx : Nat) (hkx : kx < l.length) (less : List Int) (hss : less.Sublist l) (hsl : less.length + 1 = l.length) (hno : ¬l.getD kx 0 ∈ less) (x7 : Int) (hx7 : 0 ≤ x7 ∧ x7 ≤ 255) :
    ∀ (d i k : Nat), (i : Int) + d = x7 % 9 → d + 1000 ≤ k → ∀ (p : Int) (tl : List Int) (at_ : Nat), Vt L l tl at_ p → tattlelaw08_TurnGone.l1 k l x7 (kx : Int) less (i : Int) tl (at_ : Int) L p = some true
  | 0, i, k, hi, hk, p, tl, at_, hv => by
    obtain ⟨k, rfl⟩ : ∃ m, k = m + 1 := ⟨k - 1, by omega⟩
    have e9 : wrap64 (Int.tmod x7 9) = x7 % 9 := by rw [Int.tmod_eq_emod_of_nonneg hx7.1, w64_id _ (by omega) (by omega)]
    rw [tattlelaw08_TurnGone.l1, e9, if_neg (by omega)]
    refine gone_l2 l hl (by omega) hs L hL kx hkx (2 * l.length - 1) 0 k (by omega) (by omega) p tl at_ hv ?_
    exact in_time L l _ (rest_va hv) _ (by simp [hkx])
  | d + 1, i, k, hi, hk, p, tl, at_, hv => by
    obtain ⟨k, rfl⟩ : ∃ m, k = m + 1 := ⟨k - 1, by omega⟩
    have e9 : wrap64 (Int.tmod x7 9) = x7 % 9 := by rw [Int.tmod_eq_emod_of_nonneg hx7.1, w64_id _ (by omega) (by omega)]
    have y : -9223372036854775808 ≤ (i : Int) + 1 ∧ (i : Int) + 1 ≤ 9223372036854775807 := by omega
    obtain ⟨tl', at', p', h1, h2, h3, h4⟩ := next_stp k (by omega) L (by omega) p less (by omega) (by omega) (nodesok_sub hs hss) tl at_ ⟨hv.len, hv.at_le, hv.dis, hv.may⟩
    rw [tattlelaw08_TurnGone.l1, e9, if_pos (by omega), h1, Option.bind_some]
    simp only [if_true]
    rw [if_pos (by omega), if_pos (by omega), rd_nat, if_neg (fun e : (stp L less (rest less tl at_, p)).1 = l.getD kx 0 => hno (by rw [← e]; exact h3)), w64_id _ y.1 y.2]
    exact gone_l1 l hl h0 hs L hL kx hkx less hss hsl hno x7 hx7 d (i + 1) k (by omega) (by omega) p' tl' at' ⟨h2.len, h2.at_le, h2.dis, h2.may⟩
theorem TurnGone : tattlelaw08_TurnGone.Pure := by
  intro t0 at0 L0 p l0 gone comes _ _ _ _ _ hg hc
  have hg : 0 ≤ gone ∧ gone ≤ 255 := by simp [Lit.wf, IntKind.min, IntKind.max, IntKind.bits, IntKind.signed] at hg; omega
  have hc : 0 ≤ comes ∧ comes ≤ 255 := by simp [Lit.wf, IntKind.min, IntKind.max, IntKind.bits, IntKind.signed] at hc; omega
  obtain ⟨L, hL, hsz⟩ := few_eq L0 p
  obtain ⟨l, hl, hll⟩ := few8_all l0
  obtain ⟨tl, ht, htl⟩ := few8_all t0
  obtain ⟨K, hK⟩ : ∃ K, 3000 ≤ K := ⟨3000, Nat.le_refl _⟩
  refine ⟨K + 1, ?_⟩
  have hbad : tattlelaw08_TurnGone.j0 (K + 1) l gone comes true tl at0 L p = some true := by
    rw [tattlelaw08_TurnGone.j0, if_pos rfl]
    rfl
  unfold tattlelaw08_TurnGone.f
  rw [hL, Option.bind_some, hl, Option.bind_some, ht, Option.bind_some]
  simp only
  by_cases h : (l.length : Int) > 10
  · rw [if_pos h, hbad]
  rw [if_neg h]
  by_cases h2 : (l.length : Int) < 2
  · rw [if_pos h2, hbad]
  rw [if_neg h2, nodes_eq l (by omega) _ (by omega), Option.bind_some]
  by_cases hs : nodesok l = true
  · rw [if_pos hs, if_pos rfl, tcheck_eq, Option.bind_some]
    by_cases hok : okt tl at0 = true
    · rw [if_pos hok, if_pos rfl, rmay_eq, Option.bind_some]
      by_cases hp : mayd L p
      · obtain ⟨hd, ha, hb⟩ := okt_at hok
        obtain ⟨at_, rfl⟩ := Int.eq_ofNat_of_zero_le ha
        have hkx : gone.toNat % l.length < l.length := Nat.mod_lt _ (by omega)
        have ek : Int.tmod (wrap64 gone) (l.length : Int) = ((gone.toNat % l.length : Nat) : Int) := by
          rw [w64_id _ (by omega) (by omega), Int.tmod_eq_emod_of_nonneg hg.1, Int.natCast_emod, Int.toNat_of_nonneg hg.1]
        have hle : (l.eraseIdx (gone.toNat % l.length)).length + 1 = l.length := by rw [List.length_eraseIdx_of_lt hkx]; omega
        have hno : ¬l.getD (gone.toNat % l.length) 0 ∈ l.eraseIdx (gone.toNat % l.length) := by
          have hn := distd_nodup (nodesok_dis hs)
          rw [show l.getD (gone.toNat % l.length) 0 = l[gone.toNat % l.length] by simp [hkx]]
          intro hm
          rw [List.mem_eraseIdx_iff_getElem] at hm
          obtain ⟨j, hj, hne, he⟩ := hm
          have := (List.getElem?_inj hj hn).1 (show l[j]? = l[gone.toNat % l.length]? by rw [List.getElem?_eq_getElem hj, List.getElem?_eq_getElem hkx, he])
          omega
        rw [decide_eq_true hp, tattlelaw08_TurnGone.j0, if_neg (by decide), if_neg (by omega), ek]
        refine gone_l0 l (by omega) comes _ hkx tl (at_ : Int) L p (some true) 1200 (gone.toNat % l.length) 0 K [] (by omega) (by simp) (by omega) (fun k hk => ?_)
        rw [List.nil_append, List.drop_zero]
        exact gone_l1 l (by omega) (by omega) hs L hsz _ hkx _ (List.eraseIdx_sublist l _) hle hno comes hc (comes % 9).toNat 0 k (by omega) (by omega) p tl at_ ⟨htl, by omega, hd, hp⟩
      · rw [decide_eq_false hp]
        exact hbad
    · rw [if_neg hok, if_neg (by decide), hbad]
  · rw [if_neg hs, if_neg (by decide), hbad]
end Go.Proofs.Ytlanodnbdgiihaa.Pure
