/- TableTells, over lists alone: the printed function answers true at every input. -/
import Derived.Test.YtjamociekniepaaAw28
import Derived.Test.YtjamociekniepaaFnx0
import Derived.Test.YtjamociekniepaaFnx15
import Derived.Test.YtjamociekniepaaFnx16
import Derived.Test.YtjamociekniepaaFnx17
import Derived.Test.YtjamociekniepaaFnx24
import Derived.Test.YtjamociekniepaaFnx28
import Derived.Test.YtjamociekniepaaFnx29
import Derived.Test.YtjamociekniepaaFnx30
import Derived.Test.YtjamociekniepaaFnx31
import Derived.Test.YtjamociekniepaaFnx32
import Derived.Test.YtjamociekniepaaFnx33
import Derived.Test.YtjamociekniepaaFnx34
import Derived.Test.YtjamociekniepaaFnx35
import Derived.Test.YtjamociekniepaaFnx4
import Derived.Test.YtjamociekniepaaFnx6
import Derived.Test.YtjamociekniepaaSayTableTells
import Derived.Test.YtjamociekniepaaTab3
import Derived.Lib.Hide
namespace Go.Proofs.Ytjamociekniepaa.Pure
open Go.RowKit Go.Proofs.Ytjamociekniepaa.Fn Go.Proofs.YtjamociekniepaaW.PrintWords Go.Proofs.YtjamociekniepaaW.PrintMore Go.Proofs.Ytjamociekniepaa.Know Go.Proofs.Ytjamociekniepaa.Tab
set_option linter.unusedVariables false
set_option linter.unusedSimpArgs false
set_option linter.unusedSectionVars false
theorem tells_awake : tattlelaw06_awakeT.f = some true := rfl
theorem tells_may (a0 a1 : Int) : tattleref05_May.f a0 a1 = some (may ⟨a0, a1⟩) := by
  unfold tattleref05_May.f may
  by_cases h : 0 ≤ a1 <;> simp [h]
theorem tells_beats (a0 a1 b0 b1 : Int) : tattleref05_Beats.f a0 a1 b0 b1 = some (bts ⟨a0, a1⟩ ⟨b0, b1⟩) := by
  unfold tattleref05_Beats.f bts
  simp only [tells_may, Option.bind_some]
  generalize may ⟨a0, a1⟩ = A
  generalize may ⟨b0, b1⟩ = B
  cases A <;> cases B <;> simp
  by_cases h0 : b0 < a0
  · simp [h0]
  · by_cases h1 : a0 = b0
    · simp [h0, h1]
    · simp [h0, h1]
theorem tells_join (a0 a1 b0 b1 : Int) : tattleref05_Join.f a0 a1 b0 b1 = some ((jn ⟨b0, b1⟩ ⟨a0, a1⟩).f0, (jn ⟨b0, b1⟩ ⟨a0, a1⟩).f1) := by
  unfold tattleref05_Join.f jn
  rw [tells_beats, Option.bind_some]
  split <;> rfl
theorem w64m (i n : Nat) (h : i < n) (hn : n ≤ 65) : wrap64 ((i : Int) + 1) = ((i + 1 : Nat) : Int) := by unfold wrap64; omega
theorem rmay_l0 (l : List S26) (hl : l.length ≤ 65) : ∀ (d i K : Nat), i + d = l.length → d + 1 ≤ K → tattleref06_May.l0 K l (i : Int) = some ((l.drop i).all may && decide (1 ≤ l.length ∧ l.length ≤ 64))
  | 0, i, K, hi, hK => by
    obtain ⟨K, rfl⟩ : ∃ m, K = m + 1 := ⟨K - 1, by omega⟩
    rw [tattleref06_May.l0, if_neg (by omega), List.drop_of_length_le (by omega), List.all_nil, Bool.true_and]
    by_cases h : 1 ≤ (l.length : Int)
    · rw [if_pos h]
      congr 1
      rw [decide_eq_decide]
      omega
    · rw [if_neg h, decide_eq_false (by omega)]
  | d + 1, i, K, hi, hK => by
    obtain ⟨K, rfl⟩ : ∃ m, K = m + 1 := ⟨K - 1, by omega⟩
    have h1 : i < l.length := by omega
    have e : tattleref05_May.f l[i].f0 l[i].f1 = some (may l[i]) := tells_may _ _
    rw [tattleref06_May.l0, if_pos (by omega), if_pos (by omega), rd_at l i h1, e, Option.bind_some, List.drop_eq_getElem_cons h1, List.all_cons]
    cases hm : may l[i] with
    | true => rw [if_pos rfl, w64m i _ h1 hl, rmay_l0 l hl d (i + 1) K (by omega) (by omega), Bool.true_and]
    | false => rw [if_neg Bool.false_ne_true, Bool.false_and, Bool.false_and]
theorem rmay_eq (K : Nat) (l : List S26) (hl : l.length ≤ 65) (hK : 100 ≤ K) : tattleref06_May.f K l = some (okt l) := by
  unfold tattleref06_May.f
  have h := rmay_l0 l hl l.length 0 K (by omega) (by omega)
  rw [List.drop_zero] at h
  rw [show ((0 : Nat) : Int) = 0 from rfl] at h
  rw [h]
  unfold okt
  rw [Bool.and_comm]
  rfl
theorem rup_l0 (l : List S26) (hl : l.length ≤ 65) : ∀ (d i K : Nat) (a : List Int), i + d = l.length → d + 1 ≤ K → a.length ≤ i → tattleref06_Up.l0 K l a (i : Int) = some (a ++ plcs (fun _ x => upk x) (l.drop i) i)
  | 0, i, K, a, hi, hK, ha => by
    obtain ⟨K, rfl⟩ : ∃ m, K = m + 1 := ⟨K - 1, by omega⟩
    rw [tattleref06_Up.l0, if_neg (by omega), List.drop_of_length_le (by omega), plcs, List.append_nil]
  | d + 1, i, K, a, hi, hK, ha => by
    obtain ⟨K, rfl⟩ : ∃ m, K = m + 1 := ⟨K - 1, by omega⟩
    have h1 : i < l.length := by omega
    rw [tattleref06_Up.l0, if_pos (by omega), if_pos (by omega), rd_at l i h1, w64m i _ h1 hl, List.drop_eq_getElem_cons h1, plcs]
    have hin := rup_l0 l hl d (i + 1) K (a ++ [(i : Int)]) (by omega) (by omega) (by simp; omega)
    have hout := rup_l0 l hl d (i + 1) K a (by omega) (by omega) (by omega)
    by_cases q0 : l[i].f1 = 0
    · rw [if_pos q0, if_pos (by omega), hin, if_pos (by unfold upk; simp [q0]), List.append_assoc]
      rfl
    · by_cases q1 : l[i].f1 = 1
      · rw [if_neg q0, if_pos q1, if_pos (by omega), hin, if_pos (by unfold upk; simp [q1]), List.append_assoc]
        rfl
      · rw [if_neg q0, if_neg q1, hout, if_neg (by unfold upk; simp [q0, q1])]
theorem rup_eq (K : Nat) (l : List S26) (hl : l.length ≤ 65) (hK : 100 ≤ K) : tattleref06_Up.f K l = some (plcs (fun _ x => upk x) l 0) := by
  have h := rup_l0 l hl l.length 0 K [] (by omega) (by omega) (Nat.le_refl _)
  rw [List.drop_zero, List.nil_append] at h
  exact h
theorem roth_l0 (l : List S26) (me : Int) (hl : l.length ≤ 65) : ∀ (d i K : Nat) (a : List Int), i + d = l.length → d + 1 ≤ K → a.length ≤ i → tattleref06_Others.l0 K l me a (i : Int) = some (a ++ plcs (oth me) (l.drop i) i)
  | 0, i, K, a, hi, hK, ha => by
    obtain ⟨K, rfl⟩ : ∃ m, K = m + 1 := ⟨K - 1, by omega⟩
    rw [tattleref06_Others.l0, if_neg (by omega), List.drop_of_length_le (by omega), plcs, List.append_nil]
  | d + 1, i, K, a, hi, hK, ha => by
    obtain ⟨K, rfl⟩ : ∃ m, K = m + 1 := ⟨K - 1, by omega⟩
    have h1 : i < l.length := by omega
    rw [tattleref06_Others.l0, if_pos (by omega), if_pos (by omega), rd_at l i h1, w64m i _ h1 hl, List.drop_eq_getElem_cons h1, plcs]
    have hin := roth_l0 l me hl d (i + 1) K (a ++ [(i : Int)]) (by omega) (by omega) (by simp; omega)
    have hout := roth_l0 l me hl d (i + 1) K a (by omega) (by omega) (by omega)
    by_cases q0 : l[i].f1 = 3
    · rw [if_pos q0, hout, if_neg (by unfold oth; simp [q0])]
    · by_cases q1 : (i : Int) = me
      · rw [if_neg q0, if_pos q1, hout, if_neg (by unfold oth; simp [q1])]
      · rw [if_neg q0, if_neg q1, if_pos (by omega), hin, if_pos (by unfold oth; simp [q0, q1]), List.append_assoc]
        rfl
theorem roth_eq (K : Nat) (l : List S26) (me : Int) (hl : l.length ≤ 65) (hK : 100 ≤ K) : tattleref06_Others.f K l me = some (plcs (oth me) l 0) := by
  have h := roth_l0 l me hl l.length 0 K [] (by omega) (by omega) (Nat.le_refl _)
  rw [List.drop_zero, List.nil_append] at h
  exact h
theorem rapply_eq (l : List S26) (hl : l.length ≤ 65) (i : Nat) (hi : i < l.length) (k : S26) : tattleref06_Apply.f l (i : Int) k.f0 k.f1 = some (l.set i (jn l[i] k)) := by
  unfold tattleref06_Apply.f
  have e : tattleref05_Join.f k.f0 k.f1 l[i].f0 l[i].f1 = some ((jn l[i] k).f0, (jn l[i] k).f1) := tells_join _ _ _ _
  rw [Option.bind_some, if_pos (by simp; omega), Option.bind_some, if_pos (by omega), if_pos (by omega), rd_at l i hi, e, Option.bind_some, List.nil_append, if_pos (by omega), Int.toNat_natCast]
theorem rmerge_l0 (l o : List S26) (h : l.length = o.length) (hl : l.length ≤ 65) : ∀ (d i K : Nat), i + d = l.length → d + 1 ≤ K → tattleref06_Merge.l0 K o ((mrg l o).take i ++ l.drop i) (i : Int) = some (mrg l o)
  | 0, i, K, hi, hK => by
    obtain ⟨K, rfl⟩ : ∃ m, K = m + 1 := ⟨K - 1, by omega⟩
    have q := mrg_len h
    rw [tattleref06_Merge.l0, if_neg (by omega), List.take_of_length_le (by omega), List.drop_of_length_le (by omega), List.append_nil]
  | d + 1, i, K, hi, hK => by
    obtain ⟨K, rfl⟩ : ∃ m, K = m + 1 := ⟨K - 1, by omega⟩
    have q := mrg_len h
    have h1 : i < l.length := by omega
    have h2 : i < o.length := by omega
    have hlen : ((mrg l o).take i ++ l.drop i).length = l.length := by rw [List.length_append, List.length_take, List.length_drop]; omega
    have hat : ((mrg l o).take i ++ l.drop i)[i]'(by omega) = l[i] := by
      rw [List.getElem_append_right (by rw [List.length_take]; omega)]
      simp only [List.length_take, List.getElem_drop]
      congr 1
      omega
    have ea := rapply_eq ((mrg l o).take i ++ l.drop i) (by omega) i (by omega) o[i]
    rw [hat] at ea
    have e : ((mrg l o).take i ++ l.drop i).set i (jn l[i] o[i]) = (mrg l o).take (i + 1) ++ l.drop (i + 1) := by
      rw [List.set_append_right _ _ (by rw [List.length_take]; omega), List.length_take, Nat.min_eq_left (by omega), Nat.sub_self, List.drop_eq_getElem_cons h1, List.set_cons_zero, List.take_succ_eq_append_getElem (by omega), mrg_at l o i (by omega) h1 h2, List.append_assoc]
      rfl
    rw [tattleref06_Merge.l0, if_pos (by omega), if_pos (by omega), rd_at o i h2, ea, Option.bind_some, e, w64m i _ h1 hl]
    exact rmerge_l0 l o h hl d (i + 1) K (by omega) (by omega)
theorem rmerge_eq (K : Nat) (l o : List S26) (h : l.length = o.length) (hl : l.length ≤ 65) (hK : 100 ≤ K) : tattleref06_Merge.f K l o = some (mrg l o) := by
  unfold tattleref06_Merge.f
  rw [Option.bind_some, if_pos (by simp; omega), List.nil_append]
  have := rmerge_l0 l o h hl l.length 0 K (by omega) (by omega)
  rw [List.take_zero, List.nil_append, List.drop_zero] at this
  exact this
theorem rbehind_l0 (l o : List S26) (h : l.length = o.length) (hl : l.length ≤ 65) : ∀ (d i K : Nat) (a : List Int), i + d = l.length → d + 1 ≤ K → a.length ≤ i → tattleref06_Behind.l0 K l o a (i : Int) = some (a ++ plcs (bhd o) (l.drop i) i)
  | 0, i, K, a, hi, hK, ha => by
    obtain ⟨K, rfl⟩ : ∃ m, K = m + 1 := ⟨K - 1, by omega⟩
    rw [tattleref06_Behind.l0, if_neg (by omega), List.drop_of_length_le (by omega), plcs, List.append_nil]
  | d + 1, i, K, a, hi, hK, ha => by
    obtain ⟨K, rfl⟩ : ∃ m, K = m + 1 := ⟨K - 1, by omega⟩
    have h1 : i < l.length := by omega
    have h2 : i < o.length := by omega
    have e : tattleref05_Beats.f o[i].f0 o[i].f1 l[i].f0 l[i].f1 = some (bts o[i] l[i]) := tells_beats _ _ _ _
    have eb : bhd o i l[i] = bts o[i] l[i] := by unfold bhd; rw [btk_eq, rd_at o i h2]
    have hin := rbehind_l0 l o h hl d (i + 1) K (a ++ [(i : Int)]) (by omega) (by omega) (by simp; omega)
    have hout := rbehind_l0 l o h hl d (i + 1) K a (by omega) (by omega) (by omega)
    rw [tattleref06_Behind.l0, if_pos (by omega), if_pos (by omega), if_pos (by omega), rd_at l i h1, rd_at o i h2, e, Option.bind_some, w64m i _ h1 hl, List.drop_eq_getElem_cons h1, plcs, eb]
    by_cases q : bts o[i] l[i] = true
    · rw [if_pos q, if_pos (by omega), hin, if_pos q, List.append_assoc]
      rfl
    · rw [if_neg q, hout, if_neg q]
theorem rbehind_eq (K : Nat) (l o : List S26) (h : l.length = o.length) (hl : l.length ≤ 65) (hK : 100 ≤ K) : tattleref06_Behind.f K l o = some (plcs (bhd o) l 0) := by
  have q := rbehind_l0 l o h hl l.length 0 K [] (by omega) (by omega) (Nat.le_refl _)
  rw [List.drop_zero, List.nil_append] at q
  exact q
theorem isame_l0 (a b : List Int) (hl : a.length = b.length) (hm : a.length ≤ 65) : ∀ (d i K : Nat), i + d = a.length → d + 1 ≤ K → tattleref02_Same.l0 K a b (i : Int) = some (decide (a.drop i = b.drop i))
  | 0, i, K, hi, hK => by
    obtain ⟨K, rfl⟩ : ∃ m, K = m + 1 := ⟨K - 1, by omega⟩
    rw [tattleref02_Same.l0, if_neg (by omega), List.drop_of_length_le (by omega), List.drop_of_length_le (by omega), decide_eq_true rfl]
  | d + 1, i, K, hi, hK => by
    obtain ⟨K, rfl⟩ : ∃ m, K = m + 1 := ⟨K - 1, by omega⟩
    have h1 : i < a.length := by omega
    have h2 : i < b.length := by omega
    have e1 : rd a (i : Int) = a[i] := by simp [rd, h1]
    have e2 : rd b (i : Int) = b[i] := by simp [rd, h2]
    rw [tattleref02_Same.l0, if_pos (by omega), if_pos (by omega), if_pos (by omega), e1, e2, w64m i _ h1 hm, isame_l0 a b hl hm d (i + 1) K (by omega) (by omega), List.drop_eq_getElem_cons h1, List.drop_eq_getElem_cons h2]
    by_cases q : a[i] = b[i]
    · rw [if_pos q]
      congr 1
      rw [decide_eq_decide, List.cons.injEq]
      exact ⟨fun r => ⟨q, r⟩, fun r => r.2⟩
    · rw [if_neg q, decide_eq_false (by rw [List.cons.injEq]; exact fun r => q r.1)]
theorem isame_eq (K : Nat) (a : List Int) (hm : a.length ≤ 65) (hK : 100 ≤ K) : tattleref02_Same.f K a a = some true := by
  unfold tattleref02_Same.f
  rw [if_pos rfl]
  have h := isame_l0 a a rfl hm a.length 0 K (by omega) (by omega)
  rw [decide_eq_true rfl] at h
  exact h
theorem esame_l0 {a b : List S26} (hl : a.length = b.length) (hm : a.length ≤ 65) : ∀ (d i K : Nat), i + d = a.length → d + 1 ≤ K → api_Know_53.l0 K a b (a.length : Int) (i : Int) = some (decide (a.drop i = b.drop i))
  | 0, i, K, hi, hK => by
    obtain ⟨K, rfl⟩ : ∃ m, K = m + 1 := ⟨K - 1, by omega⟩
    rw [api_Know_53.l0, if_neg (by omega), List.drop_of_length_le (by omega), List.drop_of_length_le (by omega), decide_eq_true rfl]
  | d + 1, i, K, hi, hK => by
    obtain ⟨K, rfl⟩ : ∃ m, K = m + 1 := ⟨K - 1, by omega⟩
    have h1 : i < a.length := by omega
    have h2 : i < b.length := by omega
    rw [api_Know_53.l0, if_pos (by omega), if_pos (by omega), if_pos (by omega), if_pos (by omega), rd_at a i h1, rd_at b i h2, w64m i _ h1 hm, esame_l0 hl hm d (i + 1) K (by omega) (by omega), List.drop_eq_getElem_cons h1, List.drop_eq_getElem_cons h2]
    by_cases h : a[i] = b[i]
    · rw [if_neg (by rw [h]; simp)]
      congr 1
      rw [decide_eq_decide, List.cons.injEq]
      exact ⟨fun q => ⟨h, q⟩, fun q => q.2⟩
    · rw [if_pos, decide_eq_false (by rw [List.cons.injEq]; exact fun q => h q.1)]
      rw [Bool.or_eq_true, Bool.not_eq_true', Bool.not_eq_true', beq_eq_false_iff_ne, beq_eq_false_iff_ne]
      by_cases q : a[i].f0 = b[i].f0
      · exact Or.inr fun q' => h (ext26 q q')
      · exact Or.inl q
theorem tsame_eq (K : Nat) (a b : List S26) (hm : a.length ≤ 65) (hK : 100 ≤ K) : table_Same.f K a b = some (decide (a = b)) := by
  unfold table_Same.f api_Know_53.f
  by_cases hl : a.length = b.length
  · rw [if_pos (by omega)]
    have h := esame_l0 hl hm a.length 0 K (by omega) (by omega)
    rw [List.drop_zero, List.drop_zero] at h
    rw [show ((0 : Nat) : Int) = 0 from rfl] at h
    rw [h, Option.bind_some]
  · rw [if_neg (by omega), Option.bind_some, decide_eq_false (fun q => hl (by rw [q]))]
theorem tells_j6 (K : Nat) (hK : 300 ≤ K) {t o : List S26} (ho : okt t = true) (hn : nn t) (hol : o.length ≤ 65) (m : List S26) (f : Int) (b : List Int) (g : Int) (hm : table_Merge.f 300 t o = some (m, f)) (hb : table_Behind.f t o = some (b, g)) :
    tattlelaw06_TableTells.j6 (K + 2) t o m f b g = some true := by
  have hlen := okt_len ho
  rw [tattlelaw06_TableTells.j6, rmay_eq (K + 1) o hol (by omega), Option.bind_some]
  by_cases h : okt t = true ∧ okt o = true ∧ t.length = o.length
  · rw [merge_ok 300 h.1 h.2.1 h.2.2 hn (by omega)] at hm
    rw [behind_eq h.1 h.2.1 h.2.2] at hb
    obtain ⟨rfl, rfl⟩ := Prod.mk.inj (Option.some.inj hm)
    obtain ⟨rfl, rfl⟩ := Prod.mk.inj (Option.some.inj hb)
    have hml := mrg_len h.2.2
    have hpl := plcs_length (bhd o) t 0
    rw [h.2.1, if_pos rfl, show ((o.length : Int) != (t.length : Int)) = false by rw [h.2.2]; exact bne_self_eq_false _, tattlelaw06_TableTells.j7, if_neg (by decide), rmerge_eq K t o h.2.2 (by omega) (by omega), Option.bind_some, same_eq K _ _ (by simp [maxLen]; omega) (by omega), Option.bind_some, decide_eq_true rfl, if_pos rfl, if_pos rfl, rbehind_eq K t o h.2.2 (by omega) (by omega), Option.bind_some, isame_eq K _ (by omega) (by omega), Option.bind_some, if_pos rfl, if_pos rfl, tells_awake]
    rfl
  · rw [merge_bad 300 h (by omega)] at hm
    rw [behind_bad h] at hb
    obtain ⟨rfl, rfl⟩ := Prod.mk.inj (Option.some.inj hm)
    obtain ⟨rfl, rfl⟩ := Prod.mk.inj (Option.some.inj hb)
    have hj : tattlelaw06_TableTells.j7 (K + 1) t o [] 1 [] 1 true = some true := by
      rw [tattlelaw06_TableTells.j7, if_pos rfl, if_pos (by rfl), if_pos rfl, if_pos (by rfl), if_pos rfl, tells_awake]
      rfl
    by_cases h2 : okt o = true
    · rw [if_pos h2, show ((o.length : Int) != (t.length : Int)) = true by rw [bne_iff_ne]; intro q; exact h ⟨ho, h2, by omega⟩]
      exact hj
    · rw [if_neg h2]
      exact hj
theorem tells_j4 (K : Nat) (hK : 300 ≤ K) {t o : List S26} (ho : okt t = true) (hn : nn t) (hol : o.length ≤ 65) (who k0 k1 : Int) (a : List S26) (y : Bool) (e : Int) (m : List S26) (f : Int) (b : List Int) (g : Int) (l0 l1 : List S26)
    (ha : table_Apply.f 300 t who k0 k1 = some (a, y, e)) (hm : table_Merge.f 300 t o = some (m, f)) (hb : table_Behind.f t o = some (b, g)) :
    tattlelaw06_TableTells.j4 (K + 4) t o a y e m f b g false l0 l1 who k0 k1 = some true := by
  have hlen := okt_len ho
  have h6 := tells_j6 K hK ho hn hol m f b g hm hb
  have hself : tattleref06_Same.f (K + 2) t t = some true := by
    rw [same_eq (K + 2) t t (by simp [maxLen]; omega) (by omega), decide_eq_true rfl]
  have hbad : a = t → y = false → e = 1 → tattlelaw06_TableTells.j5 (K + 3) t o a y e m f b g true l0 l1 who k0 k1 = some true := by
    rintro rfl rfl rfl
    rw [tattlelaw06_TableTells.j5, if_pos rfl, hself, Option.bind_some, if_pos rfl, if_neg (by decide), if_pos rfl]
    exact h6
  rw [tattlelaw06_TableTells.j4, if_neg (by decide)]
  by_cases h1 : who < 0
  · rw [apply_bad 300 who k0 k1 (fun q => by omega) (by omega)] at ha
    obtain ⟨q1, q2⟩ := Prod.mk.inj (Option.some.inj ha)
    obtain ⟨q2, q3⟩ := Prod.mk.inj q2
    rw [if_pos h1]
    exact hbad q1.symm q2.symm q3.symm
  · by_cases h2 : who ≥ (t.length : Int)
    · rw [apply_bad 300 who k0 k1 (fun q => by omega) (by omega)] at ha
      obtain ⟨q1, q2⟩ := Prod.mk.inj (Option.some.inj ha)
      obtain ⟨q2, q3⟩ := Prod.mk.inj q2
      rw [if_neg h1, if_pos h2]
      exact hbad q1.symm q2.symm q3.symm
    · obtain ⟨i, rfl⟩ := Int.eq_ofNat_of_zero_le (show 0 ≤ who by omega)
      have hi : i < t.length := by omega
      rw [if_neg h1, if_neg h2, tells_may, Option.bind_some]
      cases hk : may (⟨k0, k1⟩ : S26) with
      | false =>
        have e1 : table_Apply.f 300 t (i : Int) k0 k1 = some (t, false, 1) := apply_odd 300 ho i hi (k := ⟨k0, k1⟩) hk (by omega)
        rw [e1] at ha
        obtain ⟨q1, q2⟩ := Prod.mk.inj (Option.some.inj ha)
        obtain ⟨q2, q3⟩ := Prod.mk.inj q2
        exact hbad q1.symm q2.symm q3.symm
      | true =>
        have e1 : table_Apply.f 300 t (i : Int) k0 k1 = some _ := apply_ok 300 ho hn i hi (k := ⟨k0, k1⟩) hk (by omega)
        have er : tattleref06_Apply.f t (i : Int) k0 k1 = some (t.set i (jn t[i] ⟨k0, k1⟩)) := rapply_eq t (by omega) i hi ⟨k0, k1⟩
        rw [e1] at ha
        rw [show (!true) = false from rfl, tattlelaw06_TableTells.j5, if_neg (by decide), er, Option.bind_some]
        by_cases hj : jn t[i] ⟨k0, k1⟩ = t[i]
        · rw [if_pos hj] at ha
          obtain ⟨rfl, q2⟩ := Prod.mk.inj (Option.some.inj ha)
          obtain ⟨rfl, rfl⟩ := Prod.mk.inj q2
          rw [hj, List.set_getElem_self, hself, Option.bind_some, if_pos rfl, Option.bind_some, if_neg (by decide), if_pos rfl]
          exact h6
        · rw [if_neg hj] at ha
          obtain ⟨rfl, q2⟩ := Prod.mk.inj (Option.some.inj ha)
          obtain ⟨rfl, rfl⟩ := Prod.mk.inj q2
          have hne : t.set i (jn t[i] ⟨k0, k1⟩) ≠ t := by
            intro q
            apply hj
            have := congrArg (fun l => l[i]?) q
            simp only [List.getElem?_set_self hi] at this
            rw [List.getElem?_eq_getElem hi] at this
            exact Option.some.inj this
          rw [same_eq (K + 2) _ _ (by simp [maxLen]; omega) (by rw [List.length_set]; omega), Option.bind_some, decide_eq_true rfl, if_pos rfl, same_eq (K + 2) _ t (by simp [maxLen]; omega) (by rw [List.length_set]; omega), Option.bind_some, decide_eq_false hne, if_neg (by decide), if_pos rfl]
          exact h6
theorem tells_j2 (K : Nat) (hK : 300 ≤ K) {t o : List S26} (htl : t.length ≤ 65) (hn : nn t) (hol : o.length ≤ 65) (who k0 k1 : Int) (a : List S26) (y : Bool) (e : Int) (m : List S26) (f : Int) (b : List Int) (g : Int) (l h : Int) (l0 l1 : List S26)
    (ha : table_Apply.f 300 t who k0 k1 = some (a, y, e)) (hm : table_Merge.f 300 t o = some (m, f)) (hb : table_Behind.f t o = some (b, g)) (hl : table_Lowest.f t = some (l, h)) :
    tattlelaw06_TableTells.j2 (K + 6) t o a y e m f b g l h false l0 l1 who k0 k1 = some true := by
  rw [tattlelaw06_TableTells.j2, if_neg (by decide), rmay_eq (K + 5) t htl (by omega), Option.bind_some]
  by_cases ho : okt t = true
  · have hlen := okt_len ho
    have h4 := tells_j4 K hK ho hn hol who k0 k1 a y e m f b g l0 l1 ha hm hb
    have b1 := plcs_length (fun _ x => upk x) t 0
    have b2 := plcs_length (oth who) t 0
    rw [if_pos ho, rup_eq (K + 5) t htl (by omega), Option.bind_some, up_eq ho, Option.bind_some, isame_eq (K + 5) _ (by omega) (by omega), Option.bind_some, if_pos rfl, others_eq ho, Option.bind_some, roth_eq (K + 5) t who htl (by omega), Option.bind_some, isame_eq (K + 5) _ (by omega) (by omega), Option.bind_some, show (!true) = false from rfl, tattlelaw06_TableTells.j3, if_neg (by decide)]
    rw [lowest_eq ho] at hl
    have hl := Option.some.inj hl
    unfold low at hl
    rcases fst_plcs upk t 0 with ⟨j, r, hf, hp⟩ | ⟨hf, hp⟩
    · rw [hf] at hl
      obtain ⟨rfl, rfl⟩ := Prod.mk.inj hl
      have hrd : rd ((j : Int) :: r) 0 = (j : Int) := by simp [rd]
      rw [hp, if_neg (by first | (simp; done) | (simp; omega)), if_pos (by first | (simp; done) | (simp; omega)), if_pos (by first | (simp; done) | (simp; omega)), hrd, if_pos rfl, show ((0 : Int) != 0) = false from rfl]
      exact h4
    · rw [hf] at hl
      obtain ⟨rfl, rfl⟩ := Prod.mk.inj hl
      rw [hp, if_pos (by rfl), if_pos rfl, if_pos rfl, if_neg (by simp)]
      exact h4
  · rw [apply_bad 300 who k0 k1 (fun q => ho q.1) (by omega)] at ha
    rw [merge_bad 300 (fun q => ho q.1) (by omega)] at hm
    rw [behind_bad (fun q => ho q.1)] at hb
    have hl' : table_Lowest.f t = some (0, 1) := by unfold table_Lowest.f; rw [if_neg ho]
    have hu : table_Up.f t = some [] := by unfold table_Up.f; rw [if_neg ho]
    have hoth : table_Others.f t who = some [] := by unfold table_Others.f; rw [if_neg ho]
    rw [hl'] at hl
    obtain ⟨rfl, q2⟩ := Prod.mk.inj (Option.some.inj ha)
    obtain ⟨rfl, rfl⟩ := Prod.mk.inj q2
    obtain ⟨rfl, rfl⟩ := Prod.mk.inj (Option.some.inj hm)
    obtain ⟨rfl, rfl⟩ := Prod.mk.inj (Option.some.inj hb)
    obtain ⟨rfl, rfl⟩ := Prod.mk.inj (Option.some.inj hl)
    rw [if_neg ho, same_eq (K + 5) t t (by simp [maxLen]; omega) (by omega), Option.bind_some, decide_eq_true rfl, if_pos rfl, if_neg (by decide), if_pos rfl, if_pos (by rfl), if_pos rfl, if_pos (by rfl), if_pos rfl, if_pos rfl, if_pos rfl, hu, Option.bind_some, if_pos (by rfl), hoth, Option.bind_some, if_pos (by rfl), tells_awake]
    rfl
theorem apply_any (K : Nat) (hK : 300 ≤ K) (t : List S26) (hn : nn t) (who k0 k1 : Int) : table_Apply.f K t who k0 k1 = table_Apply.f 300 t who k0 k1 := by
  by_cases h : okt t = true ∧ 0 ≤ who ∧ who < (t.length : Int)
  · obtain ⟨ho, h1, h2⟩ := h
    obtain ⟨i, rfl⟩ := Int.eq_ofNat_of_zero_le h1
    have hi : i < t.length := by omega
    cases hk : may (⟨k0, k1⟩ : S26) with
    | false =>
      have e1 : table_Apply.f K t (i : Int) k0 k1 = some (t, false, 1) := apply_odd K ho i hi (k := ⟨k0, k1⟩) hk (by omega)
      have e2 : table_Apply.f 300 t (i : Int) k0 k1 = some (t, false, 1) := apply_odd 300 ho i hi (k := ⟨k0, k1⟩) hk (by omega)
      rw [e1, e2]
    | true =>
      have e1 : table_Apply.f K t (i : Int) k0 k1 = some _ := apply_ok K ho hn i hi (k := ⟨k0, k1⟩) hk (by omega)
      have e2 : table_Apply.f 300 t (i : Int) k0 k1 = some _ := apply_ok 300 ho hn i hi (k := ⟨k0, k1⟩) hk (by omega)
      rw [e1, e2]
  · rw [apply_bad K who k0 k1 h (by omega), apply_bad 300 who k0 k1 h (by omega)]
theorem merge_any (K : Nat) (hK : 300 ≤ K) (t o : List S26) (hn : nn t) : table_Merge.f K t o = table_Merge.f 300 t o := by
  by_cases h : okt t = true ∧ okt o = true ∧ t.length = o.length
  · rw [merge_ok K h.1 h.2.1 h.2.2 hn (by omega), merge_ok 300 h.1 h.2.1 h.2.2 hn (by omega)]
  · rw [merge_bad K h (by omega), merge_bad 300 h (by omega)]
theorem tells_j1 (K : Nat) (hK : 300 ≤ K) {t o : List S26} (htl : t.length ≤ 65) (hn : nn t) (hol : o.length ≤ 65) (who k0 k1 : Int) (l0 l1 : List S26) :
    tattlelaw06_TableTells.j1 (K + 7) t o l0 l1 who k0 k1 = some true := by
  obtain ⟨⟨a, y, e⟩, ha⟩ : ∃ p, table_Apply.f 300 t who k0 k1 = some p := by
    by_cases h : okt t = true ∧ 0 ≤ who ∧ who < (t.length : Int)
    · obtain ⟨ho, h1, h2⟩ := h
      obtain ⟨i, rfl⟩ := Int.eq_ofNat_of_zero_le h1
      have hi : i < t.length := by omega
      cases hk : may (⟨k0, k1⟩ : S26) with
      | false => exact ⟨_, apply_odd 300 ho i hi (k := ⟨k0, k1⟩) hk (by omega)⟩
      | true => exact ⟨_, apply_ok 300 ho hn i hi (k := ⟨k0, k1⟩) hk (by omega)⟩
    · exact ⟨_, apply_bad 300 who k0 k1 h (by omega)⟩
  obtain ⟨⟨m, f⟩, hm⟩ : ∃ p, table_Merge.f 300 t o = some p := by
    by_cases h : okt t = true ∧ okt o = true ∧ t.length = o.length
    · exact ⟨_, merge_ok 300 h.1 h.2.1 h.2.2 hn (by omega)⟩
    · exact ⟨_, merge_bad 300 h (by omega)⟩
  obtain ⟨⟨b, g⟩, hb⟩ : ∃ p, table_Behind.f t o = some p := ⟨_, rfl⟩
  obtain ⟨⟨l, h⟩, hl⟩ : ∃ p, table_Lowest.f t = some p := ⟨_, rfl⟩
  have h2 := tells_j2 K hK htl hn hol who k0 k1 a y e m f b g l h l0 l1 ha hm hb hl
  have hne : (((if okt t = true then (0 : Int) else 1) == 0) != okt t) = false := by cases okt t <;> rfl
  rw [tattlelaw06_TableTells.j1, apply_any (K + 6) (by omega) t hn, ha, Option.bind_some, merge_any (K + 6) (by omega) t o hn, hm, Option.bind_some, hb, Option.bind_some, hl, Option.bind_some, tcheck_eq (K + 6) t (by omega), Option.bind_some, rmay_eq (K + 6) t htl (by omega), Option.bind_some, hne, if_neg (by decide), tsame_eq (K + 6) t o htl (by omega), Option.bind_some, same_eq (K + 6) t o (by simp [maxLen]; omega) (by omega), Option.bind_some, bne_self_eq_false]
  exact h2
theorem TableTells : tattlelaw06_TableTells.Pure := by
  intro l0 l1 who k0 k1 h0 h1 hw _ _
  obtain ⟨_, _, hok0⟩ := h0
  have n0 : nn (few l0) := fun x hx => (u64_wf (hok0 x (few_mem hx)).1).1
  have f0 := few_len l0
  have f1 := few_len l1
  obtain ⟨K, hK⟩ : ∃ K : Nat, 400 ≤ K := ⟨400, Nat.le_refl _⟩
  refine ⟨K + 8, ?_⟩
  unfold tattlelaw06_TableTells.f
  rw [few_eq, few_eq, Option.bind_some, Option.bind_some]
  have hj := tells_j1 K (by omega) f0 n0 f1 who k0 k1 l0 l1
  by_cases q1 : who < 1
  · have en : table_New.f who = some ([], 1) := by unfold table_New.f; rw [if_pos q1]
    rw [en, Option.bind_some, if_pos q1, tattlelaw06_TableTells.j0, if_pos rfl, if_neg (by simp), if_pos rfl]
    exact hj
  · by_cases q2 : who > 64
    · have en : table_New.f who = some ([], 1) := by unfold table_New.f; rw [if_neg q1, if_pos q2]
      rw [en, Option.bind_some, if_neg q1, decide_eq_true q2, tattlelaw06_TableTells.j0, if_pos rfl, if_neg (by simp), if_pos rfl]
      exact hj
    · have en : table_New.f who = some (List.replicate who.toNat z26, 0) := by unfold table_New.f; rw [if_neg q1, if_neg q2, if_pos (by omega), if_pos (by omega)]
      rw [en, Option.bind_some, if_neg q1, decide_eq_false q2, tattlelaw06_TableTells.j0, if_neg (by decide), if_pos (by omega), if_pos (by omega), same_eq (K + 7) _ _ (by simp [maxLen]; omega) (by rw [List.length_replicate]; omega), Option.bind_some, decide_eq_true rfl, if_pos rfl, if_pos rfl]
      exact hj
end Go.Proofs.Ytjamociekniepaa.Pure
