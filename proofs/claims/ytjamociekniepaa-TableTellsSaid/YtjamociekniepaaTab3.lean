/- Joins, and tables, plain: what the printed functions of the chapter come to. -/
import Derived.Test.YtjamociekniepaaFnx0
import Derived.Test.YtjamociekniepaaFnx14
import Derived.Test.YtjamociekniepaaFnx15
import Derived.Test.YtjamociekniepaaFnx16
import Derived.Test.YtjamociekniepaaFnx20
import Derived.Test.YtjamociekniepaaFnx24
import Derived.Test.YtjamociekniepaaFnx4
import Derived.Test.YtjamociekniepaaExTab
namespace Go.Proofs.Ytjamociekniepaa.Know
open Go.RowKit Go.Proofs.Ytjamociekniepaa.Fn Go.Proofs.YtjamociekniepaaW.PrintWords

theorem join_l0 (l : List S26) (hm : l.length ≤ maxLen) : ∀ (d i k : Nat) (x y : Int), i + d = l.length → d + 4 ≤ k →
    know_Join.l0 k l (l.length : Int) (i : Int) x y = some (((l.drop i).foldl jn ⟨x, y⟩).f0, ((l.drop i).foldl jn ⟨x, y⟩).f1, 0)
  | 0, i, k, x, y, hi, hk => by
    obtain ⟨k, rfl⟩ : ∃ m, k = m + 1 := ⟨k - 1, by omega⟩
    rw [know_Join.l0, if_neg (by omega), List.drop_of_length_le (by omega)]
    rfl
  | d + 1, i, k, x, y, hi, hk => by
    obtain ⟨k, rfl⟩ : ∃ m, k = m + 1 := ⟨k - 1, by omega⟩
    have hlt : i < l.length := by omega
    rw [know_Join.l0, if_pos (by omega), if_pos (by omega), if_pos (by omega), rd_at l i hlt, w64 i _ hlt hm, beats_eq _ _ _ _ _ (by omega), Option.bind_some,
      join_l0 l hm d (i + 1) k l[i].f0 l[i].f1 (by omega) (by omega), join_l0 l hm d (i + 1) k x y (by omega) (by omega), List.drop_eq_getElem_cons hlt, List.foldl_cons]
    have e : bts ⟨l[i].f0, l[i].f1⟩ ⟨x, y⟩ = bts l[i] ⟨x, y⟩ := rfl
    rw [e]
    by_cases h : bts l[i] ⟨x, y⟩ = true
    · rw [if_pos h]
      simp only [jn, h, if_true]
    · rw [if_neg h]
      simp only [jn, h]
      rfl

/-- What is joined of a list. -/
def jall (l : List S26) : S26 := l.foldl jn ⟨0, 0⟩
theorem join_eq (k : Nat) (l : List S26) (hm : l.length ≤ maxLen) (hk : l.length + 4 ≤ k) : know_Join.f k l = some (if chk l = 0 then ((jall l).f0, (jall l).f1, 0) else (0, 0, 1)) := by
  unfold know_Join.f
  rw [check_eq k l hm (by omega), Option.bind_some]
  rcases chk_le l with h | h
  · rw [h, if_pos rfl, if_pos rfl]
    have := join_l0 l hm l.length 0 k 0 0 (by omega) hk
    rw [List.drop_zero] at this
    exact this
  · rw [h, if_neg (by decide), if_neg (by decide)]

theorem u64_id (x : Int) (h0 : 0 ≤ x) (h : x ≤ 18446744073709551615) : IntKind.u64.wrap x = x := by
  simp [IntKind.wrap, IntKind.bits, IntKind.signed]
  omega
theorem u64_wf {x : Int} (h : (Lit.int .u64 x).wf = true) : 0 ≤ x ∧ x ≤ 18446744073709551615 := by
  simp [Lit.wf, IntKind.min, IntKind.max, IntKind.bits, IntKind.signed] at h
  omega
theorem i64_wf {x : Int} (h : (Lit.int .i64 x).wf = true) : -9223372036854775808 ≤ x ∧ x ≤ 9223372036854775807 := by
  simp [Lit.wf, IntKind.min, IntKind.max, IntKind.bits, IntKind.signed] at h
  omega
theorem u8_wf {x : Int} (h : (Lit.int .u8 x).wf = true) : 0 ≤ x ∧ x ≤ 255 := by
  simp [Lit.wf, IntKind.min, IntKind.max, IntKind.bits, IntKind.signed] at h
  omega
theorem u64_in (x : Int) (h0 : 0 ≤ x) (h : x < 18446744073709551615) : IntKind.u64.wrap (x + 1) = x + 1 := by
  simp [IntKind.wrap, IntKind.bits, IntKind.signed]
  omega
end Go.Proofs.Ytjamociekniepaa.Know
namespace Go.Proofs.Ytjamociekniepaa.Know
open Go.RowKit Go.Proofs.Ytjamociekniepaa.Fn Go.Proofs.YtjamociekniepaaW.PrintWords

def le (a b : S26) : Prop := a.f0 < b.f0 ∨ a.f0 = b.f0 ∧ a.f1 ≤ b.f1
theorem le_refl (a : S26) : le a a := Or.inr ⟨rfl, Int.le_refl _⟩
theorem le_trans {a b c : S26} (h : le a b) (h' : le b c) : le a c := by unfold le at *; omega
theorem le_antisymm {a b : S26} (h : le a b) (h' : le b a) : a = b := ext26 (by unfold le at *; omega) (by unfold le at *; omega)
theorem le_total (a b : S26) : le a b ∨ le b a := by unfold le; omega
theorem bts_iff {a b : S26} (ha : may a = true) (hb : may b = true) : bts a b = true ↔ ¬ le a b := by
  simp only [bts, ha, hb, Bool.and_true, Bool.true_and, Bool.or_eq_true, Bool.and_eq_true, decide_eq_true_eq, le]
  omega
theorem bts_false {a b : S26} (ha : may a = true) (hb : may b = true) (h : le a b) : bts a b = false := by
  rw [Bool.eq_false_iff]
  exact fun h1 => (bts_iff ha hb).1 h1 h
theorem bts_true {a b : S26} (ha : may a = true) (hb : may b = true) (h : ¬ le a b) : bts a b = true := (bts_iff ha hb).2 h
theorem jn_cases {a b : S26} (ha : may a = true) (hb : may b = true) : (jn b a = b ∧ le a b) ∨ (jn b a = a ∧ le b a) := by
  unfold jn
  by_cases h : le a b
  · rw [bts_false ha hb h]; exact Or.inl ⟨rfl, h⟩
  · rw [bts_true ha hb h]; exact Or.inr ⟨rfl, (le_total a b).resolve_left h⟩
theorem jn_may {a b : S26} (ha : may a = true) (hb : may b = true) : may (jn b a) = true := by
  rcases jn_cases ha hb with ⟨h, _⟩ | ⟨h, _⟩ <;> rw [h] <;> assumption
theorem jn_left {a b : S26} (ha : may a = true) (hb : may b = true) : le b (jn b a) := by
  rcases jn_cases ha hb with ⟨h, _⟩ | ⟨h, h'⟩ <;> rw [h]
  · exact le_refl _
  · exact h'
theorem jn_right {a b : S26} (ha : may a = true) (hb : may b = true) : le a (jn b a) := by
  rcases jn_cases ha hb with ⟨h, h'⟩ | ⟨h, _⟩ <;> rw [h]
  · exact h'
  · exact le_refl _
theorem jn_lub {a b c : S26} (ha : may a = true) (hb : may b = true) (h1 : le a c) (h2 : le b c) : le (jn b a) c := by
  rcases jn_cases ha hb with ⟨h, _⟩ | ⟨h, _⟩ <;> rw [h] <;> assumption
theorem fold_may : ∀ (l : List S26) (x : S26), may x = true → (∀ a ∈ l, may a = true) → may (l.foldl jn x) = true
  | [], _, h, _ => h
  | a :: l, x, h, hl => fold_may l (jn x a) (jn_may (hl a (by simp)) h) (fun b hb => hl b (by simp [hb]))
theorem fold_base : ∀ (l : List S26) (x : S26), may x = true → (∀ a ∈ l, may a = true) → le x (l.foldl jn x)
  | [], _, _, _ => le_refl _
  | a :: l, x, h, hl => le_trans (jn_left (hl a (by simp)) h) (fold_base l (jn x a) (jn_may (hl a (by simp)) h) (fun b hb => hl b (by simp [hb])))
theorem fold_mem : ∀ (l : List S26) (x : S26), may x = true → (∀ a ∈ l, may a = true) → ∀ a ∈ l, le a (l.foldl jn x)
  | [], _, _, _, a, ha => by simp at ha
  | b :: l, x, h, hl, a, ha => by
    rcases List.mem_cons.1 ha with rfl | ha
    · exact le_trans (jn_right (hl a (by simp)) h) (fold_base l (jn x a) (jn_may (hl a (by simp)) h) (fun b hb => hl b (by simp [hb])))
    · exact fold_mem l (jn x b) (jn_may (hl b (by simp)) h) (fun b hb => hl b (by simp [hb])) a ha
theorem fold_lub : ∀ (l : List S26) (x c : S26), may x = true → (∀ a ∈ l, may a = true) → le x c → (∀ a ∈ l, le a c) → le (l.foldl jn x) c
  | [], _, _, _, _, h, _ => h
  | a :: l, x, c, h, hl, hx, hc => fold_lub l (jn x a) c (jn_may (hl a (by simp)) h) (fun b hb => hl b (by simp [hb])) (jn_lub (hl a (by simp)) h (hc a (by simp)) hx) (fun b hb => hc b (by simp [hb]))
theorem chk_zero {l : List S26} : chk l = 0 ↔ ∀ a ∈ l, may a = true := by
  unfold chk
  split
  · rename_i h; simpa using h
  · rename_i h; simpa using h
theorem may_zero : may ⟨0, 0⟩ = true := by decide
theorem le_zero {a : S26} (h : 0 ≤ a.f0) (hm : may a = true) : le ⟨0, 0⟩ a := by
  simp [may] at hm
  unfold le
  simp only
  omega
/-- Two joined. -/
theorem join2 (k : Nat) {a b : S26} (ha : may a = true) (hb : may b = true) (h0 : 0 ≤ a.f0) (hk : 6 ≤ k) : know_Join.f k [a, b] = some ((jn a b).f0, (jn a b).f1, 0) := by
  rw [join_eq k _ (by simp [maxLen]) (by simpa using hk)]
  have e : chk [a, b] = 0 := chk_zero.2 (by simp [ha, hb])
  have e2 : jn ⟨0, 0⟩ a = a := by
    rcases jn_cases ha may_zero with ⟨h, h'⟩ | ⟨h, _⟩
    · rw [h]; exact le_antisymm (le_zero h0 ha) h'
    · exact h
  rw [e, if_pos rfl]
  simp only [jall, List.foldl_cons, List.foldl_nil, e2]
end Go.Proofs.Ytjamociekniepaa.Know
namespace Go.Proofs.Ytjamociekniepaa.Tab
open Go.RowKit Go.Proofs.Ytjamociekniepaa.Fn Go.Proofs.YtjamociekniepaaW.PrintWords Go.Proofs.YtjamociekniepaaW.PrintMore Go.Proofs.Ytjamociekniepaa.Know

instance eq26 : DecidableEq S26 := fun a b => if h : a.f0 = b.f0 ∧ a.f1 = b.f1 then isTrue (ext26 h.1 h.2) else isFalse (fun q => h (by rw [q]; exact ⟨rfl, rfl⟩))
def few (l : List S26) : List S26 := if 65 < l.length then l.take 65 else l
theorem few_eq (l : List S26) : tattlelaw06_Few.f l = some (few l) := by
  unfold tattlelaw06_Few.f few
  by_cases h : 65 < l.length
  · rw [if_pos (by omega), if_pos (by omega), if_pos h]
  · rw [if_neg (by omega), if_neg h]
theorem few_len (l : List S26) : (few l).length ≤ 65 := by
  unfold few
  split
  · rw [List.length_take]; omega
  · omega
theorem few_mem {l : List S26} {x : S26} (h : x ∈ few l) : x ∈ l := by
  unfold few at h
  split at h
  · exact List.mem_of_mem_take h
  · exact h
/-- No incarnation is less than none. -/
def nn (l : List S26) : Prop := ∀ x ∈ l, 0 ≤ x.f0
theorem okt_len {l : List S26} (h : okt l = true) : 1 ≤ l.length ∧ l.length ≤ 64 := by
  unfold okt at h
  rw [Bool.and_eq_true, decide_eq_true_eq] at h
  exact h.1
theorem okt_may {l : List S26} (h : okt l = true) : ∀ x ∈ l, may x = true := by
  unfold okt at h
  rw [Bool.and_eq_true] at h
  exact fun x hx => List.all_eq_true.1 h.2 x hx
theorem okt_of {l : List S26} (h1 : 1 ≤ l.length) (h2 : l.length ≤ 64) (h : ∀ x ∈ l, may x = true) : okt l = true := by
  unfold okt
  rw [Bool.and_eq_true, decide_eq_true_eq]
  exact ⟨⟨h1, h2⟩, List.all_eq_true.2 h⟩
theorem okt_set {l : List S26} (h : okt l = true) (i : Nat) {x : S26} (hx : may x = true) : okt (l.set i x) = true := by
  obtain ⟨h1, h2⟩ := okt_len h
  refine okt_of (by rw [List.length_set]; exact h1) (by rw [List.length_set]; exact h2) fun y hy => ?_
  rcases List.mem_or_eq_of_mem_set hy with hy | rfl
  · exact okt_may h y hy
  · exact hx
theorem nn_set {l : List S26} (h : nn l) (i : Nat) {x : S26} (hx : 0 ≤ x.f0) : nn (l.set i x) := by
  intro y hy
  rcases List.mem_or_eq_of_mem_set hy with hy | rfl
  · exact h y hy
  · exact hx
theorem know47_eq (l : List S26) (h : l.length ≤ 64) : api_Know_47.f l = some l := by
  unfold api_Know_47.f
  rw [Option.bind_some, if_pos (by simp; omega), List.nil_append]
theorem apply_ok (K : Nat) {l : List S26} (ho : okt l = true) (hn : nn l) (i : Nat) (hi : i < l.length) {k : S26} (hk : may k = true) (hK : 101 ≤ K) :
    table_Apply.f K l (i : Int) k.f0 k.f1 = some (if jn l[i] k = l[i] then (l, false, 0) else (l.set i (jn l[i] k), true, 0)) := by
  have hlen := okt_len ho
  have hm : l[i] ∈ l := List.getElem_mem hi
  obtain ⟨K, rfl⟩ : ∃ m, K = m + 1 := ⟨K - 1, by omega⟩
  have ej := join2 K (okt_may ho _ hm) hk (hn _ hm) (by omega)
  have ej' : know_Join.f K [(⟨l[i].f0, l[i].f1⟩ : S26), (⟨k.f0, k.f1⟩ : S26)] = some ((jn l[i] k).f0, (jn l[i] k).f1, 0) := ej
  unfold table_Apply.f
  rw [tcheck_eq (K + 1) l (by omega), if_pos ho, Option.bind_some, if_pos rfl, if_neg (by omega), decide_eq_false (by omega), table_Apply.j0, if_neg (by decide), if_pos (by omega), if_pos (by omega), rd_at l i hi, ej', Option.bind_some]
  simp only [if_true]
  by_cases h : jn l[i] k = l[i]
  · rw [if_pos h, h]
    simp
  · rw [if_neg h, if_neg ?_, know47_eq l hlen.2, Option.bind_some, if_pos (by omega), Int.toNat_natCast]
    intro q
    rw [Bool.and_eq_true, beq_iff_eq, beq_iff_eq] at q
    exact h (ext26 q.1 q.2)
theorem apply_bad (K : Nat) {l : List S26} (a k0 k1 : Int) (h : ¬(okt l = true ∧ 0 ≤ a ∧ a < (l.length : Int))) (hK : 101 ≤ K) : table_Apply.f K l a k0 k1 = some (l, false, 1) := by
  obtain ⟨K, rfl⟩ : ∃ m, K = m + 1 := ⟨K - 1, by omega⟩
  have e : table_Apply.j0 (K + 1) l a true k0 k1 = some (l, false, 1) := by rw [table_Apply.j0, if_pos rfl]
  unfold table_Apply.f
  rw [tcheck_eq (K + 1) l (by omega), Option.bind_some]
  by_cases ho : okt l = true
  · rw [if_pos ho, if_pos rfl]
    by_cases h1 : a < 0
    · rw [if_pos h1, e]
    · have q : ¬(0 ≤ a ∧ a < (l.length : Int)) := fun q => h ⟨ho, q⟩
      rw [if_neg h1, decide_eq_true (by omega), e]
  · rw [if_neg ho, if_neg (by decide), e]
theorem apply_odd (K : Nat) {l : List S26} (ho : okt l = true) (i : Nat) (hi : i < l.length) {k : S26} (hk : may k = false) (hK : 101 ≤ K) :
    table_Apply.f K l (i : Int) k.f0 k.f1 = some (l, false, 1) := by
  obtain ⟨K, rfl⟩ : ∃ m, K = m + 1 := ⟨K - 1, by omega⟩
  have ec : chk [l[i], k] ≠ 0 := by
    intro h
    rw [chk_zero.1 h k (by simp)] at hk
    cases hk
  have ej := join_eq K [l[i], k] (by simp [maxLen]) (by show 2 + 4 ≤ K; omega)
  rw [if_neg ec] at ej
  have ej' : know_Join.f K [(⟨l[i].f0, l[i].f1⟩ : S26), (⟨k.f0, k.f1⟩ : S26)] = some (0, 0, 1) := ej
  unfold table_Apply.f
  rw [tcheck_eq (K + 1) l (by omega), if_pos ho, Option.bind_some, if_pos rfl, if_neg (by omega), decide_eq_false (by omega), table_Apply.j0, if_neg (by decide), if_pos (by omega), if_pos (by omega), rd_at l i hi, ej', Option.bind_some]
  rfl
/-- Two tables as one. -/
def mrg (l o : List S26) : List S26 := List.zipWith jn l o
theorem mrg_len {l o : List S26} (h : l.length = o.length) : (mrg l o).length = l.length := by unfold mrg; rw [List.length_zipWith]; omega
theorem mrg_at (l o : List S26) (i : Nat) (h : i < (mrg l o).length) (h1 : i < l.length) (h2 : i < o.length) : (mrg l o)[i] = jn l[i] o[i] := by simp only [mrg, List.getElem_zipWith]
theorem merge_l0 {l o : List S26} (ho : okt l = true) (ho' : okt o = true) (hl : l.length = o.length) (hn : nn l) : ∀ (d i K : Nat), i + d = l.length → d + 100 ≤ K →
    table_Merge.l0 K l o ((mrg l o).take i ++ List.replicate d z26) (l.length : Int) (i : Int) = some (mrg l o, 0)
  | 0, i, K, hi, hK => by
    obtain ⟨K, rfl⟩ : ∃ m, K = m + 1 := ⟨K - 1, by omega⟩
    rw [table_Merge.l0, if_neg (by omega), List.take_of_length_le (by rw [mrg_len hl]; omega), List.replicate_zero, List.append_nil]
  | d + 1, i, K, hi, hK => by
    obtain ⟨K, rfl⟩ : ∃ m, K = m + 1 := ⟨K - 1, by omega⟩
    have h1 : i < l.length := by omega
    have h2 : i < o.length := by omega
    have hml := mrg_len hl
    have hm : l[i] ∈ l := List.getElem_mem h1
    have hm' : o[i] ∈ o := List.getElem_mem h2
    have hlen := okt_len ho
    have ej := join2 K (okt_may ho _ hm) (okt_may ho' _ hm') (hn _ hm) (by omega)
    have ej' : know_Join.f K [(⟨l[i].f0, l[i].f1⟩ : S26), (⟨o[i].f0, o[i].f1⟩ : S26)] = some ((jn l[i] o[i]).f0, (jn l[i] o[i]).f1, 0) := ej
    have e : ((mrg l o).take i ++ List.replicate (d + 1) z26).set i (jn l[i] o[i]) = (mrg l o).take (i + 1) ++ List.replicate d z26 := by
      rw [List.set_append_right _ _ (by rw [List.length_take]; omega), List.length_take, Nat.min_eq_left (by omega), Nat.sub_self, List.replicate_succ, List.set_cons_zero, List.take_succ_eq_append_getElem (by omega), mrg_at l o i (by omega) h1 h2, List.append_assoc]
      rfl
    rw [table_Merge.l0, if_pos (by omega), if_pos (by omega), if_pos (by omega), if_pos (by omega), rd_at l i h1, rd_at o i h2, ej', Option.bind_some, if_pos rfl, if_pos (by rw [List.length_append, List.length_take, List.length_replicate]; omega), Int.toNat_natCast]
    have e' : ((mrg l o).take i ++ List.replicate (d + 1) z26).set i (⟨(jn l[i] o[i]).f0, (jn l[i] o[i]).f1⟩ : S26) = (mrg l o).take (i + 1) ++ List.replicate d z26 := e
    rw [e', w64 i l.length h1 (by simp [maxLen]; omega)]
    exact merge_l0 ho ho' hl hn d (i + 1) K (by omega) (by omega)
theorem merge_ok (K : Nat) {l o : List S26} (ho : okt l = true) (ho' : okt o = true) (hl : l.length = o.length) (hn : nn l) (hK : 200 ≤ K) : table_Merge.f K l o = some (mrg l o, 0) := by
  obtain ⟨K, rfl⟩ : ∃ m, K = m + 1 := ⟨K - 1, by omega⟩
  have hlen := okt_len ho
  unfold table_Merge.f
  rw [tcheck_eq (K + 1) l (by omega), if_pos ho, Option.bind_some, if_pos rfl, tcheck_eq (K + 1) o (by omega), if_pos ho', Option.bind_some, if_pos rfl, show ((l.length : Int) != (o.length : Int)) = false by simp [hl], table_Merge.j0, if_neg (by decide), if_pos (by omega), if_pos (by rw [Int.toNat_natCast]; omega), Int.toNat_natCast]
  have := merge_l0 ho ho' hl hn l.length 0 K (by omega) (by omega)
  rw [List.take_zero, List.nil_append] at this
  exact this
theorem merge_bad (K : Nat) {l o : List S26} (h : ¬(okt l = true ∧ okt o = true ∧ l.length = o.length)) (hK : 200 ≤ K) : table_Merge.f K l o = some ([], 1) := by
  obtain ⟨K, rfl⟩ : ∃ m, K = m + 1 := ⟨K - 1, by omega⟩
  have e : table_Merge.j0 (K + 1) l o true = some ([], 1) := by rw [table_Merge.j0, if_pos rfl]
  unfold table_Merge.f
  rw [tcheck_eq (K + 1) l (by omega), Option.bind_some]
  by_cases ho : okt l = true
  · rw [if_pos ho, if_pos rfl, tcheck_eq (K + 1) o (by omega), Option.bind_some]
    by_cases ho' : okt o = true
    · rw [if_pos ho', if_pos rfl, show ((l.length : Int) != (o.length : Int)) = true by simp; intro q; exact h ⟨ho, ho', by omega⟩, e]
    · rw [if_neg ho', if_neg (by decide), e]
  · rw [if_neg ho, if_neg (by decide), e]
theorem same_l0 {a b : List S26} (hl : a.length = b.length) (hm : a.length ≤ maxLen) : ∀ (d i K : Nat), i + d = a.length → d + 1 ≤ K →
    tattleref06_Same.l0 K a b (i : Int) = some (decide (a.drop i = b.drop i))
  | 0, i, K, hi, hK => by
    obtain ⟨K, rfl⟩ : ∃ m, K = m + 1 := ⟨K - 1, by omega⟩
    rw [tattleref06_Same.l0, if_neg (by omega), List.drop_of_length_le (by omega), List.drop_of_length_le (by omega), decide_eq_true rfl]
  | d + 1, i, K, hi, hK => by
    obtain ⟨K, rfl⟩ : ∃ m, K = m + 1 := ⟨K - 1, by omega⟩
    have h1 : i < a.length := by omega
    have h2 : i < b.length := by omega
    rw [tattleref06_Same.l0, if_pos (by omega), if_pos (by omega), if_pos (by omega), rd_at a i h1, rd_at b i h2, w64 i _ h1 hm, same_l0 hl hm d (i + 1) K (by omega) (by omega), List.drop_eq_getElem_cons h1, List.drop_eq_getElem_cons h2]
    by_cases h : a[i] = b[i]
    · rw [if_neg (by rw [h]; simp)]
      congr 1
      rw [decide_eq_decide, List.cons.injEq]
      exact ⟨fun q => ⟨h, q⟩, fun q => q.2⟩
    · rw [if_pos, decide_eq_false (by rw [List.cons.injEq]; exact fun q => h q.1)]
      rw [Bool.or_eq_true, Bool.not_eq_true', Bool.not_eq_true', beq_eq_false_iff_ne, beq_eq_false_iff_ne]
      by_cases q : a[i].f0 = b[i].f0
      · exact Or.inr fun q' => h (ext26 q q')
      · exact Or.inl q
theorem same_eq (K : Nat) (a b : List S26) (hm : a.length ≤ maxLen) (hK : a.length + 1 ≤ K) : tattleref06_Same.f K a b = some (decide (a = b)) := by
  unfold tattleref06_Same.f
  by_cases hl : a.length = b.length
  · rw [if_pos (by omega)]
    exact same_l0 hl hm a.length 0 K (by omega) hK
  · rw [if_neg (by omega), decide_eq_false (fun q => hl (by rw [q]))]
theorem many_l0 (l : List Int) (n : Int) (hm : l.length ≤ maxLen) : ∀ (d i K c : Nat), i + d = l.length → d + 1 ≤ K → c ≤ i →
    tattleref02_Many.l0 K l n (c : Int) (i : Int) = some ((c : Int) + ((l.drop i).count n : Int))
  | 0, i, K, c, hi, hK, hc => by
    obtain ⟨K, rfl⟩ : ∃ m, K = m + 1 := ⟨K - 1, by omega⟩
    rw [tattleref02_Many.l0, if_neg (by omega), List.drop_of_length_le (by omega), List.count_nil]
    simp
  | d + 1, i, K, c, hi, hK, hc => by
    obtain ⟨K, rfl⟩ : ∃ m, K = m + 1 := ⟨K - 1, by omega⟩
    have h1 : i < l.length := by omega
    have e : rd l (i : Int) = l[i] := by simp [rd, h1]
    rw [tattleref02_Many.l0, if_pos (by omega), if_pos (by omega), e, w64 i _ h1 hm, List.drop_eq_getElem_cons h1, List.count_cons]
    by_cases h : l[i] = n
    · rw [if_pos h, w64 c _ (Nat.lt_of_le_of_lt hc h1) hm, many_l0 l n hm d (i + 1) K (c + 1) (by omega) (by omega) (by omega), if_pos (by simpa using h)]
      congr 1; omega
    · rw [if_neg h, many_l0 l n hm d (i + 1) K c (by omega) (by omega) (by omega), if_neg (by simpa using h)]
      congr 1
theorem many_eq (K : Nat) (l : List Int) (n : Int) (hm : l.length ≤ maxLen) (hK : l.length + 1 ≤ K) : tattleref02_Many.f K l n = some ((l.count n : Nat) : Int) := by
  unfold tattleref02_Many.f
  have := many_l0 l n hm l.length 0 K 0 (by omega) hK (Nat.le_refl _)
  rw [List.drop_zero] at this
  rw [show ((0 : Nat) : Int) = 0 from rfl] at this
  rw [this]
  congr 1; omega
theorem up_eq {l : List S26} (h : okt l = true) : table_Up.f l = some (plcs (fun _ x => upk x) l 0) := by unfold table_Up.f; rw [if_pos h]
theorem others_eq {l : List S26} (h : okt l = true) (a : Int) : table_Others.f l a = some (plcs (oth a) l 0) := by unfold table_Others.f; rw [if_pos h]
theorem lowest_eq {l : List S26} (h : okt l = true) : table_Lowest.f l = some (low l) := by unfold table_Lowest.f; rw [if_pos h]
theorem behind_eq {l o : List S26} (h : okt l = true) (h' : okt o = true) (hl : l.length = o.length) : table_Behind.f l o = some (plcs (bhd o) l 0, 0) := by
  unfold table_Behind.f; rw [h, h', decide_eq_true hl]; rfl
theorem behind_bad {l o : List S26} (h : ¬(okt l = true ∧ okt o = true ∧ l.length = o.length)) : table_Behind.f l o = some ([], 1) := by
  unfold table_Behind.f
  rw [if_neg]
  rw [Bool.and_eq_true, Bool.and_eq_true, decide_eq_true_eq]
  exact fun q => h ⟨q.1.1, q.1.2, q.2⟩
/-- What holds of a place holds of what lies there. -/
theorem mem_plcs (p : Nat → S26 → Bool) (v : Int) : ∀ (l : List S26) (i : Nat), v ∈ plcs p l i ↔ ∃ (j : Nat) (h : j < l.length), v = ((i + j : Nat) : Int) ∧ p (i + j) l[j] = true
  | [], i => by simp [plcs]
  | x :: l, i => by
    have ih := mem_plcs p v l (i + 1)
    have hr : (∃ (j : Nat) (h : j < (x :: l).length), v = ((i + j : Nat) : Int) ∧ p (i + j) (x :: l)[j] = true) ↔ (v = (i : Int) ∧ p i x = true) ∨ v ∈ plcs p l (i + 1) := by
      rw [ih]
      constructor
      · rintro ⟨j, h, hv, hp⟩
        cases j with
        | zero => exact Or.inl ⟨hv, hp⟩
        | succ j => exact Or.inr ⟨j, by simpa using h, by rw [hv]; congr 1; omega, by rw [show i + 1 + j = i + (j + 1) by omega]; exact hp⟩
      · rintro (⟨hv, hp⟩ | ⟨j, h, hv, hp⟩)
        · exact ⟨0, by simp, by simpa using hv, by simpa using hp⟩
        · exact ⟨j + 1, by simpa using h, by rw [hv]; congr 1; omega, by rw [show i + (j + 1) = i + 1 + j by omega]; exact hp⟩
    rw [hr, plcs]
    split
    · rename_i h
      rw [List.mem_cons]
      constructor
      · rintro (q | q)
        · exact Or.inl ⟨q, h⟩
        · exact Or.inr q
      · rintro (q | q)
        · exact Or.inl q.1
        · exact Or.inr q
    · rename_i h
      exact ⟨Or.inr, fun q => q.resolve_left fun q => h q.2⟩
theorem plcs_nodup (p : Nat → S26 → Bool) : ∀ (l : List S26) (i : Nat), (plcs p l i).Nodup
  | [], i => by simp [plcs]
  | x :: l, i => by
    rw [plcs]
    split
    · rw [List.nodup_cons]
      refine ⟨fun q => ?_, plcs_nodup p l (i + 1)⟩
      obtain ⟨j, _, hv, _⟩ := (mem_plcs p _ l (i + 1)).1 q
      omega
    · exact plcs_nodup p l (i + 1)
/-- How often a place is among those of which something holds. -/
theorem count_plcs (p : Nat → S26 → Bool) (l : List S26) (m : Nat) (h : m < l.length) : (plcs p l 0).count (m : Int) = if p m l[m] = true then 1 else 0 := by
  have hn := plcs_nodup p l 0
  split
  · rename_i q
    have : (m : Int) ∈ plcs p l 0 := (mem_plcs p _ l 0).2 ⟨m, h, by rw [Nat.zero_add], by rw [Nat.zero_add]; exact q⟩
    exact List.Nodup.count hn |>.trans (if_pos this)
  · rename_i q
    refine List.count_eq_zero.2 fun q' => q ?_
    obtain ⟨j, hj, hv, hp⟩ := (mem_plcs p _ l 0).1 q'
    rw [Nat.zero_add] at hv hp
    have : j = m := by omega
    subst this
    exact hp
theorem plcs_append (p : Nat → S26 → Bool) : ∀ (a b : List S26) (i : Nat), plcs p (a ++ b) i = plcs p a i ++ plcs p b (i + a.length)
  | [], b, i => by simp [plcs]
  | x :: a, b, i => by
    rw [List.cons_append, plcs, plcs, plcs_append p a b (i + 1), List.length_cons, show i + 1 + a.length = i + (a.length + 1) by omega]
    split <;> simp
theorem plcs_none (p : Nat → S26 → Bool) : ∀ (l : List S26) (i : Nat), (∀ (j : Nat) (h : j < l.length), p (i + j) l[j] = false) → plcs p l i = []
  | [], i, _ => rfl
  | x :: l, i, h => by
    rw [plcs, if_neg (by have := h 0 (by simp); simpa using this)]
    exact plcs_none p l (i + 1) fun j hj => by have := h (j + 1) (by simpa using hj); rwa [show i + (j + 1) = i + 1 + j by omega] at this
theorem plcs_all (p : Nat → S26 → Bool) : ∀ (l : List S26) (i : Nat), (∀ (j : Nat) (h : j < l.length), p (i + j) l[j] = true) → (plcs p l i).length = l.length
  | [], i, _ => rfl
  | x :: l, i, h => by
    rw [plcs, if_pos (by have := h 0 (by simp); simpa using this), List.length_cons, List.length_cons, plcs_all p l (i + 1) fun j hj => by have := h (j + 1) (by simpa using hj); rwa [show i + (j + 1) = i + 1 + j by omega] at this]
/-- The first place is the first one of the places. -/
theorem fst_plcs (p : S26 → Bool) : ∀ (l : List S26) (i : Nat), (∃ (m : Nat) (r : List Int), fstp p l i = some m ∧ plcs (fun _ x => p x) l i = (m : Int) :: r) ∨ (fstp p l i = none ∧ plcs (fun _ x => p x) l i = [])
  | [], i => Or.inr ⟨rfl, rfl⟩
  | x :: l, i => by
    rw [fstp, plcs]
    split
    · exact Or.inl ⟨i, _, rfl, rfl⟩
    · exact fst_plcs p l (i + 1)
end Go.Proofs.Ytjamociekniepaa.Tab
namespace Go.Proofs.Ytjamociekniepaa.Tab
open Go.RowKit Go.Proofs.Ytjamociekniepaa.Fn Go.Proofs.YtjamociekniepaaW.PrintWords Go.Proofs.YtjamociekniepaaW.PrintMore Go.Proofs.Ytjamociekniepaa.Know
theorem jn_comm {a b : S26} (ha : may a = true) (hb : may b = true) : jn a b = jn b a := by
  rcases jn_cases ha hb with ⟨h1, q1⟩ | ⟨h1, q1⟩ <;> rcases jn_cases hb ha with ⟨h2, q2⟩ | ⟨h2, q2⟩ <;> rw [h1, h2]
  · exact le_antisymm q1 q2
  · exact le_antisymm q1 q2
theorem jn_idem (a : S26) : jn a a = a := by unfold jn; split <;> rfl
theorem jn_assoc {a b c : S26} (ha : may a = true) (hb : may b = true) (hc : may c = true) : jn (jn a b) c = jn a (jn b c) := by
  have hab := jn_may hb ha
  have hbc := jn_may hc hb
  refine le_antisymm (jn_lub hc hab ?_ (jn_lub hb ha ?_ ?_)) (jn_lub hbc ha (jn_lub hc hb ?_ ?_) ?_)
  · exact le_trans (jn_right hc hb) (jn_right hbc ha)
  · exact le_trans (jn_left hc hb) (jn_right hbc ha)
  · exact jn_left hbc ha
  · exact jn_right hc hab
  · exact le_trans (jn_right hb ha) (jn_left hc hab)
  · exact le_trans (jn_left hb ha) (jn_left hc hab)
theorem jn_nn {a b : S26} (ha : 0 ≤ a.f0) (hb : 0 ≤ b.f0) : 0 ≤ (jn a b).f0 := by unfold jn; split <;> assumption
theorem mem_zip {l o : List S26} {x : S26} (h : x ∈ mrg l o) : ∃ a ∈ l, ∃ b ∈ o, x = jn a b := by
  obtain ⟨i, hi, rfl⟩ := List.mem_iff_getElem.1 h
  have hi' := hi
  unfold mrg at hi'
  rw [List.length_zipWith] at hi'
  exact ⟨_, List.getElem_mem (show i < l.length by omega), _, List.getElem_mem (show i < o.length by omega), mrg_at l o i hi (by omega) (by omega)⟩
theorem mrg_okt {l o : List S26} (h : okt l = true) (h' : okt o = true) (hl : l.length = o.length) : okt (mrg l o) = true := by
  obtain ⟨h1, h2⟩ := okt_len h
  refine okt_of (by rw [mrg_len hl]; exact h1) (by rw [mrg_len hl]; exact h2) fun x hx => ?_
  obtain ⟨a, ha, b, hb, rfl⟩ := mem_zip hx
  exact jn_may (okt_may h' _ hb) (okt_may h _ ha)
theorem mrg_nn {l o : List S26} (h : nn l) (h' : nn o) : nn (mrg l o) := by
  intro x hx
  obtain ⟨a, ha, b, hb, rfl⟩ := mem_zip hx
  exact jn_nn (h _ ha) (h' _ hb)
theorem mrg_comm {l o : List S26} (h : okt l = true) (h' : okt o = true) (hl : l.length = o.length) : mrg l o = mrg o l := by
  refine List.ext_getElem (by rw [mrg_len hl, mrg_len hl.symm]; exact hl) fun i h1 h2 => ?_
  have q := mrg_len hl
  rw [mrg_at l o i h1 (by omega) (by omega), mrg_at o l i h2 (by omega) (by omega)]
  exact jn_comm (okt_may h _ (List.getElem_mem _)) (okt_may h' _ (List.getElem_mem _))
theorem mrg_idem (l : List S26) : mrg l l = l := by
  refine List.ext_getElem (mrg_len rfl) fun i h1 h2 => ?_
  rw [mrg_at l l i h1 h2 h2, jn_idem]
theorem mrg_assoc {a b c : List S26} (ha : okt a = true) (hb : okt b = true) (hc : okt c = true) (h1 : a.length = b.length) (h2 : b.length = c.length) : mrg (mrg a b) c = mrg a (mrg b c) := by
  have q1 := mrg_len h1
  have q2 := mrg_len h2
  have q3 := mrg_len (l := mrg a b) (o := c) (by omega)
  have q4 := mrg_len (l := a) (o := mrg b c) (by omega)
  refine List.ext_getElem (by omega) fun i h3 h4 => ?_
  rw [mrg_at _ c i h3 (by omega) (by omega), mrg_at a b i (by omega) (by omega) (by omega), mrg_at a _ i h4 (by omega) (by omega), mrg_at b c i (by omega) (by omega) (by omega)]
  exact jn_assoc (okt_may ha _ (List.getElem_mem _)) (okt_may hb _ (List.getElem_mem _)) (okt_may hc _ (List.getElem_mem _))
/-- Who was merged with another one knows as well. -/
theorem bhd_left {l o : List S26} (h : okt l = true) (h' : okt o = true) (hl : l.length = o.length) : plcs (bhd l) (mrg l o) 0 = [] := by
  refine plcs_none _ _ _ fun i hi => ?_
  have q := mrg_len hl
  unfold bhd
  rw [Nat.zero_add, btk_eq, rd_at l i (by omega), mrg_at l o i hi (by omega) (by omega)]
  have m1 := okt_may h _ (List.getElem_mem (show i < l.length by omega))
  have m2 := okt_may h' _ (List.getElem_mem (show i < o.length by omega))
  exact bts_false m1 (jn_may m2 m1) (jn_left m2 m1)
theorem tmod_nat (a n : Int) (ha : 0 ≤ a) (hn : 0 < n) : ∃ m : Nat, Int.tmod a n = (m : Int) ∧ (m : Int) < n := by
  rw [Int.tmod_eq_emod_of_nonneg ha]
  have h1 := Int.emod_nonneg a (show n ≠ 0 by omega)
  have h2 := Int.emod_lt_of_pos a hn
  exact ⟨(a % n).toNat, by omega, by omega⟩
end Go.Proofs.Ytjamociekniepaa.Tab
