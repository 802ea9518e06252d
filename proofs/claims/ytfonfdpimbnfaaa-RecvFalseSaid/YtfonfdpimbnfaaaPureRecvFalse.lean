/- RecvFalse: the pure statement. -/
import Derived.Test.YtfonfdpimbnfaaaGQx19
import Derived.Test.YtfonfdpimbnfaaaURecv
import Derived.Test.YtfonfdpimbnfaaaUAwake21
set_option linter.unusedVariables false
namespace Go.Proofs.Ytfonfdpimbnfaaa.Pure
open Go.RowKit Go.Proofs.YtfonfdpimbnfaaaW.PrintWords Go.Proofs.YtfonfdpimbnfaaaW.PrintLast Go.Proofs.YtfonfdpimbnfaaaW.PrintMore Go.Proofs.Ytfonfdpimbnfaaa.GQ Go.Proofs.Ytfonfdpimbnfaaa.U Go.Proofs.Ytfonfdpimbnfaaa.GJoin
theorem xor_odd (a : Nat) : (a ^^^ 1) % 2 ≠ a % 2 := by
  have h := Nat.testBit_xor a 1 0
  simp only [Nat.testBit_zero] at h
  intro he
  rw [he] at h
  cases hb : decide (a % 2 = 1) <;> rw [hb] at h <;> simp at h
theorem xor_ne {n : Int} (hb : -9223372036854775808 ≤ n ∧ n ≤ 9223372036854775807) : Go.bits .xor .i64 n 1 ≠ n := by
  have h1 : (BitVec.ofInt 64 1).toNat = 1 := by decide
  have hx := xor_odd (BitVec.ofInt 64 n).toNat
  have hlt : (BitVec.ofInt 64 n).toNat ^^^ 1 < 2 ^ 64 := Nat.xor_lt_two_pow (BitVec.ofInt 64 n).isLt (by decide)
  have e : Go.bits .xor .i64 n 1 = IntKind.i64.wrap ((BitVec.ofInt 64 n ^^^ BitVec.ofInt 64 1).toNat : Int) := rfl
  rw [e, BitVec.toNat_xor, h1, IntKind.wrap_i64]
  generalize hB : (BitVec.ofInt 64 n).toNat ^^^ 1 = B at *
  rw [BitVec.toNat_ofInt] at hx
  omega
/-- The parts that came, the first i of them. -/
def stP (P : List ByteArray) (i : Nat) : List ByteArray := P.take i ++ List.replicate (P.length - i) ⟨#[]⟩
def stC (n i : Nat) : List Bool := List.replicate i true ++ List.replicate (n - i) false
theorem stP_len {P : List ByteArray} {i : Nat} (h : i ≤ P.length) : (stP P i).length = P.length := by
  unfold stP
  rw [List.length_append, List.length_take, List.length_replicate]
  omega
theorem stC_len {n i : Nat} (h : i ≤ n) : (stC n i).length = n := by
  unfold stC
  rw [List.length_append, List.length_replicate, List.length_replicate]
  omega
theorem stP_set {P : List ByteArray} {i : Nat} (h : i < P.length) : (stP P i).set i (P.getD i ByteArray.empty) = stP P (i + 1) := by
  unfold stP
  obtain ⟨d, hd⟩ : ∃ d, P.length - i = d + 1 := ⟨P.length - i - 1, by omega⟩
  rw [hd, show P.length - (i + 1) = d by omega, List.set_append_right _ _ (by rw [List.length_take]; omega), List.length_take, show i - min i P.length = 0 by omega, List.replicate_succ, List.set_cons_zero, List.take_succ_eq_append_getElem h, List.append_assoc, List.getD_eq_getElem?_getD, List.getElem?_eq_getElem h]
  rfl
theorem stC_set {n i : Nat} (h : i < n) : (stC n i).set i true = stC n (i + 1) := by
  unfold stC
  obtain ⟨d, hd⟩ : ∃ d, n - i = d + 1 := ⟨n - i - 1, by omega⟩
  rw [hd, show n - (i + 1) = d by omega, List.set_append_right _ _ (by rw [List.length_replicate]; omega), List.length_replicate, Nat.sub_self, List.replicate_succ, List.set_cons_zero, List.replicate_succ', List.append_assoc]
  rfl
theorem stC_at {n i : Nat} (h : i < n) : (stC n i).getD i false = false := by
  unfold stC
  rw [List.getD_eq_getElem?_getD, List.getElem?_append_right (by rw [List.length_replicate]; omega), List.length_replicate, Nat.sub_self, List.getElem?_replicate]
  split <;> rfl
theorem stP_all (P : List ByteArray) : stP P P.length = P := by
  unfold stP
  simp
theorem stC_all (n : Nat) : stC n n = List.replicate n true := by
  unfold stC
  simp
theorem all_true (n : Nat) : ((List.replicate n true).any fun b => !b) = false := by
  induction n with
  | zero => rfl
  | succ n ih => rw [List.replicate_succ, List.any_cons, ih]; rfl
theorem lft_none (n : Nat) : lft (List.replicate n false) n = List.range n := by
  unfold lft
  apply List.filter_eq_self.2
  intro i _
  rw [List.getD_eq_getElem?_getD, List.getElem?_replicate]
  split <;> rfl
theorem false_l1 {t : ByteArray} {num : Int} {P : List ByteArray} {C : List Bool} (e : ∀ k, 2000 ≤ k → recv_Whole.f k num P C = some (⟨(joined P ⟨#[]⟩).toArray⟩, true)) (hj : joined P ⟨#[]⟩ = t.data.toList) (L : List S50) (hL : ∀ x ∈ L, x = ⟨num, P, C⟩) (hn : L.length ≤ 10) : ∀ (d i k : Nat), L.length - i = d → i ≤ L.length → d + 2100 ≤ k → tillerlaw21_RecvFalse.l1 k t L (L.length : Int) (i : Int) = some true := by
  intro d
  induction d with
  | zero =>
    intro i k hd hi hk
    obtain ⟨k, rfl⟩ := succ_of_lt (show 0 < k by omega)
    simp only [tillerlaw21_RecvFalse.l1]
    rw [if_neg (by omega), awake21 (by omega)]; rfl
  | succ d ih =>
    intro i k hd hi hk
    obtain ⟨k, rfl⟩ := succ_of_lt (show 0 < k by omega)
    have hx : rd_T50 L (i : Int) = ⟨num, P, C⟩ := by
      unfold rd_T50
      rw [Int.toNat_natCast, List.getD_eq_getElem?_getD, List.getElem?_eq_getElem (by omega)]
      exact hL _ (List.getElem_mem _)
    have next := ih (i + 1) k (by omega) (by omega) (by omega)
    rw [Int.natCast_add, Int.natCast_one] at next
    simp only [tillerlaw21_RecvFalse.l1]
    rw [if_pos (by omega), if_pos (by omega), if_pos (by omega), hx]
    simp only []
    rw [e k (by omega), Option.bind_some]
    simp only [if_true]
    rw [ByteArray.toList_mk, hj, ByteArray.toList_eq, if_pos rfl, w64 (x := (i : Int) + 1) (by omega) (by omega), next]
theorem false_j2 {t : ByteArray} {num : Int} {P : List ByteArray} {C : List Bool} {k : Nat} (hk : 3000 ≤ k) (e : ∀ k, 2000 ≤ k → recv_Whole.f k num P C = some (⟨(joined P ⟨#[]⟩).toArray⟩, true)) (hj : joined P ⟨#[]⟩ = t.data.toList) : tillerlaw21_RecvFalse.j2 k t false num P C num P C num P C num P C = some true := by
  obtain ⟨k, rfl⟩ := succ_of_lt (show 0 < k by omega)
  simp only [tillerlaw21_RecvFalse.j2, Bool.false_eq_true, if_false]
  rw [Option.bind_some]
  exact false_l1 e hj _ (by simp) (by simp) 4 0 k rfl (by omega) (by omega)
theorem false_j1 {t other : ByteArray} {num : Int} (hb : -9223372036854775808 ≤ num ∧ num ≤ 9223372036854775807) {P : List ByteArray} {C C0 : List Bool} {k : Nat} (hk : 4000 ≤ k) (h1 : 1 ≤ P.length) (h0 : P.length ≤ 1000) (hC : C.length = P.length) (hall : ∀ j, j < P.length → C.getD j false = true) (ho : other.size ≤ 4096)
    (e : ∀ k, 2000 ≤ k → recv_Whole.f k num P C = some (⟨(joined P ⟨#[]⟩).toArray⟩, true)) (hj : joined P ⟨#[]⟩ = t.data.toList) (at_ : Int) : tillerlaw21_RecvFalse.j1 k num t at_ other (decide (at_ < 0) || decide (at_ ≥ (P.length : Int))) num P C0 num P C = some true := by
  obtain ⟨k, rfl⟩ := succ_of_lt (show 0 < k by omega)
  simp only [tillerlaw21_RecvFalse.j1]
  by_cases hx : at_ < 0 ∨ at_ ≥ (P.length : Int)
  · have : (decide (at_ < 0) || decide (at_ ≥ (P.length : Int))) = true := by
      rw [Bool.or_eq_true, decide_eq_true_eq, decide_eq_true_eq]; exact hx
    rw [this, if_pos rfl, awake21 (by omega)]; rfl
  · have : (decide (at_ < 0) || decide (at_ ≥ (P.length : Int))) = false := by
      rw [Bool.or_eq_false_iff, decide_eq_false_iff_not, decide_eq_false_iff_not]; omega
    obtain ⟨j, rfl⟩ := Int.eq_ofNat_of_zero_le (show 0 ≤ at_ by omega)
    have hjl : j < P.length := by omega
    rw [this, if_neg (by decide), Take_there (by omega) h1 hC hjl ho (hall j hjl), Option.bind_some, Take_old h1 hC (xor_ne hb), Option.bind_some, Take_arg (by omega) h1 hC (.inl (by rw [w64 (by omega) (by omega)]; omega)), Option.bind_some, if_pos (by omega), if_pos (by omega), rdS]
    simp only []
    by_cases c : (P.getD j ByteArray.empty).toList = other.toList
    · rw [if_pos c, c, beq_self_eq_true, beq_self_eq_true, bne_self_eq_false, if_neg Bool.false_ne_true, if_pos rfl, if_pos trivial, bne_self_eq_false]
      exact false_j2 (by omega) e hj
    · have hne : (other.toList == (P.getD j ByteArray.empty).toList) = false := beq_eq_false_iff_ne.2 (fun h => c h.symm)
      rw [if_neg c, hne, show ((9 : Int) == 0) = false from rfl, bne_self_eq_false, if_neg Bool.false_ne_true, if_neg (by decide), if_pos rfl, if_pos trivial, bne_self_eq_false]
      exact false_j2 (by omega) e hj
theorem false_l0 {t other : ByteArray} {num : Int} (hb : -9223372036854775808 ≤ num ∧ num ≤ 9223372036854775807) {P : List ByteArray} {C0 : List Bool} (h1 : 1 ≤ P.length) (h0 : P.length ≤ 500) (ho : other.size ≤ 4096) (hs : ∀ j, j < P.length → (P.getD j ByteArray.empty).size ≤ 4096)
    (hj : joined P ⟨#[]⟩ = t.data.toList) (ht : t.size ≤ 1000) (at_ : Int) : ∀ (d i k : Nat), P.length - i = d → i ≤ P.length → d + 5000 ≤ k → tillerlaw21_RecvFalse.l0 k num t at_ other ((List.range P.length).map (prt num P)) (P.length : Int) (i : Int) num P C0 num (stP P i) (stC P.length i) = some true := by
  intro d
  induction d with
  | zero =>
    intro i k hd hi hk
    obtain ⟨k, rfl⟩ := succ_of_lt (show 0 < k by omega)
    obtain rfl : i = P.length := by omega
    have hall : ∀ j, j < P.length → (List.replicate P.length true).getD j false = true := by
      intro j hj
      rw [List.getD_eq_getElem?_getD, List.getElem?_replicate, if_pos hj]; rfl
    have := false_j1 (t := t) (C0 := C0) (other := other) hb (k := k) (by omega) h1 (by omega) (show (List.replicate P.length true).length = P.length by simp) hall ho (fun k hk => Whole_yes h1 (by omega) (by simp) (by omega) (all_true _) (by rw [hj]; simp; omega)) hj at_
    simp only [tillerlaw21_RecvFalse.l0]
    rw [if_neg (by omega), stP_all, stC_all]
    by_cases c : at_ < 0
    · rw [if_pos c]
      rw [decide_eq_true c, Bool.true_or] at this
      exact this
    · rw [if_neg c]
      rw [decide_eq_false c, Bool.false_or] at this
      exact this
  | succ d ih =>
    intro i k hd hi hk
    obtain ⟨k, rfl⟩ := succ_of_lt (show 0 < k by omega)
    have hil : i < P.length := by omega
    have hx : rd_T46 ((List.range P.length).map (prt num P)) (i : Int) = prt num P i := by
      unfold rd_T46
      rw [Int.toNat_natCast, List.getD_eq_getElem?_getD, List.getElem?_map, List.getElem?_range hil]
      rfl
    have next := ih (i + 1) k (by omega) (by omega) (by omega)
    rw [Int.natCast_add, Int.natCast_one] at next
    have tk := Take_new (k := k) (num := num) (P := stP P i) (came := stC P.length i) (x := P.getD i ByteArray.empty) (j := i) (by omega) (by rw [stP_len (by omega)]; exact h1) (by rw [stP_len (by omega)]; omega) (by rw [stP_len (by omega), stC_len (by omega)]) (by rw [stP_len (by omega)]; exact hil) (hs i hil) (stC_at hil)
    rw [stP_len (by omega), stP_set hil, stC_set hil] at tk
    simp only [tillerlaw21_RecvFalse.l0]
    rw [if_pos (by omega), if_pos (by omega), if_pos (by rw [List.length_map, List.length_range]; omega), hx]
    simp only [prt]
    rw [rdS, tk, Option.bind_some]
    simp only [if_true]
    rw [w64 (x := (i : Int) + 1) (by omega) (by omega)]
    exact next
theorem RecvFalse : ∀ (a0 : Int) (a1 : ByteArray) (a2 : Int) (a3 : Int) (a4 : ByteArray), (Lit.int .i64 a0).wf = true → a1.size ≤ 140737488351232 → (Lit.int .i64 a2).wf = true → (Lit.int .i64 a3).wf = true → a4.size ≤ 140737488351232 → ∃ k, tillerlaw21_RecvFalse.f k a0 a1 a2 a3 a4 = some true := by
  intro num t0 a at_ o0 hn _ _ _ _
  have hn := wf_i64 hn
  refine ⟨10000, ?_⟩
  unfold tillerlaw21_RecvFalse.f
  have hc := Cut14_eq t0 300
  have hs := Cut14_size t0 300
  have hc2 := Cut14_eq o0 300
  have hs2 := Cut14_size o0 300
  rw [show ((300 : Nat) : Int) = 300 from rfl] at hc hc2
  rw [hc, Option.bind_some, hc2, Option.bind_some]
  generalize (if t0.size ≤ 300 then t0 else t0.extract 0 300) = t at hs
  generalize (if o0.size ≤ 300 then o0 else o0.extract 0 300) = o at hs2
  by_cases h : a < 1 ∨ a > 4096 ∨ (t.size : Int) > 512 * a
  · obtain ⟨e, he, hne, _⟩ := Begin_bad (k := 10000) (by omega) num t h
    rw [he, Option.bind_some, if_neg hne, awake21 (by omega)]; rfl
  · obtain ⟨m, rfl⟩ := Int.eq_ofNat_of_zero_le (show 0 ≤ a by omega)
    obtain ⟨f1, f2, f3, f4, f5⟩ := cnt_facts (N := t.size) (m := m) (by omega)
    have hP := parts_len t m (cnt t.size m)
    rw [Begin_eq num (by omega) (by omega) (by omega) (by omega) (by omega), Option.bind_some, if_pos rfl]
    simp only [hP]
    rw [rBegin_eq num (by omega) (by omega), Option.bind_some, if_pos rfl, Next_eq num _ 600 (by omega) (by omega), Option.bind_some, hP, lft_none, List.take_of_length_le (by rw [List.length_range]; omega), List.length_map, List.length_range]
    have hj : joined (parts t m (cnt t.size m)) ⟨#[]⟩ = t.data.toList := by
      rw [joined_parts _ (by
        rcases Nat.lt_or_ge 1 (cnt t.size m) with h | h
        · exact .inr (Nat.le_of_lt (cnt_lt (by omega) (by omega) (by omega)))
        · exact .inr (by rw [show cnt t.size m - 1 = 0 by omega]; omega)), Nat.min_eq_right f2, ByteArray.extract_zero_size]
    have hsz : ∀ j, j < (parts t m (cnt t.size m)).length → ((parts t m (cnt t.size m)).getD j ByteArray.empty).size ≤ 4096 := by
      intro j hj
      rw [hP] at hj
      have := parts_rd t m _ j hj
      rw [rdS] at this
      rw [this]
      unfold pt
      rw [ByteArray.size_extract]
      omega
    have := false_l0 (t := t) (other := o) (num := num) hn (P := parts t m (cnt t.size m)) (C0 := List.replicate (cnt t.size m) false) (by omega) (by omega) (by omega) hsz hj (by omega) at_ (cnt t.size m) 0 10000 (by omega) (by omega) (by omega)
    rw [hP] at this
    have e1 : stP (parts t m (cnt t.size m)) 0 = List.replicate (cnt t.size m) ⟨#[]⟩ := by
      unfold stP
      rw [hP]; rfl
    have e2 : stC (cnt t.size m) 0 = List.replicate (cnt t.size m) false := rfl
    rw [e1, e2] at this
    exact this
end Go.Proofs.Ytfonfdpimbnfaaa.Pure
