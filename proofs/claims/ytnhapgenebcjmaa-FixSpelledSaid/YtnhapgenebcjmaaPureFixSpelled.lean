/- FixSpelled: the pure statement. -/
import Derived.Test.YtnhapgenebcjmaaUSpell
import Derived.Test.YtnhapgenebcjmaaUMath
import Derived.Test.YtnhapgenebcjmaaGTx4
set_option linter.unusedVariables false
set_option linter.unusedSimpArgs false
namespace Go.Proofs.Ytnhapgenebcjmaa.Pure
open Go.RowKit Go.Proofs.YtnhapgenebcjmaaW.PrintWords Go.Proofs.YtnhapgenebcjmaaW.PrintLast Go.Proofs.YtnhapgenebcjmaaW.PrintMore Go.Proofs.Ytnhapgenebcjmaa.GT Go.Proofs.Ytnhapgenebcjmaa.GText Go.Proofs.Ytnhapgenebcjmaa.GParse Go.Proofs.Ytnhapgenebcjmaa.U Go.Proofs.Ytnhapgenebcjmaa.USpell
theorem awakeT {k : Nat} (hk : 60 ≤ k) : tillerlaw01_awake.f k = some true := by
  have h : tillerlaw01_awake.f 10 = some true := by decide +kernel
  exact at_rounds (g := fun k => tillerlaw01_awake.f k) (tillerlaw01_awake.mono) (show 10 ≤ k by omega) h
/-- What fix.Text tells. -/
theorem Text_is {a N : Int} (hN : N = if a < 0 then -a else a) (h1 : -2147483648 ≤ a) (h2 : a ≤ 2147483647) (n : Nat) (hn : n ≤ 20) (hb : N / 65536 < 10 ^ n) : ∃ D E : List Int, fix_Text.f a = some (mk ((if a < 0 then [45] else []) ++ D ++ (if 0 < N % 65536 then [46] else []) ++ E)) ∧ Dig D ∧ D ≠ [] ∧ D.length ≤ max n 1 ∧ val D 0 = N / 65536 ∧ Dig E ∧ E.length ≤ 16 ∧ val E 0 * 65536 = N % 65536 * 10 ^ E.length ∧ (0 < N % 65536 → E ≠ []) ∧ (N % 65536 = 0 → E = []) := by
  have hN0 : 0 ≤ N := by rw [hN]; split <;> omega
  obtain ⟨r, e1, l1⟩ := wd_len n 30 (N / 65536) [] (by omega) (by omega) hb
  obtain ⟨r', e2, v1, g1, ne1⟩ := wd_val _ _ _ _ e1 (by omega)
  obtain ⟨E, e3, l2, v2, g2, ne2, z2⟩ := fd_val 16 30 (N % 65536) [] (by omega) (by omega) (by omega) ⟨N % 65536, by rw [show (2 : Int) ^ 16 = 65536 by decide]⟩
  rw [List.nil_append] at e2 e3
  subst e2
  refine ⟨r.reverse, E, ?_, fun c hc => g1 c (List.mem_reverse.1 hc), fun h => ne1 rfl (by simpa using h), by simpa using l1, v1, g2, l2, v2, ne2, z2⟩
  unfold fix_Text.f
  rw [if_pos ⟨h1, h2⟩, ← hN, e1, Option.bind_some, e3, Option.bind_some]
  unfold txt mk
  rw [← hN]
theorem bt_mk {L : List Int} (hL : ∀ c ∈ L, 0 ≤ c ∧ c < 256) {i : Nat} (h : i < L.length) : bt (mk L) (i : Int) = L[i] := by
  unfold bt
  have hs : i < (mk L).size := by rw [mk_size]; exact h
  rw [dif_pos (by rw [Int.toNat_natCast]; exact hs)]
  have : (mk L)[i]'hs = UInt8.ofNat (L[i]).toNat := by
    show (u8s L).toArray[i]'(by simpa [u8s] using h) = _
    simp [u8s]
  simp only [Int.toNat_natCast]
  rw [this]
  exact u8_of (hL _ (List.getElem_mem h))
theorem spell_l3 {a p e : Int} {D E : List Int} (hD : Dig D) (hE : Dig E) (hl : D.length + E.length ≤ 100) (hend : (E.length > 16 → e = 3) ∧ (E.length ≤ 16 → e = 0 ∧ p = a)) : ∀ (d i k : Nat), (D ++ 46 :: E).length - i = d → i ≤ (D ++ 46 :: E).length → d + 70 ≤ k →
    tillerlaw01_FixSpelled.l3 k a (mk (D ++ 46 :: E)) p e (if i ≤ D.length then 0 else (E.length : Int)) (i : Int) = some true := by
  have hL : ∀ c ∈ D ++ 46 :: E, 0 ≤ c ∧ c < 256 := by
    intro c hc
    simp only [List.mem_append, List.mem_cons] at hc
    rcases hc with hc | rfl | hc
    · exact hD.bound c hc
    · decide
    · exact hE.bound c hc
  have hlen : (D ++ 46 :: E).length = D.length + E.length + 1 := by simp; omega
  intro d
  induction d with
  | zero =>
    intro i k hd hi hk
    obtain ⟨k, rfl⟩ := succ_of_lt (show 0 < k by omega)
    simp only [tillerlaw01_FixSpelled.l3]
    rw [mk_size, if_neg (show ¬ (i : Int) < ((D ++ 46 :: E).length : Int) by omega), awakeT (by omega), Option.bind_some, if_pos rfl, if_neg (show ¬ i ≤ D.length by omega)]
    by_cases h : E.length > 16
    · rw [if_pos (by omega), hend.1 h, if_pos rfl]
    · rw [if_neg (by omega), if_pos (by omega), (hend.2 (by omega)).1, if_pos rfl, (hend.2 (by omega)).2, beq_self_eq_true]
  | succ d ih =>
    intro i k hd hi hk
    obtain ⟨k, rfl⟩ := succ_of_lt (show 0 < k by omega)
    have hil : i < (D ++ 46 :: E).length := by omega
    have next := ih (i + 1) k (by omega) (by omega) (by omega)
    rw [Int.natCast_add, Int.natCast_one] at next
    simp only [tillerlaw01_FixSpelled.l3]
    rw [mk_size, if_pos (by omega), if_pos (by omega), bt_mk hL hil, w64 (x := (i : Int) + 1) (by omega) (by omega), w64 (x := ((D ++ 46 :: E).length : Int) - (i : Int)) (by omega) (by omega), w64 (x := ((D ++ 46 :: E).length : Int) - (i : Int) - 1) (by omega) (by omega)]
    rcases Nat.lt_trichotomy i D.length with h | h | h
    · have hc : (D ++ 46 :: E)[i] ≠ 46 := by
        rw [List.getElem_append_left h]
        have := hD _ (List.getElem_mem h)
        omega
      rw [if_neg hc, if_pos (show i ≤ D.length by omega)]
      rw [if_pos (show i + 1 ≤ D.length by omega)] at next
      exact next
    · have hc : (D ++ 46 :: E)[i] = 46 := by
        rw [List.getElem_append_right (by omega)]
        simp [h]
      rw [if_pos hc]
      rw [if_neg (show ¬ i + 1 ≤ D.length by omega)] at next
      rw [show ((D ++ 46 :: E).length : Int) - (i : Int) - 1 = (E.length : Int) by omega]
      exact next
    · have hc : (D ++ 46 :: E)[i] ≠ 46 := by
        rw [List.getElem_append_right (by omega)]
        obtain ⟨j, hj⟩ : ∃ j, i - D.length = j + 1 := ⟨i - D.length - 1, by omega⟩
        simp only [hj, List.getElem_cons_succ]
        have := hE _ (List.getElem_mem (show j < E.length by omega))
        omega
      rw [if_neg hc, if_neg (show ¬ i ≤ D.length by omega)]
      rw [if_neg (show ¬ i + 1 ≤ D.length by omega)] at next
      exact next
theorem spell_j6 {a : Int} (ha : 0 ≤ a ∧ a ≤ 6488064) {D E : List Int} (hD : Dig D) (hE : Dig E) (d0 : D ≠ []) (d1 : D.length ≤ 6) (e0 : E ≠ []) (e1 : E.length ≤ 16) (hV : val D 0 = a / 65536) (hF : val E 0 * 65536 = a % 65536 * 10 ^ E.length) (z : Nat) (hz : z ≤ 20) {k : Nat} (hk : 200 ≤ k) :
    tillerlaw01_FixSpelled.j6 k a (mk (D ++ 46 :: E)) (mk (D ++ 46 :: E ++ List.replicate z 48)) = some true := by
  obtain ⟨k, rfl⟩ := succ_of_lt (show 0 < k by omega)
  obtain ⟨k, rfl⟩ := succ_of_lt (show 0 < k by omega)
  have hE2 : Dig (E ++ List.replicate z 48) := by
    intro c hc
    rcases List.mem_append.1 hc with hc | hc
    · exact hE c hc
    · rw [List.mem_replicate] at hc
      omega
  have hF2 : val (E ++ List.replicate z 48) 0 * 65536 = a % 65536 * 10 ^ (E ++ List.replicate z 48).length := by
    rw [val_app, val_zeros, List.length_append, List.length_replicate, Int.add_zero, Int.mul_right_comm, hF, Int.pow_add, Int.mul_assoc]
  have hsg : ∀ M : List Int, signed (mk (D ++ M)) = (mk (D ++ M), false) := by
    intro M
    cases D with
    | nil => exact absurd rfl d0
    | cons c D => exact signed_no (hD c (by simp))
  have hlen : (E ++ List.replicate z 48).length = E.length + z := by simp
  have hb : val D 0 * 65536 + a % 65536 = a := by rw [hV]; omega
  have p1 : fix_Parse.f (mk (D ++ 46 :: E)) = some (a, 0) := by
    unfold fix_Parse.f
    rw [if_pos (by rw [mk_size]; simp; omega), parsed_of (hsg _) hD hE d0 d1 e0, if_pos e1, told_mk hD hE (by omega) (by omega) (by omega) hF (by omega), if_neg (by decide), hb]
  have p3 : fix_Parse.f ((⟨#[45]⟩ : ByteArray) ++ mk (D ++ 46 :: E)) = some (-a, 0) := by
    rw [show (⟨#[45]⟩ : ByteArray) = mk [45] from rfl, mk_app, show [45] ++ (D ++ 46 :: E) = 45 :: (D ++ 46 :: E) from rfl]
    unfold fix_Parse.f
    rw [if_pos (by rw [mk_size]; simp; omega), parsed_of (signed_yes _) hD hE d0 d1 e0, if_pos e1, told_mk hD hE (by omega) (by omega) (by omega) hF (by omega), if_pos rfl, hb]
  have e2 : D ++ 46 :: E ++ List.replicate z 48 = D ++ 46 :: (E ++ List.replicate z 48) := by simp
  have p2 : fix_Parse.f (mk (D ++ 46 :: (E ++ List.replicate z 48))) = some (if (E ++ List.replicate z 48).length ≤ 16 then (a, 0) else (0, 3)) := by
    unfold fix_Parse.f
    rw [if_pos (by rw [mk_size]; simp; omega), parsed_of (hsg _) hD hE2 d0 d1 (by simp [e0])]
    by_cases h : (E ++ List.replicate z 48).length ≤ 16
    · rw [if_pos h, if_pos h, told_mk hD hE2 (by omega) (by omega) (by omega) hF2 (by omega), if_neg (by decide), hb]
    · rw [if_neg h, if_neg h]
  have p2' : ∃ p e : Int, fix_Parse.f (mk (D ++ 46 :: (E ++ List.replicate z 48))) = some (p, e) ∧ ((E ++ List.replicate z 48).length > 16 → e = 3) ∧ ((E ++ List.replicate z 48).length ≤ 16 → e = 0 ∧ p = a) := by
    by_cases h : (E ++ List.replicate z 48).length ≤ 16
    · rw [if_pos h] at p2
      exact ⟨a, 0, p2, fun hh => by omega, fun _ => ⟨rfl, rfl⟩⟩
    · rw [if_neg h] at p2
      exact ⟨0, 3, p2, fun _ => rfl, fun hh => absurd hh h⟩
  obtain ⟨p, e, p2, hend⟩ := p2'
  rw [e2]
  simp only [tillerlaw01_FixSpelled.j6]
  rw [p1, Option.bind_some, p2, Option.bind_some, mk_size, if_pos (by simp; omega), p3, Option.bind_some]
  simp only [if_true]
  rw [w32 (x := -a) (by omega) (by omega), bne_self_eq_false]
  simp only [tillerlaw01_FixSpelled.j7, Bool.false_eq_true, if_false]
  have := spell_l3 (a := a) (p := p) (e := e) hD hE2 (by omega) hend (D ++ 46 :: (E ++ List.replicate z 48)).length 0 k (by omega) (by omega) (by simp; omega)
  rw [if_pos (Nat.zero_le _)] at this
  exact this
theorem spell_l2 {a b : Int} {S : List Int} (hS : S.length ≤ 50) {K : Nat} (hj : ∀ z k, z ≤ 20 → K ≤ k → tillerlaw01_FixSpelled.j6 k a (mk S) (mk (S ++ List.replicate z 48)) = some true) : ∀ (d i k : Nat), 20 - i = d → i ≤ 20 → K + d + 1 ≤ k → tillerlaw01_FixSpelled.l2 k a b (mk S) (mk (S ++ List.replicate i 48)) (i : Int) = some true := by
  intro d
  induction d with
  | zero =>
    intro i k hd hi hk
    obtain ⟨k, rfl⟩ := succ_of_lt (show 0 < k by omega)
    simp only [tillerlaw01_FixSpelled.l2]
    rw [if_neg (show ¬ (i : Int) < 20 by omega), ite_self]
    exact hj i k hi (by omega)
  | succ d ih =>
    intro i k hd hi hk
    obtain ⟨k, rfl⟩ := succ_of_lt (show 0 < k by omega)
    have next := ih (i + 1) k (by omega) (by omega) (by omega)
    rw [Int.natCast_add, Int.natCast_one, List.replicate_succ', ← List.append_assoc, ← mk_app] at next
    simp only [tillerlaw01_FixSpelled.l2]
    by_cases hb : (i : Int) < b
    · rw [if_pos hb, if_pos (show (i : Int) < 20 by omega), w64 (x := (i : Int) + 1) (by omega) (by omega), if_pos (by rw [mk_size]; simp; omega)]
      exact next
    · rw [if_neg hb]
      exact hj i k (by omega) (by omega)
theorem spell_l1 {a b : Int} {L : List Int} (hL : ∀ c ∈ L, 0 ≤ c ∧ c < 256) (hl : L.length ≤ 50) {K : Nat} (h1 : L.any (· == 46) = true → ∀ k, K ≤ k → tillerlaw01_FixSpelled.j4 k a b (mk L) = some true) (h2 : L.any (· == 46) = false → ∀ k, K ≤ k → tillerlaw01_FixSpelled.j4 k a b (mk (L ++ [46, 48])) = some true) :
    ∀ (d i k : Nat), L.length - i = d → i ≤ L.length → K + d + 1 ≤ k → tillerlaw01_FixSpelled.l1 k a b (mk L) ((L.take i).any (· == 46)) (i : Int) = some true := by
  intro d
  induction d with
  | zero =>
    intro i k hd hi hk
    obtain ⟨k, rfl⟩ := succ_of_lt (show 0 < k by omega)
    simp only [tillerlaw01_FixSpelled.l1]
    rw [mk_size, if_neg (by omega), List.take_of_length_le (by omega)]
    cases hq : L.any (· == 46) with
    | true => rw [if_pos rfl]; exact h1 hq k (by omega)
    | false =>
      rw [if_neg (by decide), if_pos (by omega), show (⟨#[46, 48]⟩ : ByteArray) = mk [46, 48] from rfl, mk_app]
      exact h2 hq k (by omega)
  | succ d ih =>
    intro i k hd hi hk
    obtain ⟨k, rfl⟩ := succ_of_lt (show 0 < k by omega)
    have next := ih (i + 1) k (by omega) (by omega) (by omega)
    rw [Int.natCast_add, Int.natCast_one, List.take_succ_eq_append_getElem (by omega), List.any_append] at next
    simp only [List.any_cons, List.any_nil, Bool.or_false] at next
    simp only [tillerlaw01_FixSpelled.l1]
    rw [mk_size, if_pos (by omega), w64 (x := (i : Int) + 1) (by omega) (by omega), if_pos (show 0 ≤ (i : Int) by omega), bt_mk hL (by omega)]
    cases hq : (L.take i).any (· == 46) with
    | true =>
      rw [hq, Bool.true_or] at next
      rw [if_pos rfl]
      exact next
    | false =>
      rw [hq, Bool.false_or] at next
      rw [if_neg (by decide)]
      exact next
theorem spell_l0 {a x b : Int} {L : List Int} (hl : L.length ≤ 30) {K : Nat} (hj : ∀ z k, z ≤ 3 → K ≤ k → tillerlaw01_FixSpelled.j2 k a b (mk (List.replicate z 48 ++ L)) = some true) : ∀ (d i k : Nat), 3 - i = d → i ≤ 3 → K + d + 1 ≤ k → tillerlaw01_FixSpelled.l0 k a x b (mk (List.replicate i 48 ++ L)) (i : Int) = some true := by
  intro d
  induction d with
  | zero =>
    intro i k hd hi hk
    obtain ⟨k, rfl⟩ := succ_of_lt (show 0 < k by omega)
    simp only [tillerlaw01_FixSpelled.l0]
    rw [if_neg (show ¬ (i : Int) < 3 by omega), ite_self]
    exact hj i k hi (by omega)
  | succ d ih =>
    intro i k hd hi hk
    obtain ⟨k, rfl⟩ := succ_of_lt (show 0 < k by omega)
    have next := ih (i + 1) k (by omega) (by omega) (by omega)
    rw [Int.natCast_add, Int.natCast_one, List.replicate_succ] at next
    simp only [tillerlaw01_FixSpelled.l0]
    by_cases hx : (i : Int) < x
    · rw [if_pos hx, if_pos (show (i : Int) < 3 by omega), w64 (x := (i : Int) + 1) (by omega) (by omega), if_pos (by rw [mk_size]; simp; omega), show (⟨#[48]⟩ : ByteArray) = mk [48] from rfl, mk_app]
      exact next
    · rw [if_neg hx]
      exact hj i k (by omega) (by omega)
theorem FixSpelled : ∀ (a0 : Int) (a1 : Int) (a2 : Int), (Lit.int .i32 a0).wf = true → (Lit.int .i64 a1).wf = true → (Lit.int .i64 a2).wf = true → ∃ k, tillerlaw01_FixSpelled.f k a0 a1 a2 = some true := by
  intro a x b ha _ _
  have ha := wf_i32 ha
  obtain ⟨k, hk⟩ : ∃ k, k = 999 := ⟨_, rfl⟩
  refine ⟨k + 1, ?_⟩
  unfold tillerlaw01_FixSpelled.f
  by_cases hc : a < 0 ∨ a > 6488064
  · obtain ⟨D, E, e, g1, n1, l1, v1, g2, l2, v2, ne2, z2⟩ := Text_is (a := a) rfl ha.1 ha.2 5 (by omega) (by rw [show (10 : Int) ^ 5 = 100000 by decide]; split <;> omega)
    have hj : tillerlaw01_FixSpelled.j0 (k + 1) a x b (mk ((if a < 0 then [45] else []) ++ D ++ (if 0 < (if a < 0 then -a else a) % 65536 then [46] else []) ++ E)) true = some true := by
      simp only [tillerlaw01_FixSpelled.j0, if_true]
      rw [awakeT (by omega), Option.bind_some, if_pos rfl, mk_size, decide_eq_true]
      simp only [List.length_append]
      have qq : ∀ (p : Prop) [Decidable p] (c : Int), (if p then [c] else ([] : List Int)).length ≤ 1 := by
        intro p _ c
        split <;> simp
      have q1 := qq (a < 0) 45
      have q2 := qq (0 < (if a < 0 then -a else a) % 65536) 46
      omega
    rw [e, Option.bind_some]
    by_cases h : a < 0
    · rw [if_pos h]; exact hj
    · rw [if_neg h, decide_eq_true (show a > 6488064 by omega)]; exact hj
  · obtain ⟨D, E, e, g1, n1, l1, v1, g2, l2, v2, ne2, z2⟩ := Text_is (a := a) (N := a) (by rw [if_neg (by omega)]) ha.1 ha.2 2 (by omega) (by rw [show (10 : Int) ^ 2 = 100 by decide]; omega)
    rw [if_neg (show ¬ a < 0 by omega), List.nil_append] at e
    rw [e, Option.bind_some, if_neg (by omega), decide_eq_false (by omega)]
    simp only [tillerlaw01_FixSpelled.j0, Bool.false_eq_true, if_false]
    have hzD : ∀ z, Dig (List.replicate z 48 ++ D) := by
      intro z c hc
      rcases List.mem_append.1 hc with hc | hc
      · rw [List.mem_replicate] at hc
        omega
      · exact g1 c hc
    have hzV : ∀ z, val (List.replicate z 48 ++ D) 0 = a / 65536 := by
      intro z
      rw [val_app, val_zeros, Int.zero_mul, Int.zero_add, v1]
    have fin : ∀ (z : Nat) (E' : List Int), z ≤ 3 → Dig E' → E' ≠ [] → E'.length ≤ 16 → val E' 0 * 65536 = a % 65536 * 10 ^ E'.length → ∀ k, 400 ≤ k → tillerlaw01_FixSpelled.j4 k a b (mk (List.replicate z 48 ++ D ++ 46 :: E')) = some true := by
      intro z E' hz hE' he0 he1 hF k hk
      obtain ⟨k, rfl⟩ := succ_of_lt (show 0 < k by omega)
      have := spell_l2 (a := a) (b := b) (S := List.replicate z 48 ++ D ++ 46 :: E') (by simp; omega) (K := 200) (fun y k hy hk => spell_j6 (by omega) (hzD z) hE' (by simp [n1]) (by simp; omega) he0 he1 (hzV z) hF y hy hk) 20 0 k (by omega) (by omega) (by omega)
      simp only [tillerlaw01_FixSpelled.j4]
      simpa using this
    have := spell_l0 (a := a) (x := x) (b := b) (L := D ++ (if 0 < a % 65536 then [46] else []) ++ E) (by
      simp only [List.length_append]
      have q2 : (if 0 < a % 65536 then [46] else ([] : List Int)).length ≤ 1 := by split <;> simp
      omega) (K := 500) (fun z k hz hk => by
        obtain ⟨k, rfl⟩ := succ_of_lt (show 0 < k by omega)
        simp only [tillerlaw01_FixSpelled.j2]
        by_cases hF : 0 < a % 65536
        · rw [if_pos hF]
          have e1 : List.replicate z 48 ++ (D ++ [46] ++ E) = List.replicate z 48 ++ D ++ 46 :: E := by simp
          rw [e1]
          refine spell_l1 (a := a) (b := b) (L := List.replicate z 48 ++ D ++ 46 :: E) ?_ (by simp; omega) (K := 400) (fun _ k hk => fin z E hz g2 (ne2 hF) l2 v2 k hk) (fun h => by simp at h) (List.replicate z 48 ++ D ++ 46 :: E).length 0 k (by omega) (by omega) (by simp; omega)
          intro c hc
          rcases List.mem_append.1 hc with hc | hc
          · exact (hzD z).bound c hc
          · rcases List.mem_cons.1 hc with rfl | hc
            · decide
            · exact g2.bound c hc
        · have hz0 : a % 65536 = 0 := by omega
          rw [if_neg hF, z2 hz0, List.append_nil, List.append_nil]
          refine spell_l1 (a := a) (b := b) (L := List.replicate z 48 ++ D) (hzD z).bound (by simp; omega) (K := 400) (fun h => ?_) (fun _ k hk => ?_) (List.replicate z 48 ++ D).length 0 k (by omega) (by omega) (by simp; omega)
          · exfalso
            obtain ⟨c, hc, h46⟩ := List.any_eq_true.1 h
            have := hzD z c hc
            simp at h46
            omega
          · exact fin z [48] hz (fun c hc => by simp at hc; omega) (by simp) (by simp) (by rw [hz0]; simp [val]) k hk) 3 0 k (by omega) (by omega) (by omega)
    simpa using this
end Go.Proofs.Ytnhapgenebcjmaa.Pure
