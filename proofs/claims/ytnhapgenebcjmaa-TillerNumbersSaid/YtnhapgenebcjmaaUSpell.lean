/- Texts of fixed numbers as lists of numbers: what fix.Text tells and what fix.Parse reads. -/
import Derived.Test.YtnhapgenebcjmaaGParse
import Derived.Test.YtnhapgenebcjmaaGText
set_option linter.unusedVariables false
set_option linter.unusedSimpArgs false
namespace Go.Proofs.Ytnhapgenebcjmaa.USpell
open Go.Proofs Go.RowKit Go.Proofs.YtnhapgenebcjmaaW.PrintWords Go.Proofs.Ytnhapgenebcjmaa.GText Go.Proofs.Ytnhapgenebcjmaa.GParse Go.Proofs.Ytnhapgenebcjmaa.GCut
open Go.Proofs.Ytnhapgenebcjmaa.GDigits (bts bts_len dgt)
def Dig (l : List Int) : Prop := ∀ c ∈ l, 48 ≤ c ∧ c ≤ 57
/-- A text of these bytes. -/
def mk (l : List Int) : ByteArray := ⟨(u8s l).toArray⟩
theorem mk_size (l : List Int) : (mk l).size = l.length := by
  show (u8s l).toArray.size = _
  simp [u8s]
theorem u8s_app (l m : List Int) : u8s (l ++ m) = u8s l ++ u8s m := by simp [u8s]
theorem mk_app (l m : List Int) : mk l ++ mk m = mk (l ++ m) := by
  apply ByteArray.ext
  rw [ByteArray.data_append]
  simp [mk, u8s_app]
theorem u8_of {c : Int} (h : 0 ≤ c ∧ c < 256) : ((UInt8.ofNat c.toNat).toNat : Int) = c := by
  rw [UInt8.toNat_ofNat', Nat.mod_eq_of_lt (by omega)]
  omega
theorem bts_mk {l : List Int} (h : ∀ c ∈ l, 0 ≤ c ∧ c < 256) : bts (mk l) = l := by
  unfold bts mk u8s
  rw [List.toList_toArray, List.map_map]
  have : l.map ((fun b : UInt8 => (b.toNat : Int)) ∘ fun c => UInt8.ofNat c.toNat) = l.map id := List.map_congr_left fun c hc => u8_of (h c hc)
  rw [this, List.map_id]
theorem val_lin (l : List Int) : ∀ a, val l a = a * 10 ^ l.length + val l 0 := by
  induction l with
  | nil => intro a; simp [val]
  | cons c l ih =>
    intro a
    have e : ∀ a, val (c :: l) a = val l (10 * a + (c - 48)) := fun a => rfl
    rw [e, e, ih (10 * a + (c - 48)), ih (10 * 0 + (c - 48)), List.length_cons, Int.pow_succ]
    generalize (10 : Int) ^ l.length = p
    rw [Int.add_mul, Int.mul_comm 10 a, Int.mul_assoc, Int.mul_comm 10 p]
    rw [Int.mul_zero, Int.zero_add]
    omega
theorem val_app (l m : List Int) : val (l ++ m) 0 = val l 0 * 10 ^ m.length + val m 0 := by
  have : val (l ++ m) 0 = val m (val l 0) := by simp [val, List.foldl_append]
  rw [this, val_lin]
theorem val_zeros (n : Nat) : val (List.replicate n 48) 0 = 0 := by
  induction n with
  | zero => rfl
  | succ n ih =>
    rw [List.replicate_succ', val_app, ih]
    simp [val]
/-- The digits ahead of the point. -/
theorem wd_val : ∀ (k : Nat) (x : Int) (l r : List Int), wd k x l = some r → 0 ≤ x → ∃ r', r = l ++ r' ∧ val r'.reverse 0 = x ∧ Dig r' ∧ (l = [] → r' ≠ []) := by
  intro k
  induction k with
  | zero => intro x l r h; simp [wd] at h
  | succ k ih =>
    intro x l r h hx
    simp only [wd] at h
    split at h
    · obtain ⟨r1, h1, h2, h3, h4⟩ := ih _ _ _ h (by omega)
      refine ⟨(48 + x % 10) :: r1, by rw [h1]; simp, ?_, ?_, fun _ => by simp⟩
      · rw [List.reverse_cons, val_app, h2]
        simp [val]
        omega
      · intro c hc
        rcases List.mem_cons.1 hc with rfl | hc
        · omega
        · exact h3 c hc
    · rename_i hn
      cases h
      refine ⟨[], by simp, ?_, fun c hc => by simp at hc, fun h0 => by subst h0; simp at hn⟩
      simp [val]
      omega
/-- How many they are. -/
theorem wd_len : ∀ (n k : Nat) (x : Int) (l : List Int), n + 2 ≤ k → 0 ≤ x → x < 10 ^ n → ∃ r, wd k x l = some r ∧ r.length ≤ max (l.length + n) 1 := by
  intro n
  induction n with
  | zero =>
    intro k x l hk h0 h1
    obtain ⟨k, rfl⟩ : ∃ m, k = m + 1 := ⟨k - 1, by omega⟩
    obtain ⟨k, rfl⟩ : ∃ m, k = m + 1 := ⟨k - 1, by omega⟩
    have hx : x = 0 := by simp at h1; omega
    subst hx
    by_cases hl : l.length = 0
    · refine ⟨l ++ [48 + 0 % 10], ?_, by simp [hl]⟩
      simp [wd, hl]
    · refine ⟨l, ?_, by omega⟩
      simp only [wd]
      rw [if_neg (by omega)]
  | succ n ih =>
    intro k x l hk h0 h1
    obtain ⟨k, rfl⟩ : ∃ m, k = m + 1 := ⟨k - 1, by omega⟩
    have hp : (10 : Int) ^ (n + 1) = 10 ^ n * 10 := Int.pow_succ ..
    simp only [wd]
    by_cases hc : x > 0 ∨ l.length = 0
    · rw [if_pos hc]
      obtain ⟨r, h2, h3⟩ := ih k (x / 10) (l ++ [48 + x % 10]) (by omega) (by omega) (by omega)
      refine ⟨r, h2, ?_⟩
      rw [List.length_append, List.length_singleton] at h3
      omega
    · rw [if_neg hc]
      exact ⟨l, rfl, by omega⟩
/-- The digits behind it: exact. -/
theorem fd_val : ∀ (j k : Nat) (n : Int) (l : List Int), j + 1 ≤ k → 0 ≤ n → n < 65536 → (∃ q, n * 2 ^ j = q * 65536) → ∃ r', fd k n l = some (l ++ r') ∧ r'.length ≤ j ∧ val r' 0 * 65536 = n * 10 ^ r'.length ∧ Dig r' ∧ (0 < n → r' ≠ []) ∧ (n = 0 → r' = []) := by
  intro j
  induction j with
  | zero =>
    intro k n l hk h0 h1 hq
    obtain ⟨k, rfl⟩ : ∃ m, k = m + 1 := ⟨k - 1, by omega⟩
    obtain ⟨q, hq⟩ := hq
    have hn : n = 0 := by simp at hq; omega
    subst hn
    exact ⟨[], by simp [fd], by simp, by simp [val], fun c hc => by simp at hc, fun h => by omega, fun _ => rfl⟩
  | succ j ih =>
    intro k n l hk h0 h1 hq
    obtain ⟨k, rfl⟩ : ∃ m, k = m + 1 := ⟨k - 1, by omega⟩
    simp only [fd]
    by_cases hn : n > 0
    · rw [if_pos hn]
      obtain ⟨q, hq⟩ := hq
      have hd : n * 10 = n * 10 / 65536 * 65536 + n * 10 % 65536 := by omega
      have hex : ∃ q, n * 10 % 65536 * 2 ^ j = q * 65536 := by
        refine ⟨5 * q - n * 10 / 65536 * 2 ^ j, ?_⟩
        have hp : (2 : Int) ^ (j + 1) = 2 ^ j * 2 := Int.pow_succ ..
        rw [hp] at hq
        have e1 : n * 10 % 65536 = n * 10 - n * 10 / 65536 * 65536 := by omega
        rw [e1]
        generalize (2 : Int) ^ j = p at *
        generalize n * 10 / 65536 = d at *
        have e2 : n * 10 * p = 5 * (n * (p * 2)) := by
          rw [Int.mul_comm p 2, ← Int.mul_assoc n 2 p, ← Int.mul_assoc 5, ← Int.mul_assoc 5 n 2, Int.mul_comm 5 n, Int.mul_assoc n 5 2]
          rfl
        rw [Int.sub_mul, e2, hq, Int.sub_mul, Int.mul_right_comm d 65536 p]
        generalize d * p = X
        omega
      obtain ⟨r1, h2, h3, h4, h5, _, _⟩ := ih k (n * 10 % 65536) (l ++ [48 + n * 10 / 65536]) (by omega) (by omega) (by omega) hex
      refine ⟨(48 + n * 10 / 65536) :: r1, by rw [h2]; simp, by simp; omega, ?_, ?_, fun _ => by simp, fun h => by omega⟩
      · have e : val ((48 + n * 10 / 65536) :: r1) 0 = n * 10 / 65536 * 10 ^ r1.length + val r1 0 := by
          have : val ((48 + n * 10 / 65536) :: r1) 0 = val r1 (10 * 0 + (48 + n * 10 / 65536 - 48)) := rfl
          rw [this, val_lin]
          congr 2
          omega
        rw [e, List.length_cons, Int.pow_succ, Int.add_mul, h4]
        generalize (10 : Int) ^ r1.length = p at *
        generalize hD : n * 10 / 65536 = d at *
        generalize hR : n * 10 % 65536 = m at *
        have e1 : n * (p * 10) = (n * 10) * p := by rw [Int.mul_comm p 10, Int.mul_assoc]
        rw [e1, hd, Int.add_mul]
        rw [Int.mul_assoc, Int.mul_comm p 65536, ← Int.mul_assoc]
      · intro c hc
        rcases List.mem_cons.1 hc with rfl | hc
        · omega
        · exact h5 c hc
    · rw [if_neg hn]
      exact ⟨[], by simp, by simp, by simp [val]; omega, fun c hc => by simp at hc, fun h => by omega, fun _ => rfl⟩
/-- The bits of an exact part. -/
theorem bits16_eq : ∀ (k : Nat) (num n den : Int), 0 ≤ num → num < den → bits16 k num n den = (num * 2 ^ k % den, n * 2 ^ k + num * 2 ^ k / den) := by
  intro k
  induction k with
  | zero =>
    intro num n den h0 h1
    simp [bits16, Int.emod_eq_of_lt h0 h1, Int.ediv_eq_zero_of_lt h0 h1]
  | succ k ih =>
    intro num n den h0 h1
    simp only [bits16]
    have hp : (2 : Int) ^ (k + 1) = 2 * 2 ^ k := by rw [Int.pow_succ, Int.mul_comm]
    have e0 : num * 2 ^ (k + 1) = num * 2 * 2 ^ k := by rw [hp, Int.mul_assoc]
    have e3 : n * 2 ^ (k + 1) = n * 2 * 2 ^ k := by rw [hp, Int.mul_assoc]
    rw [e0, e3]
    split
    · rw [ih _ _ _ (by omega) (by omega)]
      have e1 : num * 2 * 2 ^ k = (num * 2 - den) * 2 ^ k + 2 ^ k * den := by
        rw [Int.sub_mul, Int.mul_comm den]; omega
      rw [e1, Int.add_mul_emod_self_right, Int.add_mul_ediv_right _ _ (show den ≠ 0 by omega), Int.add_mul, Int.one_mul]
      congr 1
      omega
    · rw [ih _ _ _ (by omega) (by omega)]
theorem Dig.bound {l : List Int} (h : Dig l) : ∀ c ∈ l, 0 ≤ c ∧ c < 256 := fun c hc => by have := h c hc; omega
theorem isDig_mk {l : List Int} (h : Dig l) (n : Nat) : isDig (mk l) n = (decide (l.length ≠ 0) && decide ((l.length : Int) ≤ n)) := by
  unfold isDig
  rw [bts_mk h.bound, mk_size, show l.all dgt = true from List.all_eq_true.2 fun c hc => dgt_iff.2 (h c hc), Bool.true_and]
theorem told_mk {D E : List Int} {F : Int} (hD : Dig D) (hE : Dig E) (hV : val D 0 ≤ 32768) (h0 : 0 ≤ F) (h1 : F < 65536) (hF : val E 0 * 65536 = F * 10 ^ E.length) (hb : 0 ≤ val D 0 * 65536 + F ∧ val D 0 * 65536 + F ≤ 2147483647) (minus : Bool) : told (mk D) (mk E) minus = (if minus then -(val D 0 * 65536 + F) else val D 0 * 65536 + F, 0) := by
  have hp := pow10_pos E.length
  have hx : 0 ≤ val E 0 ∧ val E 0 < 10 ^ E.length := by
    generalize (10 : Int) ^ E.length = p at *
    generalize val E 0 = x at *
    have e1 : 0 ≤ F * p := Int.mul_nonneg h0 (by omega)
    have e2 : F * p < 65536 * p := Int.mul_lt_mul_of_pos_right h1 (by omega)
    omega
  unfold told
  rw [bts_mk hD.bound, bts_mk hE.bound, mk_size, bits16_eq 16 _ _ _ hx.1 hx.2]
  rw [if_neg (by omega)]
  rw [show (2 : Int) ^ 16 = 65536 by decide, hF, Int.mul_emod_left, Int.mul_ediv_cancel _ (show (10 : Int) ^ E.length ≠ 0 by omega)]
  simp only [Int.zero_mul, Int.zero_add]
  rw [if_neg (show ¬ (0 : Int) ≥ 10 ^ E.length by omega)]
  cases minus
  · rw [if_neg (show ¬ (false = true) by decide), if_neg (by omega), Int.add_comm]
    rfl
  · rw [if_pos rfl, if_neg (by omega), Int.add_comm]
    rfl
/-- The first point. -/
theorem index_dig : ∀ (D : List Int) (E : List Int), Dig D → Lib.indexByte (u8s (D ++ 46 :: E)) 46 = (D.length : Int)
  | [], E, _ => by simp [u8s, Lib.indexByte]
  | c :: D, E, h => by
    have hc := h c (by simp)
    have ih := index_dig D E fun c hc => h c (by simp [hc])
    have hne : (UInt8.ofNat c.toNat == 46) = false := by
      rw [beq_eq_false_iff_ne]
      intro e
      have := congrArg (fun u : UInt8 => (u.toNat : Int)) e
      rw [u8_of (c := c) (by omega)] at this
      simp at this
      omega
    have e : u8s (c :: D ++ 46 :: E) = UInt8.ofNat c.toNat :: u8s (D ++ 46 :: E) := rfl
    rw [e, Lib.indexByte, ih]
    simp at hne
    simp [hne]
theorem cutAt_mk {D E : List Int} (h : Dig D) : cutAt (mk (D ++ 46 :: E)) = (mk D, mk E, true) := by
  have hi := index_dig D E h
  unfold cutAt
  have e : (mk (D ++ 46 :: E)).data.toList = u8s (D ++ 46 :: E) := by simp [mk]
  rw [e, hi, if_pos (by omega), Int.toNat_natCast]
  have h1 : (mk (D ++ 46 :: E)).extract 0 D.length = mk D := by
    apply ByteArray.ext
    rw [ByteArray.data_extract]
    simp [mk, u8s]
  have h2 : (mk (D ++ 46 :: E)).extract (D.length + 1) (mk (D ++ 46 :: E)).size = mk E := by
    rw [mk_size]
    apply ByteArray.ext
    rw [ByteArray.data_extract]
    simp [mk, u8s]
    rw [show D.length + (E.length + 1) - (D.length + 1) = E.length by omega, List.drop_append, List.drop_eq_nil_of_le (by simp), List.length_map, show D.length + 1 - D.length = 1 by omega, List.nil_append, List.drop_succ_cons, List.drop_zero]
    exact List.take_of_length_le (by simp)
  rw [h1, h2]
theorem signed_no {c : Int} {l : List Int} (h : 48 ≤ c ∧ c ≤ 57) : signed (mk (c :: l)) = (mk (c :: l), false) := by
  have hne : (UInt8.ofNat c.toNat == 45) = false := by
    rw [beq_eq_false_iff_ne]
    intro e
    have := congrArg (fun u : UInt8 => (u.toNat : Int)) e
    rw [u8_of (c := c) (by omega)] at this
    simp at this
    omega
  have hne2 : ((45 : UInt8) == UInt8.ofNat c.toNat) = false := by
    rw [beq_eq_false_iff_ne] at hne ⊢
    exact fun e => hne e.symm
  have hp : Lib.hasPrefix (mk (c :: l)).data.toList [45] = false := by
    simp only [mk, u8s, List.map_cons, Lib.hasPrefix, List.isPrefixOf]
    rw [hne2]
    rfl
  unfold signed Lib.trimPrefix
  rw [hp, if_neg (by decide)]
theorem signed_yes (l : List Int) : signed (mk (45 :: l)) = (mk l, true) := by
  have hp : Lib.hasPrefix (mk (45 :: l)).data.toList [45] = true := by
    simp [mk, u8s, Lib.hasPrefix, List.isPrefixOf]
  unfold signed Lib.trimPrefix
  rw [hp, if_pos rfl]
  simp [mk, u8s]
theorem parsed_of {s : ByteArray} {D E : List Int} {m : Bool} (hs : signed s = (mk (D ++ 46 :: E), m)) (hD : Dig D) (hE : Dig E) (d0 : D ≠ []) (d1 : D.length ≤ 6) (e0 : E ≠ []) : parsed s = if E.length ≤ 16 then told (mk D) (mk E) m else (0, 3) := by
  have hd : D.length ≠ 0 := fun h => d0 (List.eq_nil_of_length_eq_zero h)
  have he : E.length ≠ 0 := fun h => e0 (List.eq_nil_of_length_eq_zero h)
  unfold parsed
  rw [hs, cutAt_mk hD]
  simp only []
  have i1 : isDig (mk D) 6 = true := by
    have := isDig_mk hD 6
    rw [decide_eq_true hd, decide_eq_true (by omega)] at this
    exact this
  rw [i1]
  by_cases h : E.length ≤ 16
  · have i2 : isDig (mk E) 16 = true := by
      have := isDig_mk hE 16
      rw [decide_eq_true he, decide_eq_true (by omega)] at this
      exact this
    rw [if_pos h, i2, if_pos ⟨rfl, fun _ => rfl⟩]
  · have i2 : isDig (mk E) 16 = false := by
      have := isDig_mk hE 16
      rw [decide_eq_true he, decide_eq_false (by omega)] at this
      exact this
    rw [if_neg h, i2, if_neg (fun hh => by have := hh.2 trivial; cases this)]
end Go.Proofs.Ytnhapgenebcjmaa.USpell
