/- Texts taken apart: fix.Parse's way and the reference's way are one. -/
import Derived.Test.YtnhapgenebcjmaaUSpell
import Derived.Test.YtnhapgenebcjmaaGForm
set_option linter.unusedVariables false
set_option linter.unusedSimpArgs false
namespace Go.Proofs.Ytnhapgenebcjmaa.UTexts
open Go.Proofs Go.RowKit Go.Proofs.YtnhapgenebcjmaaW.PrintWords Go.Proofs.Ytnhapgenebcjmaa.GText Go.Proofs.Ytnhapgenebcjmaa.GParse Go.Proofs.Ytnhapgenebcjmaa.GCut Go.Proofs.Ytnhapgenebcjmaa.GForm Go.Proofs.Ytnhapgenebcjmaa.USpell
open Go.Proofs.Ytnhapgenebcjmaa.GDigits (bts bts_len dgt)
theorem bts_bound (s : ByteArray) : ∀ c ∈ bts s, 0 ≤ c ∧ c < 256 := by
  intro c hc
  obtain ⟨b, _, rfl⟩ := List.mem_map.1 hc
  have := b.toNat_lt
  omega
theorem mk_bts (s : ByteArray) : mk (bts s) = s := by
  apply ByteArray.ext
  show (u8s (bts s)).toArray = s.data
  have : u8s (bts s) = s.data.toList := by
    unfold u8s bts
    rw [List.map_map]
    conv => rhs; rw [← List.map_id s.data.toList]
    refine List.map_congr_left fun b _ => ?_
    simp
  rw [this]
theorem index_pidx : ∀ l : List UInt8, Lib.indexByte l 46 = if pidx (l.map fun b => (b.toNat : Int)) < l.length then (pidx (l.map fun b => (b.toNat : Int)) : Int) else -1
  | [] => by simp [Lib.indexByte, pidx]
  | b :: l => by
    have ih := index_pidx l
    have hb : (b == 46) = decide ((b.toNat : Int) = 46) := by
      rw [Bool.eq_iff_iff, beq_iff_eq, decide_eq_true_eq]
      constructor
      · rintro rfl; rfl
      · intro h
        apply UInt8.toNat_inj.1
        have : (46 : UInt8).toNat = 46 := rfl
        omega
    simp only [Lib.indexByte, List.map_cons, pidx, List.length_cons]
    rw [hb]
    by_cases h : (b.toNat : Int) = 46
    · rw [decide_eq_true h, if_pos rfl, if_pos h, if_pos (by omega)]; rfl
    · rw [decide_eq_false h, if_neg (by decide), if_neg h, ih]
      generalize pidx (l.map fun b => (b.toNat : Int)) = n
      by_cases h2 : n < l.length
      · rw [if_pos h2, if_pos (show n + 1 < l.length + 1 by omega), if_neg (show ¬ ((n : Int) == -1) = true by rw [beq_iff_eq]; omega)]
        omega
      · rw [if_neg h2, if_neg (show ¬ n + 1 < l.length + 1 by omega), if_pos (show ((-1 : Int) == -1) = true by decide)]
theorem cutAt_pidx (T : ByteArray) : cutAt T = if pidx (bts T) < T.size then (T.extract 0 (pidx (bts T)), T.extract (pidx (bts T) + 1) T.size, true) else (T, ⟨#[]⟩, false) := by
  have h : Lib.indexByte T.data.toList 46 = if pidx (bts T) < T.size then (pidx (bts T) : Int) else -1 := by
    have := index_pidx T.data.toList
    rw [Array.length_toList] at this
    exact this
  unfold cutAt
  rw [h]
  by_cases h2 : pidx (bts T) < T.size
  · rw [if_pos h2, if_pos h2, if_pos (by omega), Int.toNat_natCast]
  · rw [if_neg h2, if_neg h2, if_neg (by decide)]
theorem signed_is (s : ByteArray) : signed s = if (bts s).head? = some 45 then (s.extract 1 s.size, true) else (s, false) := by
  cases h : bts s with
  | nil =>
    have e : s = mk [] := by rw [← h, mk_bts]
    rw [e]; rfl
  | cons c L =>
    have hL := bts_bound s
    rw [h] at hL
    have e : s = mk (c :: L) := by rw [← h, mk_bts]
    rw [e, List.head?_cons]
    by_cases h1 : c = 45
    · subst h1
      rw [if_pos rfl, signed_yes]
      congr 1
      apply ByteArray.ext
      rw [ByteArray.data_extract]
      simp [mk, u8s, ByteArray.size]
      exact (List.take_of_length_le (by simp)).symm
    · rw [if_neg (by simpa using h1)]
      have hne2 : ((45 : UInt8) == UInt8.ofNat c.toNat) = false := by
        rw [beq_eq_false_iff_ne]
        intro e
        have := congrArg (fun u : UInt8 => (u.toNat : Int)) e
        rw [u8_of (c := c) (hL c (by simp))] at this
        simp at this
        omega
      have hp : Lib.hasPrefix (mk (c :: L)).data.toList [45] = false := by
        simp only [mk, u8s, List.map_cons, Lib.hasPrefix, List.isPrefixOf]
        rw [hne2]
        rfl
      unfold signed Lib.trimPrefix
      rw [hp, if_neg (by decide)]
theorem bts_app (s t : ByteArray) : bts (s ++ t) = bts s ++ bts t := by
  unfold bts
  rw [ByteArray.data_append]
  simp
/-- Is it a number's text? -/
def good (T : ByteArray) : Prop := isDig (cutAt T).1 6 = true ∧ ((cutAt T).2.2 = true → isDig (cutAt T).2.1 16 = true)
theorem isDig_iff (s : ByteArray) (n : Nat) : isDig s n = true ↔ (bts s).all dgt = true ∧ 1 ≤ s.size ∧ s.size ≤ n := by
  unfold isDig
  rw [Bool.and_eq_true, Bool.and_eq_true, decide_eq_true_eq, decide_eq_true_eq]
  constructor <;> (rintro ⟨h1, h2, h3⟩; exact ⟨h1, by omega, by omega⟩)
theorem formed_is (T : ByteArray) (m : Bool) : (good T ∧ formed T m = (m, (cutAt T).1, (cutAt T).2.1, true)) ∨ (¬ good T ∧ (formed T m).2.2.2 = false) := by
  unfold good formed
  rw [cutAt_pidx]
  by_cases h : pidx (bts T) < T.size
  · simp only [if_pos h]
    by_cases h2 : (T.extract (pidx (bts T) + 1) T.size).size < 1 ∨ (T.extract (pidx (bts T) + 1) T.size).size > 16
    · right
      rw [if_pos ⟨h, h2⟩]
      refine ⟨fun hg => ?_, rfl⟩
      have := (isDig_iff _ 16).1 (hg.2 trivial)
      omega
    · rw [if_neg (fun hh => h2 hh.2)]
      generalize T.extract 0 (pidx (bts T)) = W
      generalize T.extract (pidx (bts T) + 1) T.size = P at *
      rw [bts_app, List.all_append]
      have i1 := isDig_iff W 6
      have i2 := isDig_iff P 16
      by_cases h3 : ((bts W).all dgt && (bts P).all dgt) = true
      · rw [if_pos h3]
        rw [Bool.and_eq_true] at h3
        by_cases h4 : 1 ≤ W.size ∧ W.size ≤ 6
        · left
          refine ⟨⟨i1.2 ⟨h3.1, h4.1, h4.2⟩, fun _ => i2.2 ⟨h3.2, by omega, by omega⟩⟩, ?_⟩
          rw [decide_eq_true h4.1, decide_eq_true h4.2]; rfl
        · right
          refine ⟨fun hg => h4 (i1.1 hg.1).2, ?_⟩
          show (decide (1 ≤ W.size) && decide (W.size ≤ 6)) = false
          rw [Bool.and_eq_false_iff, decide_eq_false_iff_not, decide_eq_false_iff_not]
          omega
      · right
        rw [if_neg h3]
        refine ⟨fun hg => h3 ?_, rfl⟩
        rw [Bool.and_eq_true]
        exact ⟨(i1.1 hg.1).1, (i2.1 (hg.2 trivial)).1⟩
  · simp only [if_neg h]
    have hp : pidx (bts T) = T.size := by
      have := pidx_le (bts T)
      rw [bts_len] at this
      omega
    have he : T.extract 0 (pidx (bts T)) = T := by rw [hp]; exact ByteArray.extract_zero_size
    rw [he, if_neg (fun hh => h hh.1)]
    have hq : T ++ (⟨#[]⟩ : ByteArray) = T := by
      apply ByteArray.ext
      rw [ByteArray.data_append]
      simp
    rw [hq]
    have i1 := isDig_iff T 6
    by_cases h3 : (bts T).all dgt = true
    · rw [if_pos h3]
      by_cases h4 : 1 ≤ T.size ∧ T.size ≤ 6
      · left
        refine ⟨⟨i1.2 ⟨h3, h4.1, h4.2⟩, fun hf => by cases hf⟩, ?_⟩
        rw [decide_eq_true h4.1, decide_eq_true h4.2]; rfl
      · right
        refine ⟨fun hg => h4 (i1.1 hg.1).2, ?_⟩
        show (decide (1 ≤ T.size) && decide (T.size ≤ 6)) = false
        rw [Bool.and_eq_false_iff, decide_eq_false_iff_not, decide_eq_false_iff_not]
        omega
    · right
      rw [if_neg h3]
      exact ⟨fun hg => h3 (i1.1 hg.1).1, rfl⟩
/-- Both ways of taking a text apart. -/
theorem form_is (s : ByteArray) : (∃ m W P, form s = (m, W, P, true) ∧ parsed s = told W P m ∧ Dig (bts W) ∧ W.size ≤ 6 ∧ Dig (bts P) ∧ P.size ≤ 16) ∨ ((form s).2.2.2 = false ∧ parsed s = (0, 3)) := by
  have key : ∀ T m, signed s = (T, m) → form s = formed T m → (∃ m W P, form s = (m, W, P, true) ∧ parsed s = told W P m ∧ Dig (bts W) ∧ W.size ≤ 6 ∧ Dig (bts P) ∧ P.size ≤ 16) ∨ ((form s).2.2.2 = false ∧ parsed s = (0, 3)) := by
    intro T m h1 h2
    unfold parsed
    rw [h1, h2]
    rcases formed_is T m with ⟨hg, hf⟩ | ⟨hg, hf⟩
    · left
      refine ⟨m, _, _, hf, if_pos hg, ?_, ?_, ?_, ?_⟩
      · exact (isDig_of (n := 6) hg.1).1
      · exact (isDig_of (n := 6) hg.1).2.1
      · cases hc : (cutAt T).2.2 with
        | true => exact (isDig_of (n := 16) (hg.2 hc)).1
        | false => rw [cutAt_none hc]; intro c hc; cases hc
      · cases hc : (cutAt T).2.2 with
        | true => exact (isDig_of (n := 16) (hg.2 hc)).2.1
        | false => rw [cutAt_none hc]; exact Nat.zero_le _
    · right
      exact ⟨hf, if_neg hg⟩
  have hs := signed_is s
  by_cases h : (bts s).head? = some 45
  · rw [if_pos h] at hs
    refine key _ _ hs ?_
    unfold form
    rw [if_pos h]
  · rw [if_neg h] at hs
    refine key _ _ hs ?_
    unfold form
    rw [if_neg h]
theorem val_bound : ∀ {l : List Int}, Dig l → 0 ≤ val l 0 ∧ val l 0 < 10 ^ l.length := by
  intro l
  induction l with
  | nil => intro _; exact ⟨Int.le_refl _, by decide⟩
  | cons c l ih =>
    intro h
    have ih := ih fun c hc => h c (by simp [hc])
    have hc := h c (by simp)
    have e : val (c :: l) 0 = (c - 48) * 10 ^ l.length + val l 0 := by
      have : val (c :: l) 0 = val l (10 * 0 + (c - 48)) := rfl
      rw [this, val_lin]
      congr 2
      omega
    rw [e, List.length_cons, Int.pow_succ]
    have hp := pow10_pos l.length
    generalize (10 : Int) ^ l.length = p at *
    generalize val l 0 = v at *
    have h1 : 0 ≤ (c - 48) * p := Int.mul_nonneg (by omega) (by omega)
    have h2 : (c - 48) * p ≤ 9 * p := Int.mul_le_mul_of_nonneg_right (by omega) (by omega)
    omega
/-- The digits that a division from the right gives, as a number. -/
def outv (o : List Int) : Int := val (o.reverse.map (· + 48)) 0
theorem outv_snoc (o : List Int) (d : Int) : outv (o ++ [d]) = d * 10 ^ o.length + outv o := by
  unfold outv
  rw [List.reverse_append, List.map_append, val_app]
  simp [val]
theorem outv_bound {o : List Int} (h : ∀ d ∈ o, 0 ≤ d ∧ d ≤ 9) : 0 ≤ outv o ∧ outv o < 10 ^ o.length := by
  have := val_bound (l := o.reverse.map (· + 48)) (by
    intro c hc
    obtain ⟨d, hd, rfl⟩ := List.mem_map.1 hc
    have := h d (List.mem_reverse.1 hd)
    omega)
  simpa [outv] using this
/-- Half or more? The first digit tells. -/
theorem outv_half {o : List Int} {d : Int} (h : ∀ d ∈ o, 0 ≤ d ∧ d ≤ 9) (hd : 0 ≤ d ∧ d ≤ 9) : (outv (o ++ [d]) * 2 ≥ 10 ^ (o ++ [d]).length) ↔ d ≥ 5 := by
  have hb := outv_bound h
  rw [outv_snoc, List.length_append, List.length_singleton, Int.pow_succ]
  have hp := pow10_pos o.length
  generalize (10 : Int) ^ o.length = p at *
  generalize outv o = v at *
  constructor
  · intro h1
    by_cases h5 : d ≥ 5
    · exact h5
    · exfalso
      have : d * p ≤ 4 * p := Int.mul_le_mul_of_nonneg_right (by omega) (by omega)
      omega
  · intro h5
    have : 5 * p ≤ d * p := Int.mul_le_mul_of_nonneg_right h5 (by omega)
    omega
/-- What is told, by quotient and rest. -/
theorem told_is {W P : ByteArray} {m : Bool} (hW : Dig (bts W)) (hP : Dig (bts P)) {c R : Int} (hR : 0 ≤ R ∧ R < 10 ^ P.size) (hc : val (bts P) 0 * 65536 = c * 10 ^ P.size + R) (up : Bool) (hup : up = true ↔ R * 2 ≥ 10 ^ P.size) :
    told W P m = if val (bts W) 0 * 65536 + c + (if up then 1 else 0) > 2147483647 then (0, 2) else ((if m then -(val (bts W) 0 * 65536 + c + (if up then 1 else 0)) else val (bts W) 0 * 65536 + c + (if up then 1 else 0)), 0) := by
  have hw := (val_bound hW).1
  have hp := val_bound hP
  rw [bts_len] at hp
  have hpp := pow10_pos P.size
  have c0 : 0 ≤ c := by
    by_cases h : 0 ≤ c
    · exact h
    · exfalso
      have : c * 10 ^ P.size ≤ -1 * 10 ^ P.size := Int.mul_le_mul_of_nonneg_right (by omega) (by omega)
      omega
  unfold told
  rw [bits16_eq 16 _ _ _ hp.1 hp.2, show (2 : Int) ^ 16 = 65536 by decide, hc]
  have e1 : (c * 10 ^ P.size + R) % 10 ^ P.size = R := by
    rw [Int.add_comm, Int.add_mul_emod_self_right, Int.emod_eq_of_lt hR.1 hR.2]
  have e2 : (c * 10 ^ P.size + R) / 10 ^ P.size = c := by
    rw [Int.add_comm, Int.add_mul_ediv_right _ _ (by omega), Int.ediv_eq_zero_of_lt hR.1 hR.2, Int.zero_add]
  rw [e1, e2, Int.zero_mul, Int.zero_add]
  simp only []
  have e3 : (if R * 2 ≥ 10 ^ P.size then c + 1 else c) = c + (if up then 1 else 0) := by
    cases up
    · rw [if_neg (fun h => by cases hup.2 h), if_neg (by decide), Int.add_zero]
    · rw [if_pos (hup.1 rfl), if_pos rfl]
  rw [e3]
  generalize (10 : Int) ^ P.size = p at *
  generalize hu : (if up then (1 : Int) else 0) = u
  have u0 : 0 ≤ u ∧ u ≤ 1 := by rw [← hu]; split <;> omega
  generalize val (bts W) 0 = w at *
  by_cases hbig : w > 32768
  · rw [if_pos hbig, if_pos (by omega)]
  · rw [if_neg hbig]
    cases m
    · simp only [Bool.false_eq_true, if_false]
      by_cases h : c + u + w * 65536 > 2147483647
      · rw [if_pos (Or.inl h), if_pos (show w * 65536 + c + u > 2147483647 by omega)]
      · rw [if_neg (show ¬ (c + u + w * 65536 > 2147483647 ∨ c + u + w * 65536 < -2147483647) by omega), if_neg (show ¬ w * 65536 + c + u > 2147483647 by omega)]
        congr 1
        omega
    · simp only [if_true]
      by_cases h : c + u + w * 65536 > 2147483647
      · rw [if_pos (Or.inr (show -(c + u + w * 65536) < -2147483647 by omega)), if_pos (show w * 65536 + c + u > 2147483647 by omega)]
      · rw [if_neg (show ¬ (-(c + u + w * 65536) > 2147483647 ∨ -(c + u + w * 65536) < -2147483647) by omega), if_neg (show ¬ w * 65536 + c + u > 2147483647 by omega)]
        congr 1
        omega
end Go.Proofs.Ytnhapgenebcjmaa.UTexts
