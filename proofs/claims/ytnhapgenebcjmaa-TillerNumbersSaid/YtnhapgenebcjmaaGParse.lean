/- fix.Parse, walked by hand. -/
import Derived.Test.YtnhapgenebcjmaaGDigits
import Derived.Test.YtnhapgenebcjmaaGCut
set_option linter.unusedVariables false
set_option linter.unusedSimpArgs false
namespace Go.Proofs.Ytnhapgenebcjmaa.GParse
open Go.Proofs Go.RowKit Go.Proofs.YtnhapgenebcjmaaW.PrintWords Go.Proofs.YtnhapgenebcjmaaW.PrintLast Go.Proofs.YtnhapgenebcjmaaW.PrintMore
open Go.Proofs.Ytnhapgenebcjmaa.GDigits (bts bts_len conv_cells dgt digits.walk)
open Go.Proofs.Ytnhapgenebcjmaa.GCut (cutAt strings_Cut1 strings_CutPrefix.calls)
/-- A row of digits as a number, behind a. -/
def val (l : List Int) (a : Int) : Int := l.foldl (fun a c => 10 * a + (c - 48)) a
/-- Bit by bit: what is left, and the bits. -/
def bits16 : Nat → Int → Int → Int → Int × Int
  | 0, num, n, _ => (num, n)
  | k + 1, num, n, den => if den ≤ num * 2 then bits16 k (num * 2 - den) (n * 2 + 1) den else bits16 k (num * 2) (n * 2) den
/-- Is it a row of 1 to so many digits? -/
def isDig (s : ByteArray) (most : Int) : Bool := (bts s).all dgt && (decide (s.size ≠ 0) && decide ((s.size : Int) ≤ most))
/-- What lies ahead of the sign, and is there one? -/
def signed (s : ByteArray) : ByteArray × Bool := (⟨(Lib.trimPrefix s.data.toList [45]).toArray⟩, Lib.hasPrefix s.data.toList [45])
theorem signed_size (s : ByteArray) : (signed s).1.size ≤ s.size := by
  unfold signed Lib.trimPrefix
  show (List.toArray _).size ≤ s.data.size
  rw [List.size_toArray]
  split
  · rw [List.length_drop, Array.length_toList]; omega
  · rw [Array.length_toList]; exact Nat.le_refl _
theorem cutAt_size (s : ByteArray) : (cutAt s).1.size ≤ s.size ∧ (cutAt s).2.1.size ≤ s.size := by
  unfold cutAt
  split
  · constructor <;> (simp only [ByteArray.size_extract]; omega)
  · exact ⟨Nat.le_refl _, Nat.zero_le _⟩
/-- The number: whole, part, sign. -/
def told (whole part : ByteArray) (minus : Bool) : Int × Int :=
  if val (bts whole) 0 > 32768 then (0, 2) else
  let b := bits16 16 (val (bts part) 0) 0 (10 ^ part.size)
  let n := (if b.1 * 2 ≥ 10 ^ part.size then b.2 + 1 else b.2) + val (bts whole) 0 * 65536
  let n := if minus then -n else n
  if n > 2147483647 ∨ n < -2147483647 then (0, 2) else (n, 0)
/-- What fix.Parse answers. -/
def parsed (s : ByteArray) : Int × Int :=
  if isDig (cutAt (signed s).1).1 6 = true ∧ ((cutAt (signed s).1).2.2 = true → isDig (cutAt (signed s).1).2.1 16 = true) then told (cutAt (signed s).1).1 (cutAt (signed s).1).2.1 (signed s).2 else (0, 3)
theorem pow10_le {i n : Nat} (h : i ≤ n) : (10 : Int) ^ i ≤ 10 ^ n := by
  have := Nat.pow_le_pow_right (show 0 < 10 by decide) h
  have e : ∀ m : Nat, (10 : Int) ^ m = ((10 ^ m : Nat) : Int) := fun m => by simp
  rw [e, e]
  omega
theorem pow10_pos (i : Nat) : (1 : Int) ≤ 10 ^ i := by
  have := pow10_le (show 0 ≤ i by omega)
  simpa using this
theorem val_snoc (l : List Int) (c a : Int) : val (l ++ [c]) a = 10 * val l a + (c - 48) := by simp [val]
theorem dgt_iff {c : Int} : dgt c = true ↔ 48 ≤ c ∧ c ≤ 57 := by
  unfold dgt
  rw [Bool.and_eq_true, decide_eq_true_eq, decide_eq_true_eq]
theorem isDig_of {s : ByteArray} {n : Nat} (h : isDig s n = true) : (∀ c ∈ bts s, 48 ≤ c ∧ c ≤ 57) ∧ s.size ≤ n ∧ s.size ≠ 0 := by
  unfold isDig at h
  rw [Bool.and_eq_true, Bool.and_eq_true, decide_eq_true_eq, decide_eq_true_eq] at h
  exact ⟨fun c hc => dgt_iff.1 (List.all_eq_true.1 h.1 c hc), by omega, h.2.1⟩
theorem cutAt_none {s : ByteArray} (h : (cutAt s).2.2 = false) : (cutAt s).2.1 = ⟨#[]⟩ := by
  unfold cutAt at *
  split at h
  · cases h
  · rename_i hn
    rw [if_neg hn]
theorem at_bts {s : ByteArray} {i : Nat} (h : i < s.size) : (bts s).getD i 0 ∈ bts s ∧ (bts s).take (i + 1) = (bts s).take i ++ [(bts s).getD i 0] := by
  have hl : i < (bts s).length := by rw [bts_len]; exact h
  rw [List.getD_eq_getElem?_getD, List.getElem?_eq_getElem hl]
  exact ⟨List.getElem_mem hl, List.take_succ_eq_append_getElem hl⟩
set_option maxHeartbeats 1000000 in
set_option maxRecDepth 100000 in
theorem Parse.walk (s : ByteArray) (hs : s.size ≤ 100000) (w : World) : Calls Try.prog 25 #[.string s] w fun e w' => e = .returned (.tuple #[.int .i32 (parsed s).1, .int .i64 (parsed s).2]) ∧ Below w.heap.size w w' := by
  have hp := fun w_ => strings_CutPrefix.calls s ⟨#[45]⟩ (signed s).1 (signed s).2 w_ rfl
  have s1 := signed_size s
  have hc := fun w_ => strings_Cut1 (signed s).1 (by omega) w_
  have s2 := cutAt_size (signed s).1
  have hpt := cutAt_none (s := (signed s).1)
  unfold parsed
  generalize (signed s).1 = rest at *
  generalize (signed s).2 = minus at *
  generalize (cutAt rest).1 = whole at *
  generalize (cutAt rest).2.1 = part at *
  generalize (cutAt rest).2.2 = point at *
  have hd1 := fun w_ => digits.walk whole (by omega) 6 w_
  have hd2 := fun w_ => digits.walk part (by omega) 16 w_
  have e1 : isDig whole 6 = ((bts whole).all dgt && (decide (whole.size ≠ 0) && decide ((whole.size : Int) ≤ 6))) := rfl
  have e2 : isDig part 16 = ((bts part).all dgt && (decide (part.size ≠ 0) && decide ((part.size : Int) ≤ 16))) := rfl
  rw [← e1] at hd1
  rw [← e2] at hd2
  clear e1 e2
  have key : isDig whole 6 = true → ((∀ c ∈ bts whole, 48 ≤ c ∧ c ≤ 57) ∧ whole.size ≤ 6) := fun h => ⟨(isDig_of (n := 6) h).1, (isDig_of (n := 6) h).2.1⟩
  have key2 : isDig part 16 = true → ((∀ c ∈ bts part, 48 ≤ c ∧ c ≤ 57) ∧ part.size ≤ 16) := fun h => ⟨(isDig_of (n := 16) h).1, (isDig_of (n := 16) h).2.1⟩
  generalize isDig whole 6 = D1 at *
  generalize isDig part 16 = D2 at *
  cases D1 with
  | false =>
    rw [if_neg (by simp)]
    go_enter Try.func25, Try.ntmps25
    go_wp2_with (first
      | (go_at_call 32; refine (hp _).mono ?_; rintro e w1 ⟨rfl, hb1⟩)
      | (go_at_call 33; refine (hc _).mono ?_; rintro e w2 ⟨rfl, hb2⟩)
      | (go_at_call 34; refine (hd1 _).mono ?_; rintro e w3 ⟨rfl, hb3⟩))
    go_ret2
    exact ⟨rfl, below_step hb1.below (below_step hb2.below hb3)⟩
  | true =>
    have kw := key rfl
    clear key
    by_cases hbad : point = true ∧ D2 = false
    · obtain ⟨rfl, rfl⟩ := hbad
      rw [if_neg (by simp)]
      clear key2
      go_enter Try.func25, Try.ntmps25
      go_wp2_with (first
        | (go_at_call 32; refine (hp _).mono ?_; rintro e w1 ⟨rfl, hb1⟩)
        | (go_at_call 33; refine (hc _).mono ?_; rintro e w2 ⟨rfl, hb2⟩)
        | (go_at_call 34; first | (with_reducible refine (hd1 _).mono ?_; rintro e w3 ⟨rfl, hb3⟩) | (with_reducible refine (hd2 _).mono ?_; rintro e w4 ⟨rfl, hb4⟩)))
      go_ret2
      exact ⟨rfl, below_step (below_step hb1.below (below_step hb2.below hb3)) hb4⟩
    · have kp : (∀ c ∈ bts part, 48 ≤ c ∧ c ≤ 57) ∧ part.size ≤ 16 := by
        cases point with
        | true => exact key2 (by cases D2 <;> simp_all)
        | false =>
          rw [hpt rfl]
          exact ⟨fun c hc => by simp [bts] at hc, by decide⟩
      rw [if_pos ⟨rfl, fun h => by cases D2 <;> simp_all⟩]
      obtain ⟨R, hR⟩ : ∃ R, told whole part minus = R := ⟨_, rfl⟩
      rw [hR]
      have HR := Aside0.mk hR
      have KW := Aside0.mk kw
      have KP := Aside0.mk kp
      have hsw := kw.2
      have hsp := kp.2
      clear hR kw kp key2 hpt s1 s2
      have hcv1 := fun w_ => run_bytes_of_string (P := Try.prog) w_ 9 48 5 whole Try.underlying9 Try.underlying48 Try.underlying5
      have hcv2 := fun w_ => run_bytes_of_string (P := Try.prog) w_ 9 48 5 part Try.underlying9 Try.underlying48 Try.underlying5
      go_enter Try.func25, Try.ntmps25
      cases point
      case' true =>
        obtain rfl : D2 = true := by cases D2 <;> simp_all
        clear hbad
        go_wp2_with (first
          | (go_at_call 32; refine (hp _).mono ?_; rintro e w1 ⟨rfl, hb1⟩)
          | (go_at_call 33; refine (hc _).mono ?_; rintro e w2 ⟨rfl, hb2⟩)
          | (go_at_call 34; first | (with_reducible refine (hd1 _).mono ?_; rintro e w3 ⟨rfl, hb3⟩) | (with_reducible refine (hd2 _).mono ?_; rintro e w4 ⟨rfl, hb4⟩)))
        have HB4 := Aside0.mk (below_step (below_step hb1.below (below_step hb2.below hb3)) hb4)
        clear hb1 hb2 hb3 hb4 hd1 hd2 hp hc
      case' false =>
        clear hbad
        go_wp2_with (first
          | (go_at_call 32; refine (hp _).mono ?_; rintro e w1 ⟨rfl, hb1⟩)
          | (go_at_call 33; refine (hc _).mono ?_; rintro e w2 ⟨rfl, hb2⟩)
          | (go_at_call 34; refine (hd1 _).mono ?_; rintro e w4 ⟨rfl, hb4⟩))
        have HB4 := Aside0.mk (below_step (below_step hb1.below hb2.below) hb4)
        clear hb1 hb2 hb4 hd1 hd2 hp hc
      all_goals
        have hB0 := Aside0.mk ((below_alloc HB4.out (.cells (bytesRow whole (grownCap w4 whole.size 0 5)) 5 ((bytesRow whole (grownCap w4 whole.size 0 5)).size, (bytesRow whole (grownCap w4 whole.size 0 5)).size + 1))).drew)
        have hC0 : Aside0 (∀ j, j < whole.size → _) := ⟨fun j hj => conv_cells w4 whole (grownCap w4 whole.size 0 5) ((bytesRow whole (grownCap w4 whole.size 0 5)).size, (bytesRow whole (grownCap w4 whole.size 0 5)).size + 1) j hj⟩
        clear HB4 hcv1
        go_loopg [9, 42] whole.size (fun kq v9 v42 w' => ∃ (i : Nat) (a : Int), v42 = .int .i64 (i : Int) ∧ v9 = .int .i64 a ∧ Aside0 (i + kq = whole.size) ∧ Aside0 (a = val ((bts whole).take i) 0 ∧ 0 ≤ a ∧ a < 10 ^ i) ∧ Aside0 (∀ j, j < whole.size → w'.cell? ⟨w4.heap.size, j, none⟩ = some (.int .u8 ((bts whole).getD j 0))) ∧ Aside0 (Below w.heap.size w w'))
        case atStart => exact ⟨0, 0, rfl, rfl, ⟨Nat.zero_add _⟩, ⟨by simp [val], by decide, by decide⟩, hC0, hB0⟩
        case round =>
          clear hC0 hB0
          obtain ⟨i, a, rfl, rfl, HI, HA, HC, HB⟩ := hrel
          have hi := HI.out
          cases gk with
          | succ k =>
            have hil : i < whole.size := by omega
            have b1 : decide ((i : Int) < (whole.size : Int)) = true := decide_eq_true (by omega)
            obtain ⟨hm, htk⟩ := at_bts hil
            have hr := KW.out.1 _ hm
            have hc := HC.out i hil
            have hp5 := pow10_le (show i ≤ 5 by omega)
            have e5 : (10 : Int) ^ 5 = 100000 := by decide
            have ha := HA.out
            have hav : val ((bts whole).take (i + 1)) 0 = 10 * a + ((bts whole).getD i 0 - 48) := by rw [htk, val_snoc, ha.1]
            have hps : (10 : Int) ^ (i + 1) = 10 ^ i * 10 := Int.pow_succ ..
            have HV := Aside0.mk hav
            have HPS := Aside0.mk hps
            have h0 := ha.2.1
            have h9 : a < 100000 := by omega
            clear hav hps hm htk ha hp5 e5
            generalize (bts whole).getD i 0 = c at hc hr HV
            go_wp2
            go_roundg k
            case measure => omega
            case rel =>
              have hv := HV.out
              have hps := HPS.out
              have ha := HA.out
              exact ⟨i + 1, 10 * a + (c - 48), rfl, rfl, ⟨by omega⟩, ⟨hv.symm, by omega, by omega⟩, HC, HB⟩
          | zero =>
            have b1 : decide ((i : Int) < (whole.size : Int)) = false := decide_eq_false (by omega)
            obtain rfl : i = whole.size := by omega
            have ha := HA.out
            rw [List.take_of_length_le (by rw [bts_len]; omega)] at ha
            have hp5 := pow10_le hsw
            have e5 : (10 : Int) ^ 6 = 1000000 := by decide
            have hw9 : 0 ≤ a ∧ a < 1000000 := by omega
            have HWV := Aside0.mk ha.1
            clear ha hp5 e5 HA HC HI hi
            rename World => wq
            have hB1 := Aside0.mk ((below_alloc HB.out (.cells (bytesRow part (grownCap wq part.size 0 5)) 5 ((bytesRow part (grownCap wq part.size 0 5)).size, (bytesRow part (grownCap wq part.size 0 5)).size + 1))).drew)
            have hC1 : Aside0 (∀ j, j < part.size → _) := ⟨fun j hj => conv_cells wq part (grownCap wq part.size 0 5) ((bytesRow part (grownCap wq part.size 0 5)).size, (bytesRow part (grownCap wq part.size 0 5)).size + 1) j hj⟩
            go_wp2
            clear HB hcv2
            go_loopg [13, 14, 56] part.size (fun kq v13 v14 v56 w' => ∃ (i : Nat) (x d : Int), v56 = .int .i64 (i : Int) ∧ v13 = .int .i64 x ∧ v14 = .int .i64 d ∧ Aside0 (i + kq = part.size) ∧ Aside0 (x = val ((bts part).take i) 0 ∧ 0 ≤ x ∧ x < 10 ^ i) ∧ Aside0 (d = 10 ^ i) ∧ Aside0 (∀ j, j < part.size → w'.cell? ⟨wq.heap.size, j, none⟩ = some (.int .u8 ((bts part).getD j 0))) ∧ Aside0 (Below w.heap.size w w'))
            case atStart => exact ⟨0, 0, 1, rfl, rfl, rfl, ⟨Nat.zero_add _⟩, ⟨by simp [val], by decide, by decide⟩, ⟨by decide⟩, hC1, hB1⟩
            case round =>
              clear hC1 hB1
              obtain ⟨i, x, d, rfl, rfl, rfl, HI, HA, HDN, HC, HB⟩ := hrel
              have hi := HI.out
              cases gk with
              | succ k =>
                have hil : i < part.size := by omega
                have b1 : decide ((i : Int) < (part.size : Int)) = true := decide_eq_true (by omega)
                obtain ⟨hm, htk⟩ := at_bts hil
                have hr := KP.out.1 _ hm
                have hc := HC.out i hil
                have hp5 := pow10_le (show i ≤ 15 by omega)
                have e5 : (10 : Int) ^ 15 = 1000000000000000 := by decide
                have ha := HA.out
                have hd := HDN.out
                have hav : val ((bts part).take (i + 1)) 0 = 10 * x + ((bts part).getD i 0 - 48) := by rw [htk, val_snoc, ha.1]
                have hps : (10 : Int) ^ (i + 1) = 10 ^ i * 10 := Int.pow_succ ..
                have h1p := pow10_pos i
                have HV := Aside0.mk hav
                have HPS := Aside0.mk hps
                have h0 := ha.2.1
                have h9 : x < 1000000000000000 := by omega
                have hd9 : 1 ≤ d ∧ d ≤ 1000000000000000 := by omega
                clear hav hps hm htk ha hp5 e5 hd h1p
                generalize (bts part).getD i 0 = c at hc hr HV
                go_wp2
                go_roundg k
                case measure => omega
                case rel =>
                  have hv := HV.out
                  have hps := HPS.out
                  have ha := HA.out
                  have hd := HDN.out
                  exact ⟨i + 1, 10 * x + (c - 48), 10 * d, rfl, rfl, rfl, ⟨by omega⟩, ⟨hv.symm, by omega, by omega⟩, ⟨by omega⟩, HC, HB⟩
              | zero =>
                have b1 : decide ((i : Int) < (part.size : Int)) = false := decide_eq_false (by omega)
                obtain rfl : i = part.size := by omega
                have ha := HA.out
                rw [List.take_of_length_le (by rw [bts_len]; omega)] at ha
                have hd := HDN.out
                have hp5 := pow10_le hsp
                have e5 : (10 : Int) ^ 16 = 10000000000000000 := by decide
                have h1p := pow10_pos part.size
                have hx9 : 0 ≤ x ∧ x < d ∧ d ≤ 10000000000000000 := by omega
                have HXV := Aside0.mk ha.1
                have HDV := Aside0.mk hd
                clear ha hd hp5 e5 h1p HA HDN HC HI hi
                obtain ⟨x0, hx0⟩ : ∃ x0, x = x0 := ⟨_, rfl⟩
                have HX0 := Aside0.mk hx0
                clear hx0
                go_wp2
                go_loopg [12, 13, 69] 16 (fun kq v12 v13 v69 w' => ∃ (j : Nat) (n y : Int), v69 = .int .i64 (j : Int) ∧ v12 = .int .i64 n ∧ v13 = .int .i64 y ∧ Aside0 (j + kq = 16) ∧ Aside0 (bits16 kq y n d = bits16 16 x0 0 d) ∧ Aside0 (0 ≤ y ∧ y < d) ∧ Aside0 (0 ≤ n ∧ n < 2 ^ j) ∧ Aside0 (Below w.heap.size w w'))
                case atStart => exact ⟨0, 0, x, rfl, rfl, rfl, ⟨Nat.zero_add _⟩, ⟨by rw [HX0.out]⟩, ⟨by omega⟩, ⟨by decide⟩, HB⟩
                case round =>
                  clear HB
                  obtain ⟨j, n, y, rfl, rfl, rfl, HI, HBT, HY, HN, HB⟩ := hrel
                  have hi := HI.out
                  have hy := HY.out
                  have hn := HN.out
                  have hp2 : (2 : Int) ^ j ≤ 65536 := by
                    have h1 := Nat.pow_le_pow_right (show 0 < 2 by decide) (show j ≤ 16 by omega)
                    have e : ∀ m : Nat, (2 : Int) ^ m = ((2 ^ m : Nat) : Int) := fun m => by simp
                    rw [e]
                    omega
                  have hn9 : 0 ≤ n ∧ n < 65536 := by omega
                  cases gk with
                  | succ k =>
                    have b1 : decide ((j : Int) < 16) = true := decide_eq_true (by omega)
                    have hps : (2 : Int) ^ (j + 1) = 2 ^ j * 2 := Int.pow_succ ..
                    have HPS := Aside0.mk hps
                    have hbt := HBT.out
                    rw [bits16] at hbt
                    clear hps hn hp2
                    by_cases c1 : d ≤ y * 2
                    · rw [if_pos c1] at hbt
                      have HBT2 := Aside0.mk hbt
                      clear hbt HBT
                      have b2 : decide (y * 2 ≥ d) = true := decide_eq_true c1
                      go_wp2
                      go_roundg k
                      case measure => omega
                      case rel =>
                        have hps := HPS.out
                        have hn := HN.out
                        exact ⟨j + 1, n * 2 + 1, y * 2 - d, rfl, rfl, rfl, ⟨by omega⟩, HBT2, ⟨by omega⟩, ⟨by omega⟩, HB⟩
                    · rw [if_neg c1] at hbt
                      have HBT2 := Aside0.mk hbt
                      clear hbt HBT
                      have b2 : decide (y * 2 ≥ d) = false := decide_eq_false c1
                      go_wp2
                      go_roundg k
                      case measure => omega
                      case rel =>
                        have hps := HPS.out
                        have hn := HN.out
                        exact ⟨j + 1, n * 2, y * 2, rfl, rfl, rfl, ⟨by omega⟩, HBT2, ⟨by omega⟩, ⟨by omega⟩, HB⟩
                  | zero =>
                    have b1 : decide ((j : Int) < 16) = false := decide_eq_false (by omega)
                    have hbt := HBT.out
                    rw [bits16] at hbt
                    have HBT2 := Aside0.mk hbt
                    have hR : R = if a > 32768 then (0, 2) else if (if minus then -((if y * 2 ≥ d then n + 1 else n) + a * 65536) else (if y * 2 ≥ d then n + 1 else n) + a * 65536) > 2147483647 ∨ (if minus then -((if y * 2 ≥ d then n + 1 else n) + a * 65536) else (if y * 2 ≥ d then n + 1 else n) + a * 65536) < -2147483647 then (0, 2) else ((if minus then -((if y * 2 ≥ d then n + 1 else n) + a * 65536) else (if y * 2 ≥ d then n + 1 else n) + a * 65536), 0) := by
                      rw [← HR.out]
                      unfold told
                      rw [← HWV.out, ← HDV.out, ← HXV.out, HX0.out, ← hbt]
                    clear hn hp2 HBT hbt HR HWV HDV HXV HX0 HBT2
                    by_cases c2 : a > 32768
                    · rw [if_pos c2] at hR
                      subst hR
                      have b3 : decide (32768 < a) = true := decide_eq_true c2
                      by_cases c1 : y * 2 ≥ d
                      case' pos => have b2 : decide (2 * y ≥ d) = true := decide_eq_true (by omega)
                      case' neg => have b2 : decide (2 * y ≥ d) = false := decide_eq_false (by omega)
                      all_goals
                        go_wp2
                        go_ret2
                        exact ⟨rfl, HB.out⟩
                    · rw [if_neg c2] at hR
                      have b3 : decide (32768 < a) = false := decide_eq_false c2
                      by_cases c1 : y * 2 ≥ d
                      case' pos =>
                        rw [if_pos c1] at hR
                        have b2 : decide (2 * y ≥ d) = true := decide_eq_true (by omega)
                      case' neg =>
                        rw [if_neg c1] at hR
                        have b2 : decide (2 * y ≥ d) = false := decide_eq_false (by omega)
                      all_goals
                        cases minus
                        case' true => rw [if_pos rfl] at hR
                        case' false => rw [if_neg (show ¬ (false = true) by decide)] at hR
                        all_goals
                          split at hR
                          all_goals
                            rename_i hM
                            subst hR
                            go_wp2
                            all_goals
                              first
                              | (exfalso; omega)
                              | (go_ret2; exact ⟨rfl, HB.out⟩)
def fix_Parse.f (s : ByteArray) : Option (Int × Int) := if s.size ≤ 100000 then some (parsed s) else none
theorem fix_Parse.calls (a0 : ByteArray) (r1 r2 : Int) (w : World) (h : fix_Parse.f a0 = some (r1, r2)) : Calls Try.prog 25 #[.string a0] w fun e w' => e = .returned (.tuple #[.int .i32 r1, .int .i64 r2]) ∧ Below w.heap.size w w' := by
  unfold fix_Parse.f at h
  split at h
  · rename_i hs
    have h := Option.some.inj h
    have := Parse.walk a0 hs w
    rw [h] at this
    exact this
  · cases h
end Go.Proofs.Ytnhapgenebcjmaa.GParse
