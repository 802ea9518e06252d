/- tillerref01.Form, walked by hand. -/
import Derived.Test.YtnhapgenebcjmaaGParse
set_option linter.unusedVariables false
set_option linter.unusedSimpArgs false
namespace Go.Proofs.Ytnhapgenebcjmaa.GForm
open Go.Proofs Go.RowKit Go.Proofs.YtnhapgenebcjmaaW.PrintWords Go.Proofs.YtnhapgenebcjmaaW.PrintLast Go.Proofs.YtnhapgenebcjmaaW.PrintMore
open Go.Proofs.Ytnhapgenebcjmaa.GDigits (bts bts_len conv_cells dgt)
theorem results_tmp4 {fn : Func} {t u v x : Tmp} (h : fn.results = #[.tmp t, .tmp u, .tmp v, .tmp x]) (tmps : Array Value) (P : Program) (w : World) :
    (results fn tmps).run P w = .ok (.tuple #[tmps.getD t undef, tmps.getD u undef, tmps.getD v undef, tmps.getD x undef]) w := by
  simp [results, h]
/-- Where the first point is, or the end. -/
def pidx : List Int → Nat
  | [] => 0
  | c :: l => if c = 46 then 0 else pidx l + 1
theorem pidx_le : ∀ l : List Int, pidx l ≤ l.length
  | [] => Nat.le_refl _
  | c :: l => by
    have := pidx_le l
    unfold pidx
    split <;> simp <;> omega
/-- Sign put aside: the rest's digits ahead of the point, behind it; is it a number's text? -/
def formed (T : ByteArray) (m : Bool) : Bool × ByteArray × ByteArray × Bool :=
  if pidx (bts T) < T.size ∧ ((T.extract (pidx (bts T) + 1) T.size).size < 1 ∨ (T.extract (pidx (bts T) + 1) T.size).size > 16) then (false, ⟨#[]⟩, ⟨#[]⟩, false)
  else if (bts (T.extract 0 (pidx (bts T)) ++ (if pidx (bts T) < T.size then T.extract (pidx (bts T) + 1) T.size else ⟨#[]⟩))).all dgt = true then
    (m, T.extract 0 (pidx (bts T)), (if pidx (bts T) < T.size then T.extract (pidx (bts T) + 1) T.size else ⟨#[]⟩), decide (1 ≤ (T.extract 0 (pidx (bts T))).size) && decide ((T.extract 0 (pidx (bts T))).size ≤ 6))
  else (false, ⟨#[]⟩, ⟨#[]⟩, false)
theorem bts_at {T : ByteArray} {j : Nat} (h : j < T.size) : (bts T).drop j = ((T[j]'h).toNat : Int) :: (bts T).drop (j + 1) := by
  rw [List.drop_eq_getElem_cons (by rw [bts_len]; exact h)]
  congr 1
  simp only [bts, List.getElem_map, Array.getElem_toList]
  rfl
/-- What tillerref01.Form answers. -/
def form (s : ByteArray) : Bool × ByteArray × ByteArray × Bool := if (bts s).head? = some 45 then formed (s.extract 1 s.size) true else formed s false
set_option maxHeartbeats 1000000 in
set_option maxRecDepth 100000 in
theorem Form.walk (s : ByteArray) (hs : s.size ≤ 100000) (w : World) : Calls Try.prog 35 #[.string s] w fun e w' => e = .returned (.tuple #[.bool (form s).1, .string (form s).2.1, .string (form s).2.2.1, .bool (form s).2.2.2]) ∧ Below w.heap.size w w' := by
  have hcases : (s.size = 0 ∧ form s = formed s false) ∨ (∃ hl : 0 < s.size, ((s[0]'hl).toNat : Int) = 45 ∧ form s = formed (s.extract 1 s.size) true) ∨ (∃ hl : 0 < s.size, ((s[0]'hl).toNat : Int) ≠ 45 ∧ form s = formed s false) := by
    by_cases h0 : s.size = 0
    · refine .inl ⟨h0, ?_⟩
      unfold form
      have : bts s = [] := List.eq_nil_of_length_eq_zero (by rw [bts_len]; exact h0)
      rw [this, if_neg (by simp)]
    · have hl : 0 < s.size := by omega
      have hd := bts_at hl
      rw [List.drop_zero] at hd
      by_cases h1 : ((s[0]'hl).toNat : Int) = 45
      · refine .inr (.inl ⟨hl, h1, ?_⟩)
        unfold form
        rw [hd, if_pos (by simp [h1])]
      · refine .inr (.inr ⟨hl, h1, ?_⟩)
        unfold form
        rw [hd, if_neg (by simpa using h1)]
  rcases hcases with ⟨h0, hf⟩ | ⟨hl, h1, hf⟩ | ⟨hl, h1, hf⟩
  case' inl =>
    rw [hf]
    have b0 : decide ((s.size : Int) > 0) = false := decide_eq_false (by omega)
    obtain ⟨R, hR⟩ : ∃ R, formed s false = R := ⟨_, rfl⟩
    rw [hR]
    have HR := Aside0.mk hR
    clear hR hf
    go_enter Try.func35, Try.ntmps35
    go_wp2
    rename ByteArray => T
    have hTs : (T.size : Int) = 0 := by omega
    have hTl := hs
    clear hs b0 h0
  case' inr.inl =>
    rw [hf]
    have b0 : decide ((s.size : Int) > 0) = true := decide_eq_true (by omega)
    have b1 : (((s[0]'hl).toNat : Int) == 45) = true := beq_iff_eq.2 h1
    obtain ⟨R, hR⟩ : ∃ R, formed (s.extract 1 s.size) true = R := ⟨_, rfl⟩
    rw [hR]
    have HR := Aside0.mk hR
    clear hR hf
    go_enter Try.func35, Try.ntmps35
    go_wp2
    have hTs : (s.extract 1 s.size).size = s.size - 1 := by rw [ByteArray.size_extract]; omega
    have hTl : (s.extract 1 s.size).size ≤ 100000 := by omega
    generalize s.extract 1 s.size = T at *
    clear h1 b0 b1

  case' inr.inr =>
    rw [hf]
    have b0 : decide ((s.size : Int) > 0) = true := decide_eq_true (by omega)
    have b1 : (((s[0]'hl).toNat : Int) == 45) = false := beq_eq_false_iff_ne.2 h1
    obtain ⟨R, hR⟩ : ∃ R, formed s false = R := ⟨_, rfl⟩
    rw [hR]
    have HR := Aside0.mk hR
    clear hR hf
    go_enter Try.func35, Try.ntmps35
    go_wp2
    rename ByteArray => T
    have hTs : (T.size : Int) = T.size := rfl
    have hTl := hs
    clear b0 b1 h1
  all_goals
    go_loopg [7, 8] T.size (fun kq v7 v8 w' => v8 = .int .i64 ((kq : Int) - 1) ∧ Aside0 (kq ≤ T.size) ∧ v7 = .int .i64 ((kq + pidx ((bts T).drop kq) : Nat) : Int) ∧ Aside0 (Below w.heap.size w w'))
    case atStart =>
      have e0 : pidx ((bts T).drop T.size) = 0 := by rw [List.drop_eq_nil_of_le (by rw [bts_len]; omega)]; rfl
      exact ⟨congrArg _ (by omega), ⟨Nat.le_refl _⟩, congrArg _ (by rw [e0]; omega), ⟨Below.refl _ _⟩⟩
    case round =>
      clear hTs
      obtain ⟨rfl, HK, rfl, HB⟩ := hrel
      cases gk with
      | succ j =>
        have hj := HK.out
        have hjl : j < T.size := by omega
        have b3 : decide (((j + 1 : Nat) : Int) - 1 ≥ 0) = true := decide_eq_true (by omega)
        have hd := bts_at hjl
        have HD := Aside0.mk hd
        clear hd
        by_cases hc : ((T[j]'hjl).toNat : Int) = 46
        · have b4 : (((T[j]'hjl).toNat : Int) == 46) = true := beq_iff_eq.2 hc
          have HC := Aside0.mk hc
          go_wp2
          go_roundg j
          case measure => omega
          case rel =>
            have e : pidx ((bts T).drop j) = 0 := by rw [HD.out, pidx, if_pos HC.out]
            exact ⟨congrArg _ (by omega), ⟨by omega⟩, congrArg _ (by rw [e]; omega), HB⟩
        · have b4 : (((T[j]'hjl).toNat : Int) == 46) = false := beq_eq_false_iff_ne.2 hc
          have HC := Aside0.mk hc
          go_wp2
          go_roundg j
          case measure => omega
          case rel =>
            have e : pidx ((bts T).drop j) = pidx ((bts T).drop (j + 1)) + 1 := by rw [HD.out, pidx, if_neg HC.out]
            exact ⟨congrArg _ (by omega), ⟨by omega⟩, congrArg _ (by rw [e]; omega), HB⟩
      | zero =>
        have b3 : decide (((0 : Nat) : Int) - 1 ≥ 0) = false := decide_eq_false (by omega)
        obtain ⟨p, hp⟩ : ∃ p, 0 + pidx ((bts T).drop 0) = p := ⟨_, rfl⟩
        rw [hp]
        have hp2 : pidx (bts T) = p := by rw [← hp, List.drop_zero]; omega
        have hple : p ≤ T.size := by rw [← hp2, ← bts_len]; exact pidx_le _
        have hR := HR.out
        unfold formed at hR
        rw [hp2] at hR
        have HR2 := Aside0.mk hR
        clear HR hR hp hp2
        by_cases hp1 : p < T.size
        · have b5 : decide ((p : Int) < (T.size : Int)) = true := decide_eq_true (by omega)
          have hps : (T.extract (p + 1) T.size).size = T.size - (p + 1) := by rw [ByteArray.size_extract]; omega
          by_cases hbad : T.size - (p + 1) < 1 ∨ T.size - (p + 1) > 16
          · go_wp2
            all_goals
              refine bodyPost_ret (results_tmp4 rfl _ _ _) rfl ?_
              refine ⟨?_, HB.out⟩
              rw [← HR2.out, if_pos ⟨hp1, by rw [hps]; omega⟩]
              rfl
          · have b6 : decide (((T.size - (p + 1) : Nat) : Int) < 1) = false := decide_eq_false (by omega)
            have b7 : decide (16 < ((T.size - (p + 1) : Nat) : Int)) = false := decide_eq_false (by omega)
            have hcv := fun w_ => run_bytes_of_string (P := Try.prog) w_ 9 48 5 (T.extract 0 p ++ T.extract (p + 1) T.size) Try.underlying9 Try.underlying48 Try.underlying5
            go_wp2
            have hQ : (T.extract 0 p ++ T.extract (p + 1) T.size).size = p + (T.size - (p + 1)) := by rw [ByteArray.size_append, ByteArray.size_extract, ByteArray.size_extract]; omega
            have hC0 : Aside0 (∀ j, j < p + (T.size - (p + 1)) → _) := ⟨fun j hj => conv_cells wr (T.extract 0 p ++ T.extract (p + 1) T.size) (grownCap wr (p + (T.size - (p + 1))) 0 5) ((bytesRow (T.extract 0 p ++ T.extract (p + 1) T.size) (grownCap wr (p + (T.size - (p + 1))) 0 5)).size, (bytesRow (T.extract 0 p ++ T.extract (p + 1) T.size) (grownCap wr (p + (T.size - (p + 1))) 0 5)).size + 1) j (by rw [hQ]; exact hj)⟩
            have hB0 := Aside0.mk ((below_alloc HB.out (.cells (bytesRow (T.extract 0 p ++ T.extract (p + 1) T.size) (grownCap wr (p + (T.size - (p + 1))) 0 5)) 5 ((bytesRow (T.extract 0 p ++ T.extract (p + 1) T.size) (grownCap wr (p + (T.size - (p + 1))) 0 5)).size, (bytesRow (T.extract 0 p ++ T.extract (p + 1) T.size) (grownCap wr (p + (T.size - (p + 1))) 0 5)).size + 1))).drew)
            have HQ := Aside0.mk hQ
            clear hcv HB hQ
            rename World => wq
            go_loopg [62] (p + (T.size - (p + 1))) (fun kq v62 w' => ∃ (i : Nat), v62 = .int .i64 (i : Int) ∧ Aside0 (i + kq = p + (T.size - (p + 1))) ∧ Aside0 (((bts (T.extract 0 p ++ T.extract (p + 1) T.size)).drop i).all dgt = (bts (T.extract 0 p ++ T.extract (p + 1) T.size)).all dgt) ∧ Aside0 (∀ j, j < p + (T.size - (p + 1)) → w'.cell? ⟨wq.heap.size, j, none⟩ = some (.int .u8 ((bts (T.extract 0 p ++ T.extract (p + 1) T.size)).getD j 0))) ∧ Aside0 (Below w.heap.size w w'))
            case atStart => exact ⟨0, rfl, ⟨Nat.zero_add _⟩, ⟨rfl⟩, hC0, hB0⟩
            case round =>
              clear hC0 hB0
              obtain ⟨i, rfl, HI, HA, HC, HB⟩ := hrel
              have hi := HI.out
              cases gk with
              | zero =>
                have hin : i = p + (T.size - (p + 1)) := by omega
                have ha := HA.out
                rw [List.drop_eq_nil_of_le (by rw [bts_len, HQ.out]; omega), List.all_nil] at ha
                have HA2 := Aside0.mk ha
                clear ha
                have b8 : decide ((i : Int) < ((p + (T.size - (p + 1)) : Nat) : Int)) = false := decide_eq_false (by omega)
                clear hin
                have hW : (T.extract 0 p).size = p := by rw [ByteArray.size_extract]; omega
                have HW := Aside0.mk hW
                clear hW
                by_cases w1 : 1 ≤ p
                · have b11 : decide ((p : Int) ≥ 1) = true := decide_eq_true (by omega)
                  by_cases w2 : p ≤ 6
                  · have b12 : decide ((p : Int) ≤ 6) = true := decide_eq_true (by omega)
                    go_wp2
                    refine bodyPost_ret (results_tmp4 rfl _ _ _) rfl ?_
                    refine ⟨?_, HB.out⟩
                    rw [← HR2.out, if_neg (show ¬ (p < T.size ∧ _) from fun h => hbad (by rw [← hps]; exact h.2)), if_pos hp1, ← HA2.out, if_pos rfl, HW.out, decide_eq_true w1, decide_eq_true w2]
                    rfl
                  · have b12 : decide ((p : Int) ≤ 6) = false := decide_eq_false (by omega)
                    go_wp2
                    refine bodyPost_ret (results_tmp4 rfl _ _ _) rfl ?_
                    refine ⟨?_, HB.out⟩
                    rw [← HR2.out, if_neg (show ¬ (p < T.size ∧ _) from fun h => hbad (by rw [← hps]; exact h.2)), if_pos hp1, ← HA2.out, if_pos rfl, HW.out, decide_eq_true w1, decide_eq_false w2]
                    rfl
                · have b11 : decide ((p : Int) ≥ 1) = false := decide_eq_false (by omega)
                  go_wp2
                  all_goals
                    refine bodyPost_ret (results_tmp4 rfl _ _ _) rfl ?_
                    refine ⟨?_, HB.out⟩
                    rw [← HR2.out, if_neg (show ¬ (p < T.size ∧ _) from fun h => hbad (by rw [← hps]; exact h.2)), if_pos hp1, ← HA2.out, if_pos rfl, HW.out, decide_eq_false w1, Bool.false_and]
                    rfl
              | succ k =>
                have hil : i < p + (T.size - (p + 1)) := by omega
                have b8 : decide ((i : Int) < ((p + (T.size - (p + 1)) : Nat) : Int)) = true := decide_eq_true (by omega)
                have hlen : i < (bts (T.extract 0 p ++ T.extract (p + 1) T.size)).length := by rw [bts_len, HQ.out]; exact hil
                have hd : (bts (T.extract 0 p ++ T.extract (p + 1) T.size)).drop i = (bts (T.extract 0 p ++ T.extract (p + 1) T.size)).getD i 0 :: (bts (T.extract 0 p ++ T.extract (p + 1) T.size)).drop (i + 1) := by
                  rw [List.drop_eq_getElem_cons hlen, List.getD_eq_getElem?_getD, List.getElem?_eq_getElem hlen]
                  rfl
                have ha := HA.out
                rw [hd, List.all_cons] at ha
                have hc := HC.out i hil
                have hr : 0 ≤ (bts (T.extract 0 p ++ T.extract (p + 1) T.size)).getD i 0 ∧ (bts (T.extract 0 p ++ T.extract (p + 1) T.size)).getD i 0 < 256 := by
                  rw [List.getD_eq_getElem?_getD, List.getElem?_eq_getElem hlen]
                  simp only [bts, List.getElem_map, Option.getD_some]
                  generalize (_ : List UInt8)[i]'_ = u
                  have := u.toNat_lt
                  omega
                have HA2 := Aside0.mk ha
                clear ha hd
                generalize (bts (T.extract 0 p ++ T.extract (p + 1) T.size)).getD i 0 = c at hc hr HA2
                by_cases c1 : c < 48
                · have b9 : decide (c < 48) = true := decide_eq_true c1
                  go_wp2
                  refine bodyPost_ret (results_tmp4 rfl _ _ _) rfl ?_
                  refine ⟨?_, HB.out⟩
                  rw [← HR2.out, if_neg (show ¬ (p < T.size ∧ _) from fun h => hbad (by rw [← hps]; exact h.2)), if_pos hp1, ← HA2.out, show dgt c = false by unfold dgt; rw [decide_eq_false (by omega)]; rfl, Bool.false_and, if_neg (by decide)]
                  rfl
                · have b9 : decide (c < 48) = false := decide_eq_false c1
                  by_cases c2 : c > 57
                  · have b10 : decide (57 < c) = true := decide_eq_true c2
                    go_wp2
                    refine bodyPost_ret (results_tmp4 rfl _ _ _) rfl ?_
                    refine ⟨?_, HB.out⟩
                    rw [← HR2.out, if_neg (show ¬ (p < T.size ∧ _) from fun h => hbad (by rw [← hps]; exact h.2)), if_pos hp1, ← HA2.out, show dgt c = false by unfold dgt; rw [decide_eq_false (show ¬ c ≤ 57 by omega), Bool.and_false], Bool.false_and, if_neg (by decide)]
                    rfl
                  · have b10 : decide (57 < c) = false := decide_eq_false c2
                    go_wp2
                    go_roundg k
                    case measure => omega
                    case rel =>
                      refine ⟨i + 1, rfl, ⟨by omega⟩, ⟨?_⟩, HC, HB⟩
                      have := HA2.out
                      rw [show dgt c = true by unfold dgt; rw [decide_eq_true (by omega), decide_eq_true (by omega)]; rfl, Bool.true_and] at this
                      exact this
        · have b5 : decide ((p : Int) < (T.size : Int)) = false := decide_eq_false (by omega)
          have hcv := fun w_ => run_bytes_of_string (P := Try.prog) w_ 9 48 5 (T.extract 0 p ++ { data := #[] }) Try.underlying9 Try.underlying48 Try.underlying5
          go_wp2
          have hQ : (T.extract 0 p ++ { data := #[] }).size = p := by rw [ByteArray.size_append, ByteArray.size_extract]; show min p T.size - 0 + 0 = p; omega
          have hC0 : Aside0 (∀ j, j < p → _) := ⟨fun j hj => conv_cells wr (T.extract 0 p ++ { data := #[] }) (grownCap wr (p) 0 5) ((bytesRow (T.extract 0 p ++ { data := #[] }) (grownCap wr (p) 0 5)).size, (bytesRow (T.extract 0 p ++ { data := #[] }) (grownCap wr (p) 0 5)).size + 1) j (by rw [hQ]; exact hj)⟩
          have hB0 := Aside0.mk ((below_alloc HB.out (.cells (bytesRow (T.extract 0 p ++ { data := #[] }) (grownCap wr (p) 0 5)) 5 ((bytesRow (T.extract 0 p ++ { data := #[] }) (grownCap wr (p) 0 5)).size, (bytesRow (T.extract 0 p ++ { data := #[] }) (grownCap wr (p) 0 5)).size + 1))).drew)
          have HQ := Aside0.mk hQ
          clear hcv HB hQ
          rename World => wq
          go_loopg [62] (p) (fun kq v62 w' => ∃ (i : Nat), v62 = .int .i64 (i : Int) ∧ Aside0 (i + kq = p) ∧ Aside0 (((bts (T.extract 0 p ++ { data := #[] })).drop i).all dgt = (bts (T.extract 0 p ++ { data := #[] })).all dgt) ∧ Aside0 (∀ j, j < p → w'.cell? ⟨wq.heap.size, j, none⟩ = some (.int .u8 ((bts (T.extract 0 p ++ { data := #[] })).getD j 0))) ∧ Aside0 (Below w.heap.size w w'))
          case atStart => exact ⟨0, rfl, ⟨Nat.zero_add _⟩, ⟨rfl⟩, hC0, hB0⟩
          case round =>
            clear hC0 hB0
            obtain ⟨i, rfl, HI, HA, HC, HB⟩ := hrel
            have hi := HI.out
            cases gk with
            | zero =>
              have hin : i = p := by omega
              have ha := HA.out
              rw [List.drop_eq_nil_of_le (by rw [bts_len, HQ.out]; omega), List.all_nil] at ha
              have HA2 := Aside0.mk ha
              clear ha
              have b8 : decide ((i : Int) < ((p : Nat) : Int)) = false := decide_eq_false (by omega)
              clear hin
              have hW : (T.extract 0 p).size = p := by rw [ByteArray.size_extract]; omega
              have HW := Aside0.mk hW
              clear hW
              by_cases w1 : 1 ≤ p
              · have b11 : decide ((p : Int) ≥ 1) = true := decide_eq_true (by omega)
                by_cases w2 : p ≤ 6
                · have b12 : decide ((p : Int) ≤ 6) = true := decide_eq_true (by omega)
                  go_wp2
                  refine bodyPost_ret (results_tmp4 rfl _ _ _) rfl ?_
                  refine ⟨?_, HB.out⟩
                  rw [← HR2.out, if_neg (show ¬ (p < T.size ∧ _) from fun h => hp1 h.1), if_neg hp1, ← HA2.out, if_pos rfl, HW.out, decide_eq_true w1, decide_eq_true w2]
                  rfl
                · have b12 : decide ((p : Int) ≤ 6) = false := decide_eq_false (by omega)
                  go_wp2
                  refine bodyPost_ret (results_tmp4 rfl _ _ _) rfl ?_
                  refine ⟨?_, HB.out⟩
                  rw [← HR2.out, if_neg (show ¬ (p < T.size ∧ _) from fun h => hp1 h.1), if_neg hp1, ← HA2.out, if_pos rfl, HW.out, decide_eq_true w1, decide_eq_false w2]
                  rfl
              · have b11 : decide ((p : Int) ≥ 1) = false := decide_eq_false (by omega)
                go_wp2
                all_goals
                  refine bodyPost_ret (results_tmp4 rfl _ _ _) rfl ?_
                  refine ⟨?_, HB.out⟩
                  rw [← HR2.out, if_neg (show ¬ (p < T.size ∧ _) from fun h => hp1 h.1), if_neg hp1, ← HA2.out, if_pos rfl, HW.out, decide_eq_false w1, Bool.false_and]
                  rfl
            | succ k =>
              have hil : i < p := by omega
              have b8 : decide ((i : Int) < ((p : Nat) : Int)) = true := decide_eq_true (by omega)
              have hlen : i < (bts (T.extract 0 p ++ { data := #[] })).length := by rw [bts_len, HQ.out]; exact hil
              have hd : (bts (T.extract 0 p ++ { data := #[] })).drop i = (bts (T.extract 0 p ++ { data := #[] })).getD i 0 :: (bts (T.extract 0 p ++ { data := #[] })).drop (i + 1) := by
                rw [List.drop_eq_getElem_cons hlen, List.getD_eq_getElem?_getD, List.getElem?_eq_getElem hlen]
                rfl
              have ha := HA.out
              rw [hd, List.all_cons] at ha
              have hc := HC.out i hil
              have hr : 0 ≤ (bts (T.extract 0 p ++ { data := #[] })).getD i 0 ∧ (bts (T.extract 0 p ++ { data := #[] })).getD i 0 < 256 := by
                rw [List.getD_eq_getElem?_getD, List.getElem?_eq_getElem hlen]
                simp only [bts, List.getElem_map, Option.getD_some]
                generalize (_ : List UInt8)[i]'_ = u
                have := u.toNat_lt
                omega
              have HA2 := Aside0.mk ha
              clear ha hd
              generalize (bts (T.extract 0 p ++ { data := #[] })).getD i 0 = c at hc hr HA2
              by_cases c1 : c < 48
              · have b9 : decide (c < 48) = true := decide_eq_true c1
                go_wp2
                refine bodyPost_ret (results_tmp4 rfl _ _ _) rfl ?_
                refine ⟨?_, HB.out⟩
                rw [← HR2.out, if_neg (show ¬ (p < T.size ∧ _) from fun h => hp1 h.1), if_neg hp1, ← HA2.out, show dgt c = false by unfold dgt; rw [decide_eq_false (by omega)]; rfl, Bool.false_and, if_neg (by decide)]
                rfl
              · have b9 : decide (c < 48) = false := decide_eq_false c1
                by_cases c2 : c > 57
                · have b10 : decide (57 < c) = true := decide_eq_true c2
                  go_wp2
                  refine bodyPost_ret (results_tmp4 rfl _ _ _) rfl ?_
                  refine ⟨?_, HB.out⟩
                  rw [← HR2.out, if_neg (show ¬ (p < T.size ∧ _) from fun h => hp1 h.1), if_neg hp1, ← HA2.out, show dgt c = false by unfold dgt; rw [decide_eq_false (show ¬ c ≤ 57 by omega), Bool.and_false], Bool.false_and, if_neg (by decide)]
                  rfl
                · have b10 : decide (57 < c) = false := decide_eq_false c2
                  go_wp2
                  go_roundg k
                  case measure => omega
                  case rel =>
                    refine ⟨i + 1, rfl, ⟨by omega⟩, ⟨?_⟩, HC, HB⟩
                    have := HA2.out
                    rw [show dgt c = true by unfold dgt; rw [decide_eq_true (by omega), decide_eq_true (by omega)]; rfl, Bool.true_and] at this
                    exact this
def tillerref01_Form.f (s : ByteArray) : Option (Bool × ByteArray × ByteArray × Bool) := if s.size ≤ 100000 then some (form s) else none
theorem tillerref01_Form.calls (a0 : ByteArray) (r1 : Bool) (r2 r3 : ByteArray) (r4 : Bool) (w : World) (h : tillerref01_Form.f a0 = some (r1, r2, r3, r4)) : Calls Try.prog 35 #[.string a0] w fun e w' => e = .returned (.tuple #[.bool r1, .string r2, .string r3, .bool r4]) ∧ Below w.heap.size w w' := by
  unfold tillerref01_Form.f at h
  split at h
  · rename_i hs
    have h := Option.some.inj h
    have := Form.walk a0 hs w
    rw [h] at this
    exact this
  · cases h
end Go.Proofs.Ytnhapgenebcjmaa.GForm
