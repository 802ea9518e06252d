-- written by this session's program gprint.py
import Derived.Test.YtnhapgenebcjmaaGVx0
import Derived.Test.YtnhapgenebcjmaaWLast
import Derived.Test.YtnhapgenebcjmaaWMore
import Derived.Test.YtnhapgenebcjmaaWWords
namespace Go.Proofs.Ytnhapgenebcjmaa.GV
open Go.RowKit Go.Proofs.YtnhapgenebcjmaaW.PrintWords Go.Proofs.YtnhapgenebcjmaaW.PrintLast Go.Proofs.YtnhapgenebcjmaaW.PrintMore Go.Proofs.Ytnhapgenebcjmaa.GText Go.Proofs.Ytnhapgenebcjmaa.GParse Go.Proofs.Ytnhapgenebcjmaa.GForm
attribute [local go_sem] max2_int min2_int max_two min_two max_three min_three max_four min_four   -- for this text's walks alone
set_option linter.unusedVariables false
set_option linter.unusedSimpArgs false

/-! ### tillerref01_Text: function 27 -/
mutual
def tillerref01_Text.j0 : Nat → Int → ByteArray → Option (ByteArray)
 | 0, _, _ => none
 | k + 1, x3, x4 => tillerref01_Text.l0 k x3 x4 (wrap64 (Int.tdiv x3 65536)) (⟨#[]⟩ : ByteArray)
def tillerref01_Text.l0 : Nat → Int → ByteArray → Int → ByteArray → Option (ByteArray)
 | 0, _, _, _, _ => none
 | k + 1, x3, x4, x5, x6 => if 0 ≤ (Int.tmod x5 10) then (if (Int.tmod x5 10) ≤ (wrap64 ((Int.tmod x5 10) + 1)) then (if (wrap64 ((Int.tmod x5 10) + 1)) ≤ 10 then (if ((⟨#[48, 49, 50, 51, 52, 53, 54, 55, 56, 57]⟩ : ByteArray).extract ((Int.tmod x5 10) : Int).toNat ((wrap64 ((Int.tmod x5 10) + 1)) : Int).toNat).size + x6.size ≤ 9223372036854775807 then (if (wrap64 (Int.tdiv x5 10)) = 0 then (if x4.size + (((⟨#[48, 49, 50, 51, 52, 53, 54, 55, 56, 57]⟩ : ByteArray).extract ((Int.tmod x5 10) : Int).toNat ((wrap64 ((Int.tmod x5 10) + 1)) : Int).toNat) ++ x6).size ≤ 9223372036854775807 then (if (Int.tmod x3 65536) > 0 then (if (x4 ++ (((⟨#[48, 49, 50, 51, 52, 53, 54, 55, 56, 57]⟩ : ByteArray).extract ((Int.tmod x5 10) : Int).toNat ((wrap64 ((Int.tmod x5 10) + 1)) : Int).toNat) ++ x6)).size + 1 ≤ 9223372036854775807 then (tillerref01_Text.j2 k ((x4 ++ (((⟨#[48, 49, 50, 51, 52, 53, 54, 55, 56, 57]⟩ : ByteArray).extract ((Int.tmod x5 10) : Int).toNat ((wrap64 ((Int.tmod x5 10) + 1)) : Int).toNat) ++ x6)) ++ (⟨#[46]⟩ : ByteArray)) (Int.tmod x3 65536)) else (none)) else (tillerref01_Text.j2 k (x4 ++ (((⟨#[48, 49, 50, 51, 52, 53, 54, 55, 56, 57]⟩ : ByteArray).extract ((Int.tmod x5 10) : Int).toNat ((wrap64 ((Int.tmod x5 10) + 1)) : Int).toNat) ++ x6)) (Int.tmod x3 65536))) else (none)) else (tillerref01_Text.l0 k x3 x4 (wrap64 (Int.tdiv x5 10)) (((⟨#[48, 49, 50, 51, 52, 53, 54, 55, 56, 57]⟩ : ByteArray).extract ((Int.tmod x5 10) : Int).toNat ((wrap64 ((Int.tmod x5 10) + 1)) : Int).toNat) ++ x6))) else (none)) else (none)) else (none)) else (none)
def tillerref01_Text.j2 : Nat → ByteArray → Int → Option (ByteArray)
 | 0, _, _ => none
 | k + 1, x4, x7 => tillerref01_Text.l1 k x4 x7
def tillerref01_Text.l1 : Nat → ByteArray → Int → Option (ByteArray)
 | 0, _, _ => none
 | k + 1, x4, x7 => if x7 > 0 then (if 0 ≤ (wrap64 (Int.tdiv (wrap64 (x7 * 10)) 65536)) then (if (wrap64 (Int.tdiv (wrap64 (x7 * 10)) 65536)) ≤ (wrap64 ((wrap64 (Int.tdiv (wrap64 (x7 * 10)) 65536)) + 1)) then (if (wrap64 ((wrap64 (Int.tdiv (wrap64 (x7 * 10)) 65536)) + 1)) ≤ 10 then (if x4.size + ((⟨#[48, 49, 50, 51, 52, 53, 54, 55, 56, 57]⟩ : ByteArray).extract ((wrap64 (Int.tdiv (wrap64 (x7 * 10)) 65536)) : Int).toNat ((wrap64 ((wrap64 (Int.tdiv (wrap64 (x7 * 10)) 65536)) + 1)) : Int).toNat).size ≤ 9223372036854775807 then (tillerref01_Text.l1 k (x4 ++ ((⟨#[48, 49, 50, 51, 52, 53, 54, 55, 56, 57]⟩ : ByteArray).extract ((wrap64 (Int.tdiv (wrap64 (x7 * 10)) 65536)) : Int).toNat ((wrap64 ((wrap64 (Int.tdiv (wrap64 (x7 * 10)) 65536)) + 1)) : Int).toNat)) (Int.tmod (wrap64 (x7 * 10)) 65536)) else (none)) else (none)) else (none)) else (none)) else (some x4)
end
def tillerref01_Text.f (k : Nat) (a0 : Int) : Option (ByteArray) := if (wrap64 (a0)) < 0 then (tillerref01_Text.j0 k (wrap64 (-(wrap64 (a0)))) (⟨#[45]⟩ : ByteArray)) else (tillerref01_Text.j0 k (wrap64 (a0)) (⟨#[]⟩ : ByteArray))
theorem tillerref01_Text.mono_l : ∀ k, (∀ y0 y1, LeO (tillerref01_Text.j0 k y0 y1) (tillerref01_Text.j0 (k + 1) y0 y1)) ∧ (∀ y0 y1 y2 y3, LeO (tillerref01_Text.l0 k y0 y1 y2 y3) (tillerref01_Text.l0 (k + 1) y0 y1 y2 y3)) ∧ (∀ y0 y1, LeO (tillerref01_Text.j2 k y0 y1) (tillerref01_Text.j2 (k + 1) y0 y1)) ∧ (∀ y0 y1, LeO (tillerref01_Text.l1 k y0 y1) (tillerref01_Text.l1 (k + 1) y0 y1))
 | 0 => ⟨fun _ _ r h => by simp [tillerref01_Text.j0] at h, fun _ _ _ _ r h => by simp [tillerref01_Text.l0] at h, fun _ _ r h => by simp [tillerref01_Text.j2] at h, fun _ _ r h => by simp [tillerref01_Text.l1] at h⟩
 | k + 1 => by
  obtain ⟨ih0, ih1, ih2, ih3⟩ := tillerref01_Text.mono_l k
  refine ⟨?_, ?_, ?_, ?_⟩
  ·intro y0 y1
   unfold tillerref01_Text.j0
   repeat' first
   | (with_reducible exact ih0 _ _)
   | (with_reducible exact ih1 _ _ _ _)
   | (with_reducible exact ih2 _ _)
   | (with_reducible exact ih3 _ _)
   | (with_reducible exact LeO.refl _)
   | (with_reducible exact LeO.none _)
   | (with_reducible refine LeO.ite ?_ ?_)
   | (with_reducible refine LeO.bind ?_ (fun _ => ?_))
   | exact ih0 _ _
   | exact ih1 _ _ _ _
   | exact ih2 _ _
   | exact ih3 _ _
   | exact LeO.none _
   | refine LeO.ite ?_ ?_
   | refine LeO.bind ?_ (fun _ => ?_)
  ·intro y0 y1 y2 y3
   unfold tillerref01_Text.l0
   repeat' first
   | (with_reducible exact ih0 _ _)
   | (with_reducible exact ih1 _ _ _ _)
   | (with_reducible exact ih2 _ _)
   | (with_reducible exact ih3 _ _)
   | (with_reducible exact LeO.refl _)
   | (with_reducible exact LeO.none _)
   | (with_reducible refine LeO.ite ?_ ?_)
   | (with_reducible refine LeO.bind ?_ (fun _ => ?_))
   | exact ih0 _ _
   | exact ih1 _ _ _ _
   | exact ih2 _ _
   | exact ih3 _ _
   | exact LeO.none _
   | refine LeO.ite ?_ ?_
   | refine LeO.bind ?_ (fun _ => ?_)
  ·intro y0 y1
   unfold tillerref01_Text.j2
   repeat' first
   | (with_reducible exact ih0 _ _)
   | (with_reducible exact ih1 _ _ _ _)
   | (with_reducible exact ih2 _ _)
   | (with_reducible exact ih3 _ _)
   | (with_reducible exact LeO.refl _)
   | (with_reducible exact LeO.none _)
   | (with_reducible refine LeO.ite ?_ ?_)
   | (with_reducible refine LeO.bind ?_ (fun _ => ?_))
   | exact ih0 _ _
   | exact ih1 _ _ _ _
   | exact ih2 _ _
   | exact ih3 _ _
   | exact LeO.none _
   | refine LeO.ite ?_ ?_
   | refine LeO.bind ?_ (fun _ => ?_)
  ·intro y0 y1
   unfold tillerref01_Text.l1
   repeat' first
   | (with_reducible exact ih0 _ _)
   | (with_reducible exact ih1 _ _ _ _)
   | (with_reducible exact ih2 _ _)
   | (with_reducible exact ih3 _ _)
   | (with_reducible exact LeO.refl _)
   | (with_reducible exact LeO.none _)
   | (with_reducible refine LeO.ite ?_ ?_)
   | (with_reducible refine LeO.bind ?_ (fun _ => ?_))
   | exact ih0 _ _
   | exact ih1 _ _ _ _
   | exact ih2 _ _
   | exact ih3 _ _
   | exact LeO.none _
   | refine LeO.ite ?_ ?_
   | refine LeO.bind ?_ (fun _ => ?_)
theorem tillerref01_Text.mono : ∀ a0 k, LeO (tillerref01_Text.f k a0) (tillerref01_Text.f (k + 1) a0) := by
 intro a0 k
 obtain ⟨ih0, ih1, ih2, ih3⟩ := tillerref01_Text.mono_l k
 unfold tillerref01_Text.f
 repeat' first
   | (with_reducible exact ih0 _ _)
   | (with_reducible exact ih1 _ _ _ _)
   | (with_reducible exact ih2 _ _)
   | (with_reducible exact ih3 _ _)
   | (with_reducible exact LeO.refl _)
   | (with_reducible exact LeO.none _)
   | (with_reducible refine LeO.ite ?_ ?_)
   | (with_reducible refine LeO.bind ?_ (fun _ => ?_))
   | exact ih0 _ _
   | exact ih1 _ _ _ _
   | exact ih2 _ _
   | exact ih3 _ _
   | exact LeO.none _
   | refine LeO.ite ?_ ?_
   | refine LeO.bind ?_ (fun _ => ?_)
set_option maxHeartbeats 8000000 in
set_option maxRecDepth 100000 in
theorem tillerref01_Text.calls (k : Nat) (a0 : Int) (r : ByteArray) (w : World) (h : tillerref01_Text.f k a0 = some r) :
  Calls Try.prog 27 #[.int .i32 a0] w fun e w' => e = .returned (.string r) ∧ Drawn0 w w' := by
 have H : (if (wrap64 (a0)) < 0 then (tillerref01_Text.j0 k (wrap64 (-(wrap64 (a0)))) (⟨#[45]⟩ : ByteArray)) else (tillerref01_Text.j0 k (wrap64 (a0)) (⟨#[]⟩ : ByteArray))) = some r := h
 clear h
 have HC2 := Aside0.mk H
 clear H
 go_enter Try.func27, Try.ntmps27
 go_upto_if 11 with (fail)
 go_cut [3, 4] (fun v3 v4 wc => ∃ (kq : Nat) (x3_1 : Int) (x4_1 : ByteArray), v3 = .int .i64 x3_1 ∧ v4 = .string x4_1 ∧ Aside0 (tillerref01_Text.j0 kq x3_1 x4_1 = some r) ∧ Aside0 (kq ≤ k) ∧ Drawn0 w wc)
 case first =>
  have H := HC2.out
  clear HC2
  by_cases c3 : (wrap64 (a0)) < 0
  ·rw [if_pos c3] at H
   have c3b0 : decide ((wrap64 (a0)) < 0) = true := decide_eq_true c3
   clear c3
   (first | rw [c3b0] | (simp only [i64_w, i32_w]; rw [c3b0]) | skip)
   have H' := Aside0.mk H
   clear H
   go_wp2
   go_meet
   case rel => exact ⟨_, (wrap64 (-(wrap64 (a0)))), ((⟨#[45]⟩ : ByteArray)), (by first | rfl | (simp; done) | (simp [*]; done)), (by first | rfl | (simp; done) | (simp [*]; done)), H', ⟨by first | omega | exact Nat.le_refl _⟩, by repeat (first | exact Drawn0.refl _ | apply Drawn0.step)⟩
  ·rw [if_neg c3] at H
   have c3b0 : decide ((wrap64 (a0)) < 0) = false := decide_eq_false c3
   clear c3
   (first | rw [c3b0] | (simp only [i64_w, i32_w]; rw [c3b0]) | skip)
   have H' := Aside0.mk H
   clear H
   go_wp2
   go_meet
   case rel => exact ⟨_, (wrap64 (a0)), ((⟨#[]⟩ : ByteArray)), (by first | rfl | (simp; done) | (simp [*]; done)), (by first | rfl | (simp; done) | (simp [*]; done)), H', ⟨by first | omega | exact Nat.le_refl _⟩, by repeat (first | exact Drawn0.refl _ | apply Drawn0.step)⟩
 case rest =>
  clear HC2
  try clear c2
  try clear p2
  try clear c3
  try clear c3b0
  obtain ⟨kq, x3_1, x4_1, rfl, rfl, HA, HJ1, ⟨mc1, rfl⟩⟩ := hcut
  cases kq with
  | zero => exact absurd HA.out (by simp [tillerref01_Text.j0])
  | succ kj1 =>
   have H := HA.out
   clear HA
   simp only [tillerref01_Text.j0] at H
   have H' := Aside0.mk H
   clear H
   go_wp2
   go_loopg [5, 6] kj1 (fun kq v5 v6 w' => ∃ (x5_2 : Int) (x6_2 : ByteArray), v5 = .int .i64 x5_2 ∧ v6 = .string x6_2 ∧ Aside0 (tillerref01_Text.l0 kq x3_1 x4_1 x5_2 x6_2 = some r) ∧ Aside0 (kq ≤ kj1) ∧ Drawn0 w w')
   case atStart => exact ⟨(wrap64 (Int.tdiv x3_1 65536)), ((⟨#[]⟩ : ByteArray)), (by first | rfl | (simp; done) | (simp [*]; done)), (by first | rfl | (simp; done) | (simp [*]; done)), H', ⟨Nat.le_refl _⟩, by repeat (first | exact Drawn0.refl _ | apply Drawn0.step)⟩
   case round =>
    clear H'
    try clear c1
    try clear c2
    try clear p2
    try clear c3
    try clear c3b0
    try clear p2
    obtain ⟨x5_2, x6_2, rfl, rfl, HA, HK2, ⟨m2, rfl⟩⟩ := hrel
    cases gk with
    | zero => exact absurd HA.out (by simp [tillerref01_Text.l0])
    | succ k2 =>
     have H := HA.out
     clear HA
     simp only [tillerref01_Text.l0] at H
     obtain ⟨ji4, hji4⟩ : ∃ j_ : Int, (Int.tmod x5_2 10) = j_ := ⟨_, rfl⟩
     replace H : (if 0 ≤ (ji4) then (if (ji4) ≤ (wrap64 ((ji4) + 1)) then (if (wrap64 ((ji4) + 1)) ≤ 10 then (if ((⟨#[48, 49, 50, 51, 52, 53, 54, 55, 56, 57]⟩ : ByteArray).extract ((ji4) : Int).toNat ((wrap64 ((ji4) + 1)) : Int).toNat).size + x6_2.size ≤ 9223372036854775807 then (if (wrap64 (Int.tdiv x5_2 10)) = 0 then (if x4_1.size + (((⟨#[48, 49, 50, 51, 52, 53, 54, 55, 56, 57]⟩ : ByteArray).extract ((ji4) : Int).toNat ((wrap64 ((ji4) + 1)) : Int).toNat) ++ x6_2).size ≤ 9223372036854775807 then (if (Int.tmod x3_1 65536) > 0 then (if (x4_1 ++ (((⟨#[48, 49, 50, 51, 52, 53, 54, 55, 56, 57]⟩ : ByteArray).extract ((ji4) : Int).toNat ((wrap64 ((ji4) + 1)) : Int).toNat) ++ x6_2)).size + 1 ≤ 9223372036854775807 then (tillerref01_Text.j2 k2 ((x4_1 ++ (((⟨#[48, 49, 50, 51, 52, 53, 54, 55, 56, 57]⟩ : ByteArray).extract ((ji4) : Int).toNat ((wrap64 ((ji4) + 1)) : Int).toNat) ++ x6_2)) ++ (⟨#[46]⟩ : ByteArray)) (Int.tmod x3_1 65536)) else (none)) else (tillerref01_Text.j2 k2 (x4_1 ++ (((⟨#[48, 49, 50, 51, 52, 53, 54, 55, 56, 57]⟩ : ByteArray).extract ((ji4) : Int).toNat ((wrap64 ((ji4) + 1)) : Int).toNat) ++ x6_2)) (Int.tmod x3_1 65536))) else (none)) else (tillerref01_Text.l0 k2 x3_1 x4_1 (wrap64 (Int.tdiv x5_2 10)) (((⟨#[48, 49, 50, 51, 52, 53, 54, 55, 56, 57]⟩ : ByteArray).extract ((ji4) : Int).toNat ((wrap64 ((ji4) + 1)) : Int).toNat) ++ x6_2))) else (none)) else (none)) else (none)) else (none)) = some r := by first | (rw [hji4] at H; exact H) | (simp only [hji4] at H ⊢; exact H)
     by_cases c5 : 0 ≤ (ji4)
     ·rw [if_pos c5] at H
      have c5b0 := eq_true c5
      have c5b1 : decide (0 ≤ (ji4)) = true := decide_eq_true c5
      clear c5
      by_cases c6 : (ji4) ≤ (wrap64 ((ji4) + 1))
      ·rw [if_pos c6] at H
       have c6b0 := eq_true c6
       have c6b1 : decide ((ji4) ≤ (wrap64 ((ji4) + 1))) = true := decide_eq_true c6
       by_cases c7 : (wrap64 ((ji4) + 1)) ≤ 10
       ·rw [if_pos c7] at H
        have c7b0 := eq_true c7
        have c7b1 : decide ((wrap64 ((ji4) + 1)) ≤ 10) = true := decide_eq_true c7
        by_cases c8 : ((⟨#[48, 49, 50, 51, 52, 53, 54, 55, 56, 57]⟩ : ByteArray).extract ((ji4) : Int).toNat ((wrap64 ((ji4) + 1)) : Int).toNat).size + x6_2.size ≤ 9223372036854775807
        ·rw [if_pos c8] at H
         have c8b0 := eq_true c8
         have c8b1 : decide (((⟨#[48, 49, 50, 51, 52, 53, 54, 55, 56, 57]⟩ : ByteArray).extract ((ji4) : Int).toNat ((wrap64 ((ji4) + 1)) : Int).toNat).size + x6_2.size ≤ 9223372036854775807) = true := decide_eq_true c8
         try have c8b2 : (9223372036854775807 < ((⟨#[48, 49, 50, 51, 52, 53, 54, 55, 56, 57]⟩ : ByteArray).extract ((ji4) : Int).toNat ((wrap64 ((ji4) + 1)) : Int).toNat).size + x6_2.size) = False := eq_false (Nat.not_lt.2 c8)
         by_cases c9 : (wrap64 (Int.tdiv x5_2 10)) = 0
         ·rw [if_pos c9] at H
          have c9b0 : ((wrap64 (Int.tdiv x5_2 10)) == 0) = true := beq_iff_eq.mpr c9
          have c9b1 : ((wrap64 (Int.tdiv x5_2 10)) != 0) = false := bne_eq_false_iff_eq.mpr c9
          clear c9
          by_cases c10 : x4_1.size + (((⟨#[48, 49, 50, 51, 52, 53, 54, 55, 56, 57]⟩ : ByteArray).extract ((ji4) : Int).toNat ((wrap64 ((ji4) + 1)) : Int).toNat) ++ x6_2).size ≤ 9223372036854775807
          ·rw [if_pos c10] at H
           have c10b0 := eq_true c10
           have c10b1 : decide (x4_1.size + (((⟨#[48, 49, 50, 51, 52, 53, 54, 55, 56, 57]⟩ : ByteArray).extract ((ji4) : Int).toNat ((wrap64 ((ji4) + 1)) : Int).toNat) ++ x6_2).size ≤ 9223372036854775807) = true := decide_eq_true c10
           try have c10b2 : (9223372036854775807 < x4_1.size + (((⟨#[48, 49, 50, 51, 52, 53, 54, 55, 56, 57]⟩ : ByteArray).extract ((ji4) : Int).toNat ((wrap64 ((ji4) + 1)) : Int).toNat) ++ x6_2).size) = False := eq_false (Nat.not_lt.2 c10)
           have HC11 := Aside0.mk H
           clear H
           go_upto_if 34 with (fail)
           go_cut [4] (fun v4 wc => ∃ (kq : Nat) (x4_10 : ByteArray), v4 = .string x4_10 ∧ Aside0 (tillerref01_Text.j2 kq x4_10 (Int.tmod x3_1 65536) = some r) ∧ Aside0 (kq ≤ k2) ∧ Drawn0 w wc)
           case first =>
            have H := HC11.out
            clear HC11
            by_cases c12 : (Int.tmod x3_1 65536) > 0
            ·rw [if_pos c12] at H
             have c12b0 : decide (0 < (Int.tmod x3_1 65536)) = true := decide_eq_true c12
             clear c12
             (first | rw [c12b0] | (simp only [i64_w, i32_w]; rw [c12b0]) | skip)
             by_cases c13 : (x4_1 ++ (((⟨#[48, 49, 50, 51, 52, 53, 54, 55, 56, 57]⟩ : ByteArray).extract ((ji4) : Int).toNat ((wrap64 ((ji4) + 1)) : Int).toNat) ++ x6_2)).size + 1 ≤ 9223372036854775807
             ·rw [if_pos c13] at H
              have c13b0 := eq_true c13
              have c13b1 : decide ((x4_1 ++ (((⟨#[48, 49, 50, 51, 52, 53, 54, 55, 56, 57]⟩ : ByteArray).extract ((ji4) : Int).toNat ((wrap64 ((ji4) + 1)) : Int).toNat) ++ x6_2)).size + 1 ≤ 9223372036854775807) = true := decide_eq_true c13
              try have c13b2 : (9223372036854775807 < (x4_1 ++ (((⟨#[48, 49, 50, 51, 52, 53, 54, 55, 56, 57]⟩ : ByteArray).extract ((ji4) : Int).toNat ((wrap64 ((ji4) + 1)) : Int).toNat) ++ x6_2)).size + 1) = False := eq_false (Nat.not_lt.2 c13)
              have H' := Aside0.mk H
              clear H
              go_wp2
              all_goals (try (exfalso; rename_i hov_; have h_ := c13b2; have h10_ : (⟨#[48, 49, 50, 51, 52, 53, 54, 55, 56, 57]⟩ : ByteArray).size = 10 := rfl; have q_ : wrap64 (ji4 + 1) ≤ 10 := ofd_; simp [h10_] at h_; omega))
              go_meet
              case rel => exact ⟨_, ((x4_1 ++ (((⟨#[48, 49, 50, 51, 52, 53, 54, 55, 56, 57]⟩ : ByteArray).extract ((ji4) : Int).toNat ((wrap64 ((ji4) + 1)) : Int).toNat) ++ x6_2)) ++ (⟨#[46]⟩ : ByteArray)), (by first | rfl | (simp; done) | (simp only [← hji4] <;> (first | rfl | simp)) | (simp [*]; done)), H', ⟨by have := HJ1.out; have := HK2.out; first | omega | exact Nat.le_refl _⟩, by repeat (first | exact Drawn0.refl _ | apply Drawn0.step)⟩
             ·rw [if_neg c13] at H
              exact absurd H (by simp)
            ·rw [if_neg c12] at H
             have c12b0 : decide (0 < (Int.tmod x3_1 65536)) = false := decide_eq_false c12
             clear c12
             (first | rw [c12b0] | (simp only [i64_w, i32_w]; rw [c12b0]) | skip)
             have H' := Aside0.mk H
             clear H
             go_wp2
             all_goals (try (exfalso; rename_i hov_; have h_ := c10b2; have h10_ : (⟨#[48, 49, 50, 51, 52, 53, 54, 55, 56, 57]⟩ : ByteArray).size = 10 := rfl; have q_ : wrap64 (ji4 + 1) ≤ 10 := ofd_; simp [h10_] at h_; omega))
             go_meet
             case rel => exact ⟨_, (x4_1 ++ (((⟨#[48, 49, 50, 51, 52, 53, 54, 55, 56, 57]⟩ : ByteArray).extract ((ji4) : Int).toNat ((wrap64 ((ji4) + 1)) : Int).toNat) ++ x6_2)), (by first | rfl | (simp; done) | (simp only [← hji4] <;> (first | rfl | simp)) | (simp [*]; done)), H', ⟨by have := HJ1.out; have := HK2.out; first | omega | exact Nat.le_refl _⟩, by repeat (first | exact Drawn0.refl _ | apply Drawn0.step)⟩
           case rest =>
            clear HC11
            try clear c1
            try clear c2
            try clear p2
            try clear c3
            try clear c3b0
            try clear c5
            try clear c5b0
            try clear c5b1
            try clear c6
            try clear c6b0
            try clear c6b1
            try clear p6
            try clear c7
            try clear c7b0
            try clear c7b1
            try clear c8
            try clear c8b0
            try clear c8b1
            try clear c8b2
            try clear c9
            try clear c9b0
            try clear c9b1
            try clear c10
            try clear c10b0
            try clear c10b1
            try clear c10b2
            try clear c12
            try clear c12b0
            try clear c13
            try clear c13b0
            try clear c13b1
            try clear c13b2
            try clear p2
            obtain ⟨kq, x4_10, rfl, HA, HJ10, ⟨mc10, rfl⟩⟩ := hcut
            cases kq with
            | zero => exact absurd HA.out (by simp [tillerref01_Text.j2])
            | succ kj10 =>
             have H := HA.out
             clear HA
             simp only [tillerref01_Text.j2] at H
             have H' := Aside0.mk H
             clear H
             go_wp2
             all_goals (try (exfalso; rename_i hov_; have h_ := c10b2; have h10_ : (⟨#[48, 49, 50, 51, 52, 53, 54, 55, 56, 57]⟩ : ByteArray).size = 10 := rfl; have q_ : wrap64 (ji4 + 1) ≤ 10 := ofd_; simp [h10_] at h_; omega))
             go_loopg [4, 7] kj10 (fun kq v4 v7 w' => ∃ (x4_4 : ByteArray) (x7_4 : Int), v4 = .string x4_4 ∧ v7 = .int .i64 x7_4 ∧ Aside0 (tillerref01_Text.l1 kq x4_4 x7_4 = some r) ∧ Aside0 (kq ≤ kj10) ∧ Drawn0 w w')
             case atStart => exact ⟨(x4_10), ((Int.tmod x3_1 65536)), (by first | rfl | (simp; done) | (simp [*]; done)), (by first | rfl | (simp; done) | (simp [*]; done)), H', ⟨Nat.le_refl _⟩, by repeat (first | exact Drawn0.refl _ | apply Drawn0.step)⟩
             case round =>
              clear H'
              try clear c1
              try clear c2
              try clear p2
              try clear c3
              try clear c3b0
              try clear c5
              try clear c5b0
              try clear c5b1
              try clear c6
              try clear c6b0
              try clear c6b1
              try clear p6
              try clear c7
              try clear c7b0
              try clear c7b1
              try clear c8
              try clear c8b0
              try clear c8b1
              try clear c8b2
              try clear c9
              try clear c9b0
              try clear c9b1
              try clear c10
              try clear c10b0
              try clear c10b1
              try clear c10b2
              try clear c12
              try clear c12b0
              try clear c13
              try clear c13b0
              try clear c13b1
              try clear c13b2
              try clear p2
              try clear p6
              obtain ⟨x4_4, x7_4, rfl, rfl, HA, HK4, ⟨m4, rfl⟩⟩ := hrel
              cases gk with
              | zero => exact absurd HA.out (by simp [tillerref01_Text.l1])
              | succ k4 =>
               have H := HA.out
               clear HA
               simp only [tillerref01_Text.l1] at H
               by_cases c14 : x7_4 > 0
               ·rw [if_pos c14] at H
                have c14b0 : decide (0 < x7_4) = true := decide_eq_true c14
                clear c14
                obtain ⟨ji15, hji15⟩ : ∃ j_ : Int, (wrap64 (Int.tdiv (wrap64 (x7_4 * 10)) 65536)) = j_ := ⟨_, rfl⟩
                replace H : (if 0 ≤ (ji15) then (if (ji15) ≤ (wrap64 ((ji15) + 1)) then (if (wrap64 ((ji15) + 1)) ≤ 10 then (if x4_4.size + ((⟨#[48, 49, 50, 51, 52, 53, 54, 55, 56, 57]⟩ : ByteArray).extract ((ji15) : Int).toNat ((wrap64 ((ji15) + 1)) : Int).toNat).size ≤ 9223372036854775807 then (tillerref01_Text.l1 k4 (x4_4 ++ ((⟨#[48, 49, 50, 51, 52, 53, 54, 55, 56, 57]⟩ : ByteArray).extract ((ji15) : Int).toNat ((wrap64 ((ji15) + 1)) : Int).toNat)) (Int.tmod (wrap64 (x7_4 * 10)) 65536)) else (none)) else (none)) else (none)) else (none)) = some r := by first | (rw [hji15] at H; exact H) | (simp only [hji15] at H ⊢; exact H)
                have hji15w : (IntKind.i64.wrap (Int.tdiv (wrap64 (x7_4 * 10)) 65536)) = ji15 := (i64_w _).trans hji15
                by_cases c16 : 0 ≤ (ji15)
                ·rw [if_pos c16] at H
                 have c16b0 := eq_true c16
                 have c16b1 : decide (0 ≤ (ji15)) = true := decide_eq_true c16
                 clear c16
                 by_cases c17 : (ji15) ≤ (wrap64 ((ji15) + 1))
                 ·rw [if_pos c17] at H
                  have c17b0 := eq_true c17
                  have c17b1 : decide ((ji15) ≤ (wrap64 ((ji15) + 1))) = true := decide_eq_true c17
                  by_cases c18 : (wrap64 ((ji15) + 1)) ≤ 10
                  ·rw [if_pos c18] at H
                   have c18b0 := eq_true c18
                   have c18b1 : decide ((wrap64 ((ji15) + 1)) ≤ 10) = true := decide_eq_true c18
                   by_cases c19 : x4_4.size + ((⟨#[48, 49, 50, 51, 52, 53, 54, 55, 56, 57]⟩ : ByteArray).extract ((ji15) : Int).toNat ((wrap64 ((ji15) + 1)) : Int).toNat).size ≤ 9223372036854775807
                   ·rw [if_pos c19] at H
                    have c19b0 := eq_true c19
                    have c19b1 : decide (x4_4.size + ((⟨#[48, 49, 50, 51, 52, 53, 54, 55, 56, 57]⟩ : ByteArray).extract ((ji15) : Int).toNat ((wrap64 ((ji15) + 1)) : Int).toNat).size ≤ 9223372036854775807) = true := decide_eq_true c19
                    try have c19b2 : (9223372036854775807 < x4_4.size + ((⟨#[48, 49, 50, 51, 52, 53, 54, 55, 56, 57]⟩ : ByteArray).extract ((ji15) : Int).toNat ((wrap64 ((ji15) + 1)) : Int).toNat).size) = False := eq_false (Nat.not_lt.2 c19)
                    have H' := Aside0.mk H
                    clear H
                    go_wp2
                    all_goals (try (exfalso; rename_i hov_; have h_ := c19b2; have h10_ : (⟨#[48, 49, 50, 51, 52, 53, 54, 55, 56, 57]⟩ : ByteArray).size = 10 := rfl; have q_ : wrap64 (ji4 + 1) ≤ 10 := ofd_; simp [h10_] at h_; omega))
                    go_roundg k4
                    case measure => have := HJ1.out; have := HK2.out; have := HJ10.out; have := HK4.out; omega
                    case rel => exact ⟨(x4_4 ++ ((⟨#[48, 49, 50, 51, 52, 53, 54, 55, 56, 57]⟩ : ByteArray).extract ((ji15) : Int).toNat ((wrap64 ((ji15) + 1)) : Int).toNat)), (Int.tmod (wrap64 (x7_4 * 10)) 65536), (by first | rfl | (simp; done) | (simp only [← hji15] <;> (first | rfl | simp)) | (simp [*]; done)), (by first | rfl | (simp; done) | (simp [*]; done)), H', ⟨by have := HJ1.out; have := HK2.out; have := HJ10.out; have := HK4.out; omega⟩, by repeat (first | exact Drawn0.refl _ | apply Drawn0.step)⟩
                   ·rw [if_neg c19] at H
                    exact absurd H (by simp)
                  ·rw [if_neg c18] at H
                   exact absurd H (by simp)
                 ·rw [if_neg c17] at H
                  exact absurd H (by simp)
                ·rw [if_neg c16] at H
                 exact absurd H (by simp)
               ·rw [if_neg c14] at H
                have c14b0 : decide (0 < x7_4) = false := decide_eq_false c14
                clear c14
                obtain rfl := Option.some.inj H
                go_wp2
                all_goals (try (exfalso; rename_i hov_; have h_ := c10b2; have h10_ : (⟨#[48, 49, 50, 51, 52, 53, 54, 55, 56, 57]⟩ : ByteArray).size = 10 := rfl; have q_ : wrap64 (ji4 + 1) ≤ 10 := ofd_; simp [h10_] at h_; omega))
                go_ret
                exact ⟨by first | rfl | (simp; done) | (simp only [← hji4] <;> (first | rfl | simp)) | (simp [*]; done), by repeat (first | exact Drawn0.refl _ | apply Drawn0.step)⟩
          ·rw [if_neg c10] at H
           exact absurd H (by simp)
         ·rw [if_neg c9] at H
          have c9b0 : ((wrap64 (Int.tdiv x5_2 10)) == 0) = false := beq_eq_false_iff_ne.mpr c9
          have c9b1 : ((wrap64 (Int.tdiv x5_2 10)) != 0) = true := bne_iff_ne.mpr c9
          have H' := Aside0.mk H
          clear H
          go_wp2
          all_goals (try (exfalso; rename_i hov_; have h_ := c8b2; have h10_ : (⟨#[48, 49, 50, 51, 52, 53, 54, 55, 56, 57]⟩ : ByteArray).size = 10 := rfl; have q_ : wrap64 (ji4 + 1) ≤ 10 := ofd_; simp [h10_] at h_; omega))
          go_roundg k2
          case measure => have := HJ1.out; have := HK2.out; omega
          case rel => exact ⟨(wrap64 (Int.tdiv x5_2 10)), (((⟨#[48, 49, 50, 51, 52, 53, 54, 55, 56, 57]⟩ : ByteArray).extract ((ji4) : Int).toNat ((wrap64 ((ji4) + 1)) : Int).toNat) ++ x6_2), (by first | rfl | (simp; done) | (simp [*]; done)), (by first | rfl | (simp; done) | (simp only [← hji4] <;> (first | rfl | simp)) | (simp [*]; done)), H', ⟨by have := HJ1.out; have := HK2.out; omega⟩, by repeat (first | exact Drawn0.refl _ | apply Drawn0.step)⟩
        ·rw [if_neg c8] at H
         exact absurd H (by simp)
       ·rw [if_neg c7] at H
        exact absurd H (by simp)
      ·rw [if_neg c6] at H
       exact absurd H (by simp)
     ·rw [if_neg c5] at H
      exact absurd H (by simp)

end Go.Proofs.Ytnhapgenebcjmaa.GV
