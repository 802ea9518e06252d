-- written by this session's program gprint.py
import Derived.Test.YtnhapgenebcjmaaGQx0
import Derived.Test.YtnhapgenebcjmaaGQx1
import Derived.Test.YtnhapgenebcjmaaGQx2
import Derived.Test.YtnhapgenebcjmaaWLast
import Derived.Test.YtnhapgenebcjmaaWMore
import Derived.Test.YtnhapgenebcjmaaWWords
namespace Go.Proofs.Ytnhapgenebcjmaa.GQ
open Go.RowKit Go.Proofs.YtnhapgenebcjmaaW.PrintWords Go.Proofs.YtnhapgenebcjmaaW.PrintLast Go.Proofs.YtnhapgenebcjmaaW.PrintMore Go.Proofs.Ytnhapgenebcjmaa.GText
attribute [local go_sem] max2_int min2_int max_two min_two max_three min_three max_four min_four   -- for this text's walks alone
set_option linter.unusedVariables false
set_option linter.unusedSimpArgs false

/-! ### tillerlaw01_FixSums: function 6 -/
mutual
def tillerlaw01_FixSums.l0 : Nat → Int → Int → Int → Int → Int → Option (Bool)
 | 0, _, _, _, _, _ => none
 | k + 1, x0, x1, x2, x3, x9 => if (wrap64 (x9 * 65536)) > (wrap64 (x0)) then (tillerlaw01_FixSums.l0 k x0 x1 x2 x3 (wrap64 (x9 - 1))) else (tillerlaw01_FixSums.l1 k x0 x1 x2 x3 x9)
def tillerlaw01_FixSums.l1 : Nat → Int → Int → Int → Int → Int → Option (Bool)
 | 0, _, _, _, _, _ => none
 | k + 1, x0, x1, x2, x3, x9 => if (wrap64 ((wrap64 (x9 + 1)) * 65536)) ≤ (wrap64 (x0)) then (tillerlaw01_FixSums.l1 k x0 x1 x2 x3 (wrap64 (x9 + 1))) else (if x3 > 65536 then (tillerlaw01_FixSums.j2 k x0 x1 x2 x3 x9 65536) else (tillerlaw01_FixSums.j2 k x0 x1 x2 x3 x9 x3))
def tillerlaw01_FixSums.j2 : Nat → Int → Int → Int → Int → Int → Int → Option (Bool)
 | 0, _, _, _, _, _, _ => none
 | k + 1, x0, x1, x2, x3, x9, x10 => if x3 < (-65536) then (tillerlaw01_FixSums.j3 k x0 x1 x2 x3 x9 (-65536)) else (tillerlaw01_FixSums.j3 k x0 x1 x2 x3 x9 x10)
def tillerlaw01_FixSums.j3 : Nat → Int → Int → Int → Int → Int → Int → Option (Bool)
 | 0, _, _, _, _, _, _ => none
 | k + 1, x0, x1, x2, x3, x9, x10 => (tillerlaw01_awake.f k).bind fun t115 => (if t115 = true then ((fix_Sat.f x2).bind fun t116 => ((tillerref01_Sat.f x2).bind fun t117 => (if t116 = t117 then ((fix_Add.f x0 x1).bind fun t118 => ((tillerref01_Sat.f (wrap64 ((wrap64 (x0)) + (wrap64 (x1))))).bind fun t119 => (if t118 = t119 then ((fix_Sub.f x0 x1).bind fun t120 => ((tillerref01_Sat.f (wrap64 ((wrap64 (x0)) - (wrap64 (x1))))).bind fun t121 => (if t120 = t121 then ((fix_Floor.f x0).bind fun t122 => (if t122 = x9 then ((fix_Of.f x3).bind fun t123 => ((tillerref01_Sat.f (wrap64 (x10 * 65536))).bind fun t124 => (some (t123 == t124)))) else (some false))) else (some false)))) else (some false)))) else (some false)))) else (some false))
end
def tillerlaw01_FixSums.f (k : Nat) (a0 : Int) (a1 : Int) (a2 : Int) (a3 : Int) : Option (Bool) := tillerlaw01_FixSums.l0 k a0 a1 a2 a3 0
theorem tillerlaw01_FixSums.mono_l : ∀ k, (∀ y0 y1 y2 y3 y4, LeO (tillerlaw01_FixSums.l0 k y0 y1 y2 y3 y4) (tillerlaw01_FixSums.l0 (k + 1) y0 y1 y2 y3 y4)) ∧ (∀ y0 y1 y2 y3 y4, LeO (tillerlaw01_FixSums.l1 k y0 y1 y2 y3 y4) (tillerlaw01_FixSums.l1 (k + 1) y0 y1 y2 y3 y4)) ∧ (∀ y0 y1 y2 y3 y4 y5, LeO (tillerlaw01_FixSums.j2 k y0 y1 y2 y3 y4 y5) (tillerlaw01_FixSums.j2 (k + 1) y0 y1 y2 y3 y4 y5)) ∧ (∀ y0 y1 y2 y3 y4 y5, LeO (tillerlaw01_FixSums.j3 k y0 y1 y2 y3 y4 y5) (tillerlaw01_FixSums.j3 (k + 1) y0 y1 y2 y3 y4 y5))
 | 0 => ⟨fun _ _ _ _ _ r h => by simp [tillerlaw01_FixSums.l0] at h, fun _ _ _ _ _ r h => by simp [tillerlaw01_FixSums.l1] at h, fun _ _ _ _ _ _ r h => by simp [tillerlaw01_FixSums.j2] at h, fun _ _ _ _ _ _ r h => by simp [tillerlaw01_FixSums.j3] at h⟩
 | k + 1 => by
  obtain ⟨ih0, ih1, ih2, ih3⟩ := tillerlaw01_FixSums.mono_l k
  refine ⟨?_, ?_, ?_, ?_⟩
  ·intro y0 y1 y2 y3 y4
   unfold tillerlaw01_FixSums.l0
   repeat' first
   | (with_reducible exact ih0 _ _ _ _ _)
   | (with_reducible exact ih1 _ _ _ _ _)
   | (with_reducible exact ih2 _ _ _ _ _ _)
   | (with_reducible exact ih3 _ _ _ _ _ _)
   | (with_reducible exact tillerlaw01_awake.mono _)
   | (with_reducible exact LeO.refl _)
   | (with_reducible exact LeO.none _)
   | (with_reducible refine LeO.ite ?_ ?_)
   | (with_reducible refine LeO.bind ?_ (fun _ => ?_))
   | exact ih0 _ _ _ _ _
   | exact ih1 _ _ _ _ _
   | exact ih2 _ _ _ _ _ _
   | exact ih3 _ _ _ _ _ _
   | exact tillerlaw01_awake.mono _
   | exact LeO.none _
   | refine LeO.ite ?_ ?_
   | refine LeO.bind ?_ (fun _ => ?_)
  ·intro y0 y1 y2 y3 y4
   unfold tillerlaw01_FixSums.l1
   repeat' first
   | (with_reducible exact ih0 _ _ _ _ _)
   | (with_reducible exact ih1 _ _ _ _ _)
   | (with_reducible exact ih2 _ _ _ _ _ _)
   | (with_reducible exact ih3 _ _ _ _ _ _)
   | (with_reducible exact tillerlaw01_awake.mono _)
   | (with_reducible exact LeO.refl _)
   | (with_reducible exact LeO.none _)
   | (with_reducible refine LeO.ite ?_ ?_)
   | (with_reducible refine LeO.bind ?_ (fun _ => ?_))
   | exact ih0 _ _ _ _ _
   | exact ih1 _ _ _ _ _
   | exact ih2 _ _ _ _ _ _
   | exact ih3 _ _ _ _ _ _
   | exact tillerlaw01_awake.mono _
   | exact LeO.none _
   | refine LeO.ite ?_ ?_
   | refine LeO.bind ?_ (fun _ => ?_)
  ·intro y0 y1 y2 y3 y4 y5
   unfold tillerlaw01_FixSums.j2
   repeat' first
   | (with_reducible exact ih0 _ _ _ _ _)
   | (with_reducible exact ih1 _ _ _ _ _)
   | (with_reducible exact ih2 _ _ _ _ _ _)
   | (with_reducible exact ih3 _ _ _ _ _ _)
   | (with_reducible exact tillerlaw01_awake.mono _)
   | (with_reducible exact LeO.refl _)
   | (with_reducible exact LeO.none _)
   | (with_reducible refine LeO.ite ?_ ?_)
   | (with_reducible refine LeO.bind ?_ (fun _ => ?_))
   | exact ih0 _ _ _ _ _
   | exact ih1 _ _ _ _ _
   | exact ih2 _ _ _ _ _ _
   | exact ih3 _ _ _ _ _ _
   | exact tillerlaw01_awake.mono _
   | exact LeO.none _
   | refine LeO.ite ?_ ?_
   | refine LeO.bind ?_ (fun _ => ?_)
  ·intro y0 y1 y2 y3 y4 y5
   unfold tillerlaw01_FixSums.j3
   repeat' first
   | (with_reducible exact ih0 _ _ _ _ _)
   | (with_reducible exact ih1 _ _ _ _ _)
   | (with_reducible exact ih2 _ _ _ _ _ _)
   | (with_reducible exact ih3 _ _ _ _ _ _)
   | (with_reducible exact tillerlaw01_awake.mono _)
   | (with_reducible exact LeO.refl _)
   | (with_reducible exact LeO.none _)
   | (with_reducible refine LeO.ite ?_ ?_)
   | (with_reducible refine LeO.bind ?_ (fun _ => ?_))
   | exact ih0 _ _ _ _ _
   | exact ih1 _ _ _ _ _
   | exact ih2 _ _ _ _ _ _
   | exact ih3 _ _ _ _ _ _
   | exact tillerlaw01_awake.mono _
   | exact LeO.none _
   | refine LeO.ite ?_ ?_
   | refine LeO.bind ?_ (fun _ => ?_)
theorem tillerlaw01_FixSums.mono : ∀ a0 a1 a2 a3 k, LeO (tillerlaw01_FixSums.f k a0 a1 a2 a3) (tillerlaw01_FixSums.f (k + 1) a0 a1 a2 a3) := by
 intro a0 a1 a2 a3 k
 obtain ⟨ih0, ih1, ih2, ih3⟩ := tillerlaw01_FixSums.mono_l k
 unfold tillerlaw01_FixSums.f
 repeat' first
   | (with_reducible exact ih0 _ _ _ _ _)
   | (with_reducible exact ih1 _ _ _ _ _)
   | (with_reducible exact ih2 _ _ _ _ _ _)
   | (with_reducible exact ih3 _ _ _ _ _ _)
   | (with_reducible exact tillerlaw01_awake.mono _)
   | (with_reducible exact LeO.refl _)
   | (with_reducible exact LeO.none _)
   | (with_reducible refine LeO.ite ?_ ?_)
   | (with_reducible refine LeO.bind ?_ (fun _ => ?_))
   | exact ih0 _ _ _ _ _
   | exact ih1 _ _ _ _ _
   | exact ih2 _ _ _ _ _ _
   | exact ih3 _ _ _ _ _ _
   | exact tillerlaw01_awake.mono _
   | exact LeO.none _
   | refine LeO.ite ?_ ?_
   | refine LeO.bind ?_ (fun _ => ?_)
set_option maxHeartbeats 8000000 in
set_option maxRecDepth 100000 in
theorem tillerlaw01_FixSums.calls (k : Nat) (a0 : Int) (a1 : Int) (a2 : Int) (a3 : Int) (r : Bool) (w : World) (hr_ : Aside0 (r = true)) (h : tillerlaw01_FixSums.f k a0 a1 a2 a3 = some r) :
  Calls Try.prog 6 #[.int .i32 a0, .int .i32 a1, .int .i64 a2, .int .i64 a3] w fun e w' => e = .returned (.bool r) ∧ Below w.heap.size w w' := by
 have HB := Aside0.mk (Below.refl w.heap.size w)
 have H : (tillerlaw01_FixSums.l0 k a0 a1 a2 a3 0) = some r := h
 clear h
 have H' := Aside0.mk H
 clear H
 go_enter Try.func6, Try.ntmps6
 go_wp2
 go_loopg [9] k (fun kq v9 w' => ∃ (x9_1 : Int), v9 = .int .i64 x9_1 ∧ Aside0 (tillerlaw01_FixSums.l0 kq a0 a1 a2 a3 x9_1 = some r) ∧ Aside0 (kq ≤ k) ∧ Aside0 (Below w.heap.size w w'))
 case atStart => exact ⟨(0), (by first | rfl | (simp; done) | (simp [*]; done)), H', ⟨Nat.le_refl _⟩, ⟨by repeat (first | (with_reducible first | exact HB.out | apply bwA | apply bwN | apply bwD) | exact HB.out)⟩⟩
 case round =>
  clear H'
  try clear p2
  obtain ⟨x9_1, rfl, HA, HK1, HB⟩ := hrel
  cases gk with
  | zero => exact absurd HA.out (by simp [tillerlaw01_FixSums.l0])
  | succ k1 =>
   have H := HA.out
   clear HA
   simp only [tillerlaw01_FixSums.l0] at H
   by_cases c5 : (wrap64 (x9_1 * 65536)) > (wrap64 (a0))
   ·rw [if_pos c5] at H
    have c5b0 : decide ((wrap64 (a0)) < (wrap64 (x9_1 * 65536))) = true := decide_eq_true c5
    clear c5
    have H' := Aside0.mk H
    clear H
    go_wp2
    go_roundg k1
    case measure => have := HK1.out; omega
    case rel => exact ⟨(wrap64 (x9_1 - 1)), (by first | rfl | (simp; done) | (simp [*]; done)), H', ⟨by have := HK1.out; omega⟩, ⟨by repeat (first | (with_reducible first | exact HB.out | apply bwA | apply bwN | apply bwD) | exact HB.out)⟩⟩
   ·rw [if_neg c5] at H
    have c5b0 : decide ((wrap64 (a0)) < (wrap64 (x9_1 * 65536))) = false := decide_eq_false c5
    clear c5
    have H' := Aside0.mk H
    clear H
    go_wp2
    go_loopg [9] k1 (fun kq v9 w' => ∃ (x9_2 : Int), v9 = .int .i64 x9_2 ∧ Aside0 (tillerlaw01_FixSums.l1 kq a0 a1 a2 a3 x9_2 = some r) ∧ Aside0 (kq ≤ k1) ∧ Aside0 (Below w.heap.size w w'))
    case atStart => exact ⟨(x9_1), (by first | rfl | (simp; done) | (simp [*]; done)), H', ⟨Nat.le_refl _⟩, ⟨by repeat (first | (with_reducible first | exact HB.out | apply bwA | apply bwN | apply bwD) | exact HB.out)⟩⟩
    case round =>
     clear H'
     try clear p2
     try clear c5
     try clear c5b0
     try clear p2
     obtain ⟨x9_2, rfl, HA, HK2, HB⟩ := hrel
     cases gk with
     | zero => exact absurd HA.out (by simp [tillerlaw01_FixSums.l1])
     | succ k2 =>
      have H := HA.out
      clear HA
      simp only [tillerlaw01_FixSums.l1] at H
      by_cases c6 : (wrap64 ((wrap64 (x9_2 + 1)) * 65536)) ≤ (wrap64 (a0))
      ·rw [if_pos c6] at H
       have c6b0 : decide ((wrap64 ((wrap64 (x9_2 + 1)) * 65536)) ≤ (wrap64 (a0))) = true := decide_eq_true c6
       clear c6
       have H' := Aside0.mk H
       clear H
       go_wp2
       go_roundg k2
       case measure => have := HK1.out; have := HK2.out; omega
       case rel => exact ⟨(wrap64 (x9_2 + 1)), (by first | rfl | (simp; done) | (simp [*]; done)), H', ⟨by have := HK1.out; have := HK2.out; omega⟩, ⟨by repeat (first | (with_reducible first | exact HB.out | apply bwA | apply bwN | apply bwD) | exact HB.out)⟩⟩
      ·rw [if_neg c6] at H
       have c6b0 : decide ((wrap64 ((wrap64 (x9_2 + 1)) * 65536)) ≤ (wrap64 (a0))) = false := decide_eq_false c6
       clear c6
       have HC7 := Aside0.mk H
       clear H
       go_upto_if 28 with (fail)
       go_cut [10] (fun v10 wc => ∃ (kq : Nat) (x10_6 : Int), v10 = .int .i64 x10_6 ∧ Aside0 (tillerlaw01_FixSums.j2 kq a0 a1 a2 a3 x9_2 x10_6 = some r) ∧ Aside0 (kq ≤ k2) ∧ Aside0 (Below w.heap.size w wc))
       case first =>
        have H := HC7.out
        clear HC7
        by_cases c8 : a3 > 65536
        ·rw [if_pos c8] at H
         have c8b0 : decide (65536 < a3) = true := decide_eq_true c8
         clear c8
         (first | rw [c8b0] | (simp only [i64_w, i32_w]; rw [c8b0]) | skip)
         have H' := Aside0.mk H
         clear H
         go_wp2
         go_meet
         case rel => exact ⟨_, (65536), (by first | rfl | (simp; done) | (simp [*]; done)), H', ⟨by have := HK1.out; have := HK2.out; first | omega | exact Nat.le_refl _⟩, ⟨by repeat (first | (with_reducible first | exact HB.out | apply bwA | apply bwN | apply bwD) | exact HB.out)⟩⟩
        ·rw [if_neg c8] at H
         have c8b0 : decide (65536 < a3) = false := decide_eq_false c8
         clear c8
         (first | rw [c8b0] | (simp only [i64_w, i32_w]; rw [c8b0]) | skip)
         have H' := Aside0.mk H
         clear H
         go_wp2
         go_meet
         case rel => exact ⟨_, (a3), (by first | rfl | (simp; done) | (simp [*]; done)), H', ⟨by have := HK1.out; have := HK2.out; first | omega | exact Nat.le_refl _⟩, ⟨by repeat (first | (with_reducible first | exact HB.out | apply bwA | apply bwN | apply bwD) | exact HB.out)⟩⟩
       case rest =>
        clear HC7
        try clear p2
        try clear c5
        try clear c5b0
        try clear c6
        try clear c6b0
        try clear p6
        try clear c8
        try clear c8b0
        try clear p2
        obtain ⟨kq, x10_6, rfl, HA, HJ6, HB⟩ := hcut
        cases kq with
        | zero => exact absurd HA.out (by simp [tillerlaw01_FixSums.j2])
        | succ kj6 =>
         have H := HA.out
         clear HA
         simp only [tillerlaw01_FixSums.j2] at H
         have HC9 := Aside0.mk H
         clear H
         go_upto_if 30 with (fail)
         go_cut [10] (fun v10 wc => ∃ (kq : Nat) (x10_8 : Int), v10 = .int .i64 x10_8 ∧ Aside0 (tillerlaw01_FixSums.j3 kq a0 a1 a2 a3 x9_2 x10_8 = some r) ∧ Aside0 (kq ≤ kj6) ∧ Aside0 (Below w.heap.size w wc))
         case first =>
          have H := HC9.out
          clear HC9
          by_cases c10 : a3 < (-65536)
          ·rw [if_pos c10] at H
           have c10b0 : decide (a3 < (-65536)) = true := decide_eq_true c10
           clear c10
           (first | rw [c10b0] | (simp only [i64_w, i32_w]; rw [c10b0]) | skip)
           have H' := Aside0.mk H
           clear H
           go_wp2
           go_meet
           case rel => exact ⟨_, ((-65536)), (by first | rfl | (simp; done) | (simp [*]; done)), H', ⟨by have := HK1.out; have := HK2.out; have := HJ6.out; first | omega | exact Nat.le_refl _⟩, ⟨by repeat (first | (with_reducible first | exact HB.out | apply bwA | apply bwN | apply bwD) | exact HB.out)⟩⟩
          ·rw [if_neg c10] at H
           have c10b0 : decide (a3 < (-65536)) = false := decide_eq_false c10
           clear c10
           (first | rw [c10b0] | (simp only [i64_w, i32_w]; rw [c10b0]) | skip)
           have H' := Aside0.mk H
           clear H
           go_wp2
           go_meet
           case rel => exact ⟨_, (x10_6), (by first | rfl | (simp; done) | (simp [*]; done)), H', ⟨by have := HK1.out; have := HK2.out; have := HJ6.out; first | omega | exact Nat.le_refl _⟩, ⟨by repeat (first | (with_reducible first | exact HB.out | apply bwA | apply bwN | apply bwD) | exact HB.out)⟩⟩
         case rest =>
          clear HC9
          try clear c1
          try clear p2
          try clear c5
          try clear c5b0
          try clear c6
          try clear c6b0
          try clear p6
          try clear c8
          try clear c8b0
          try clear c10
          try clear c10b0
          try clear p2
          try clear p6
          obtain ⟨kq, x10_8, rfl, HA, HJ8, HB⟩ := hcut
          cases kq with
          | zero => exact absurd HA.out (by simp [tillerlaw01_FixSums.j3])
          | succ kj8 =>
           have H := HA.out
           clear HA
           simp only [tillerlaw01_FixSums.j3] at H
           replace H := Option.bind_eq_some_iff.mp H
           obtain ⟨t115, A110, H⟩ := H
           replace H : (if t115 = true then ((fix_Sat.f a2).bind fun t116 => ((tillerref01_Sat.f a2).bind fun t117 => (if t116 = t117 then ((fix_Add.f a0 a1).bind fun t118 => ((tillerref01_Sat.f (wrap64 ((wrap64 (a0)) + (wrap64 (a1))))).bind fun t119 => (if t118 = t119 then ((fix_Sub.f a0 a1).bind fun t120 => ((tillerref01_Sat.f (wrap64 ((wrap64 (a0)) - (wrap64 (a1))))).bind fun t121 => (if t120 = t121 then ((fix_Floor.f a0).bind fun t122 => (if t122 = x9_2 then ((fix_Of.f a3).bind fun t123 => ((tillerref01_Sat.f (wrap64 (x10_8 * 65536))).bind fun t124 => (some (t123 == t124)))) else (some false))) else (some false)))) else (some false)))) else (some false)))) else (some false)) = some r := H
           have A11 := Aside0.mk A110
           clear A110
           by_cases c12 : t115 = true
           ·subst c12
            have H1 : ((fix_Sat.f a2).bind fun t116 => ((tillerref01_Sat.f a2).bind fun t117 => (if t116 = t117 then ((fix_Add.f a0 a1).bind fun t118 => ((tillerref01_Sat.f (wrap64 ((wrap64 (a0)) + (wrap64 (a1))))).bind fun t119 => (if t118 = t119 then ((fix_Sub.f a0 a1).bind fun t120 => ((tillerref01_Sat.f (wrap64 ((wrap64 (a0)) - (wrap64 (a1))))).bind fun t121 => (if t120 = t121 then ((fix_Floor.f a0).bind fun t122 => (if t122 = x9_2 then ((fix_Of.f a3).bind fun t123 => ((tillerref01_Sat.f (wrap64 (x10_8 * 65536))).bind fun t124 => (some (t123 == t124)))) else (some false))) else (some false)))) else (some false)))) else (some false)))) = some r := by rw [if_pos rfl] at H; exact H
            clear H
            have H := H1
            clear H1
            replace H := Option.bind_eq_some_iff.mp H
            obtain ⟨t116, A130, H⟩ := H
            replace H : ((tillerref01_Sat.f a2).bind fun t117 => (if t116 = t117 then ((fix_Add.f a0 a1).bind fun t118 => ((tillerref01_Sat.f (wrap64 ((wrap64 (a0)) + (wrap64 (a1))))).bind fun t119 => (if t118 = t119 then ((fix_Sub.f a0 a1).bind fun t120 => ((tillerref01_Sat.f (wrap64 ((wrap64 (a0)) - (wrap64 (a1))))).bind fun t121 => (if t120 = t121 then ((fix_Floor.f a0).bind fun t122 => (if t122 = x9_2 then ((fix_Of.f a3).bind fun t123 => ((tillerref01_Sat.f (wrap64 (x10_8 * 65536))).bind fun t124 => (some (t123 == t124)))) else (some false))) else (some false)))) else (some false)))) else (some false))) = some r := H
            have A13 := Aside0.mk A130
            clear A130
            replace H := Option.bind_eq_some_iff.mp H
            obtain ⟨t117, A140, H⟩ := H
            replace H : (if t116 = t117 then ((fix_Add.f a0 a1).bind fun t118 => ((tillerref01_Sat.f (wrap64 ((wrap64 (a0)) + (wrap64 (a1))))).bind fun t119 => (if t118 = t119 then ((fix_Sub.f a0 a1).bind fun t120 => ((tillerref01_Sat.f (wrap64 ((wrap64 (a0)) - (wrap64 (a1))))).bind fun t121 => (if t120 = t121 then ((fix_Floor.f a0).bind fun t122 => (if t122 = x9_2 then ((fix_Of.f a3).bind fun t123 => ((tillerref01_Sat.f (wrap64 (x10_8 * 65536))).bind fun t124 => (some (t123 == t124)))) else (some false))) else (some false)))) else (some false)))) else (some false)) = some r := H
            have A14 := Aside0.mk A140
            clear A140
            by_cases c15 : t116 = t117
            ·rw [if_pos c15] at H
             have c15b0 : (t116 == t117) = true := beq_iff_eq.mpr c15
             have c15b1 : (t116 != t117) = false := bne_eq_false_iff_eq.mpr c15
             clear c15
             replace H := Option.bind_eq_some_iff.mp H
             obtain ⟨t118, A160, H⟩ := H
             replace H : ((tillerref01_Sat.f (wrap64 ((wrap64 (a0)) + (wrap64 (a1))))).bind fun t119 => (if t118 = t119 then ((fix_Sub.f a0 a1).bind fun t120 => ((tillerref01_Sat.f (wrap64 ((wrap64 (a0)) - (wrap64 (a1))))).bind fun t121 => (if t120 = t121 then ((fix_Floor.f a0).bind fun t122 => (if t122 = x9_2 then ((fix_Of.f a3).bind fun t123 => ((tillerref01_Sat.f (wrap64 (x10_8 * 65536))).bind fun t124 => (some (t123 == t124)))) else (some false))) else (some false)))) else (some false))) = some r := H
             have A16 := Aside0.mk A160
             clear A160
             replace H := Option.bind_eq_some_iff.mp H
             obtain ⟨t119, A170, H⟩ := H
             replace H : (if t118 = t119 then ((fix_Sub.f a0 a1).bind fun t120 => ((tillerref01_Sat.f (wrap64 ((wrap64 (a0)) - (wrap64 (a1))))).bind fun t121 => (if t120 = t121 then ((fix_Floor.f a0).bind fun t122 => (if t122 = x9_2 then ((fix_Of.f a3).bind fun t123 => ((tillerref01_Sat.f (wrap64 (x10_8 * 65536))).bind fun t124 => (some (t123 == t124)))) else (some false))) else (some false)))) else (some false)) = some r := H
             have A17 := Aside0.mk A170
             clear A170
             by_cases c18 : t118 = t119
             ·rw [if_pos c18] at H
              have c18b0 : (t118 == t119) = true := beq_iff_eq.mpr c18
              have c18b1 : (t118 != t119) = false := bne_eq_false_iff_eq.mpr c18
              clear c18
              replace H := Option.bind_eq_some_iff.mp H
              obtain ⟨t120, A190, H⟩ := H
              replace H : ((tillerref01_Sat.f (wrap64 ((wrap64 (a0)) - (wrap64 (a1))))).bind fun t121 => (if t120 = t121 then ((fix_Floor.f a0).bind fun t122 => (if t122 = x9_2 then ((fix_Of.f a3).bind fun t123 => ((tillerref01_Sat.f (wrap64 (x10_8 * 65536))).bind fun t124 => (some (t123 == t124)))) else (some false))) else (some false))) = some r := H
              have A19 := Aside0.mk A190
              clear A190
              replace H := Option.bind_eq_some_iff.mp H
              obtain ⟨t121, A200, H⟩ := H
              replace H : (if t120 = t121 then ((fix_Floor.f a0).bind fun t122 => (if t122 = x9_2 then ((fix_Of.f a3).bind fun t123 => ((tillerref01_Sat.f (wrap64 (x10_8 * 65536))).bind fun t124 => (some (t123 == t124)))) else (some false))) else (some false)) = some r := H
              have A20 := Aside0.mk A200
              clear A200
              by_cases c21 : t120 = t121
              ·rw [if_pos c21] at H
               have c21b0 : (t120 == t121) = true := beq_iff_eq.mpr c21
               have c21b1 : (t120 != t121) = false := bne_eq_false_iff_eq.mpr c21
               clear c21
               replace H := Option.bind_eq_some_iff.mp H
               obtain ⟨t122, A220, H⟩ := H
               replace H : (if t122 = x9_2 then ((fix_Of.f a3).bind fun t123 => ((tillerref01_Sat.f (wrap64 (x10_8 * 65536))).bind fun t124 => (some (t123 == t124)))) else (some false)) = some r := H
               have A22 := Aside0.mk A220
               clear A220
               by_cases c23 : t122 = x9_2
               ·rw [if_pos c23] at H
                have c23b0 : (t122 == x9_2) = true := beq_iff_eq.mpr c23
                have c23b1 : (t122 != x9_2) = false := bne_eq_false_iff_eq.mpr c23
                clear c23
                replace H := Option.bind_eq_some_iff.mp H
                obtain ⟨t123, A240, H⟩ := H
                replace H : ((tillerref01_Sat.f (wrap64 (x10_8 * 65536))).bind fun t124 => (some (t123 == t124))) = some r := H
                have A24 := Aside0.mk A240
                clear A240
                replace H := Option.bind_eq_some_iff.mp H
                obtain ⟨t124, A250, H⟩ := H
                replace H : (some (t123 == t124)) = some r := H
                have A25 := Aside0.mk A250
                clear A250
                obtain rfl := Option.some.inj H
                go_wp2_with (first | ((with_reducible refine gate_callee (f := 12) rfl ?_); refine goesL_ (some 31) rfl rfl Try.func12 (by kernel_rfl) rfl #[] rfl (by (try simp only [List.map_toArray, List.map_cons, List.map_nil]); first | done | rfl | (simp only [List.length_drop, List.length_take]; rfl)) ?_; (with_reducible refine (tillerlaw01_awake.calls kj8  true _ A11.out).mono ?_); rintro e w26 ⟨rfl, hb⟩; refine ⟨_, rfl, ?_⟩; have n0_ := Aside0.mk (below_step (by repeat (first | (with_reducible first | exact HB.out | apply bwA | apply bwN | apply bwD) | exact HB.out)) hb); clear HB; have HB := n0_; clear n0_; (try clear hb); (try clear hb2); (try clear hk); (try clear hi)) | (go_at_call 19; (with_reducible refine (fix_Sat.calls a2 t116 _ A13.out).mono ?_); rintro e w27 ⟨rfl, hb⟩; have n0_ := Aside0.mk (below_step (by repeat (first | (with_reducible first | exact HB.out | apply bwA | apply bwN | apply bwD) | exact HB.out)) hb); clear HB; have HB := n0_; clear n0_; (try clear hb); (try clear hb2); (try clear hk); (try clear hi)) | (go_at_call 21; (with_reducible refine (tillerref01_Sat.calls a2 t117 _ A14.out).mono ?_); rintro e w' ⟨rfl, ⟨nd, rfl⟩⟩) | (go_at_call 18; (with_reducible refine (fix_Add.calls a0 a1 t118 _ A16.out).mono ?_); rintro e w28 ⟨rfl, hb⟩; have n0_ := Aside0.mk (below_step (by repeat (first | (with_reducible first | exact HB.out | apply bwA | apply bwN | apply bwD) | exact HB.out)) hb); clear HB; have HB := n0_; clear n0_; (try clear hb); (try clear hb2); (try clear hk); (try clear hi)) | (go_at_call 21; (with_reducible refine (tillerref01_Sat.calls (wrap64 ((wrap64 (a0)) + (wrap64 (a1)))) t119 _ A17.out).mono ?_); rintro e w' ⟨rfl, ⟨nd, rfl⟩⟩) | (go_at_call 20; (with_reducible refine (fix_Sub.calls a0 a1 t120 _ A19.out).mono ?_); rintro e w29 ⟨rfl, hb⟩; have n0_ := Aside0.mk (below_step (by repeat (first | (with_reducible first | exact HB.out | apply bwA | apply bwN | apply bwD) | exact HB.out)) hb); clear HB; have HB := n0_; clear n0_; (try clear hb); (try clear hb2); (try clear hk); (try clear hi)) | (go_at_call 21; (with_reducible refine (tillerref01_Sat.calls (wrap64 ((wrap64 (a0)) - (wrap64 (a1)))) t121 _ A20.out).mono ?_); rintro e w' ⟨rfl, ⟨nd, rfl⟩⟩) | (go_at_call 22; (with_reducible refine (fix_Floor.calls a0 t122 _ A22.out).mono ?_); rintro e w' ⟨rfl, ⟨nd, rfl⟩⟩) | (go_at_call 23; (with_reducible refine (fix_Of.calls a3 t123 _ A24.out).mono ?_); rintro e w30 ⟨rfl, hb⟩; have n0_ := Aside0.mk (below_step (by repeat (first | (with_reducible first | exact HB.out | apply bwA | apply bwN | apply bwD) | exact HB.out)) hb); clear HB; have HB := n0_; clear n0_; (try clear hb); (try clear hb2); (try clear hk); (try clear hi)) | (go_at_call 21; (with_reducible refine (tillerref01_Sat.calls (wrap64 (x10_8 * 65536)) t124 _ A25.out).mono ?_); rintro e w' ⟨rfl, ⟨nd, rfl⟩⟩))
                go_ret
                exact ⟨by first | rfl | (simp [errW_none, errW_some] <;> rfl) | (simp [*, errW_none, errW_some] <;> rfl), by repeat (first | (with_reducible first | exact HB.out | apply bwA | apply bwN | apply bwD) | exact HB.out)⟩
               ·rw [if_neg c23] at H
                exact absurd (Option.some.inj H) (by rw [hr_.out]; decide)
              ·rw [if_neg c21] at H
               exact absurd (Option.some.inj H) (by rw [hr_.out]; decide)
             ·rw [if_neg c18] at H
              exact absurd (Option.some.inj H) (by rw [hr_.out]; decide)
            ·rw [if_neg c15] at H
             exact absurd (Option.some.inj H) (by rw [hr_.out]; decide)
           ·replace c12 := Bool.eq_false_iff.mpr c12
            subst c12
            have H1 : (some false) = some r := by rw [if_neg (show ¬ (false = true) by decide)] at H; exact H
            clear H
            have H := H1
            clear H1
            exact absurd (Option.some.inj H) (by rw [hr_.out]; decide)

end Go.Proofs.Ytnhapgenebcjmaa.GQ
