-- written by this session's program gprint.py
import Derived.Test.YtfnogcppbhggpaaGQx0
import Derived.Test.YtfnogcppbhggpaaGQx10
import Derived.Test.YtfnogcppbhggpaaWLast
import Derived.Test.YtfnogcppbhggpaaWMore
import Derived.Test.YtfnogcppbhggpaaWTab
import Derived.Test.YtfnogcppbhggpaaWWords
namespace Go.Proofs.Ytfnogcppbhggpaa.GQ
open Go.RowKit Go.Proofs.YtfnogcppbhggpaaW.PrintWords Go.Proofs.YtfnogcppbhggpaaW.PrintLast Go.Proofs.YtfnogcppbhggpaaW.PrintMore
attribute [local go_sem] max2_int min2_int max_two min_two max_three min_three max_four min_four   -- for this text's walks alone
set_option linter.unusedVariables false
set_option linter.unusedSimpArgs false
abbrev T41421_0 : Array Bool := #[false, false, false, false, false, false, false, false, false, false, false, false, false, false, false, false, false, false, false, false, false, false, false, false, false, false, false, false, false, false, false, false, false, false, false, false, false, false, false, false]
abbrev T41421_1 : Array Bool := #[true, false, false, false, false, false, false, false, false, false, false, false, false, false, false, false, false, false, false, false, false, false, false, false, false, false, false, false, false, false, false, false, false, false, false, false, false, false, false, false]
abbrev T41421_2 : Array Bool := #[true, true, false, false, false, false, false, false, false, false, false, false, false, false, false, false, false, false, false, false, false, false, false, false, false, false, false, false, false, false, false, false, false, false, false, false, false, false, false, false]
abbrev T41421_3 : Array Bool := #[true, true, true, false, false, false, false, false, false, false, false, false, false, false, false, false, false, false, false, false, false, false, false, false, false, false, false, false, false, false, false, false, false, false, false, false, false, false, false, false]
abbrev T41421_4 : Array Bool := #[true, true, true, true, false, false, false, false, false, false, false, false, false, false, false, false, false, false, false, false, false, false, false, false, false, false, false, false, false, false, false, false, false, false, false, false, false, false, false, false]
abbrev T41421_5 : Array Bool := #[true, true, true, true, false, true, false, false, false, false, false, false, false, false, false, false, false, false, false, false, false, false, false, false, false, false, false, false, false, false, false, false, false, false, false, false, false, false, false, false]
abbrev T41421_6 : Array Bool := #[true, true, true, true, false, true, true, false, false, false, false, false, false, false, false, false, false, false, false, false, false, false, false, false, false, false, false, false, false, false, false, false, false, false, false, false, false, false, false, false]
abbrev T41421_7 : Array Bool := #[true, true, true, true, false, true, true, true, false, false, false, false, false, false, false, false, false, false, false, false, false, false, false, false, false, false, false, false, false, false, false, false, false, false, false, false, false, false, false, false]
abbrev T41421_8 : Array Bool := #[true, true, true, true, false, true, true, true, true, false, false, false, false, false, false, false, false, false, false, false, false, false, false, false, false, false, false, false, false, false, false, false, false, false, false, false, false, false, false, false]
abbrev T41421_9 : Array Bool := #[true, true, true, true, true, true, true, true, true, false, false, false, false, false, false, false, false, false, false, false, false, false, false, false, false, false, false, false, false, false, false, false, false, false, false, false, false, false, false, false]
abbrev T41421_10 : Array Bool := #[true, true, true, true, true, true, true, true, true, true, false, false, false, false, false, false, false, false, false, false, false, false, false, false, false, false, false, false, false, false, false, false, false, false, false, false, false, false, false, false]
abbrev T41421_11 : Array Bool := #[true, true, true, true, true, true, true, true, true, true, true, false, false, false, false, false, false, false, false, false, false, false, false, false, false, false, false, false, false, false, false, false, false, false, false, false, false, false, false, false]
abbrev T41421_12 : Array Bool := #[true, true, true, true, true, true, true, true, true, true, true, true, false, false, false, false, false, false, false, false, false, false, false, false, false, false, false, false, false, false, false, false, false, false, false, false, false, false, false, false]
abbrev T41421_13 : Array Bool := #[true, true, true, true, true, true, true, true, true, true, true, true, true, false, false, false, false, false, false, false, false, false, false, false, false, false, false, false, false, false, false, false, false, false, false, false, false, false, false, false]
abbrev T41421_14 : Array Bool := #[true, true, true, true, true, true, true, true, true, true, true, true, true, true, false, false, false, false, false, false, false, false, false, false, false, false, false, false, false, false, false, false, false, false, false, false, false, false, false, false]
abbrev T41421_15 : Array Bool := #[true, true, true, true, true, true, true, true, true, true, true, true, true, true, true, false, false, false, false, false, false, false, false, false, false, false, false, false, false, false, false, false, false, false, false, false, false, false, false, false]
abbrev T41421_16 : Array Bool := #[true, true, true, true, true, true, true, true, true, true, true, true, true, true, true, true, false, false, false, false, false, false, false, false, false, false, false, false, false, false, false, false, false, false, false, false, false, false, false, false]
abbrev T41421_17 : Array Bool := #[true, true, true, true, true, true, true, true, true, true, true, true, true, true, true, true, false, false, true, false, false, false, false, false, false, false, false, false, false, false, false, false, false, false, false, false, false, false, false, false]
abbrev T41421_18 : Array Bool := #[true, true, true, true, true, true, true, true, true, true, true, true, true, true, true, true, false, false, true, true, false, false, false, false, false, false, false, false, false, false, false, false, false, false, false, false, false, false, false, false]
abbrev T41421_19 : Array Bool := #[true, true, true, true, true, true, true, true, true, true, true, true, true, true, true, true, false, false, true, true, true, false, false, false, false, false, false, false, false, false, false, false, false, false, false, false, false, false, false, false]
abbrev T41421_20 : Array Bool := #[true, true, true, true, true, true, true, true, true, true, true, true, true, true, true, true, false, false, true, true, true, true, false, false, false, false, false, false, false, false, false, false, false, false, false, false, false, false, false, false]
abbrev T41421_21 : Array Bool := #[true, true, true, true, true, true, true, true, true, true, true, true, true, true, true, true, true, false, true, true, true, true, false, false, false, false, false, false, false, false, false, false, false, false, false, false, false, false, false, false]
abbrev T41421_22 : Array Bool := #[true, true, true, true, true, true, true, true, true, true, true, true, true, true, true, true, true, true, true, true, true, true, false, false, false, false, false, false, false, false, false, false, false, false, false, false, false, false, false, false]
abbrev T41421_23 : Array Bool := #[true, true, true, true, true, true, true, true, true, true, true, true, true, true, true, true, true, true, true, true, true, true, true, false, false, false, false, false, false, false, false, false, false, false, false, false, false, false, false, false]
abbrev T41421_24 : Array Bool := #[true, true, true, true, true, true, true, true, true, true, true, true, true, true, true, true, true, true, true, true, true, true, true, true, false, false, false, false, false, false, false, false, false, false, false, false, false, false, false, false]
abbrev T41421_25 : Array Bool := #[true, true, true, true, true, true, true, true, true, true, true, true, true, true, true, true, true, true, true, true, true, true, true, true, true, false, false, false, false, false, false, false, false, false, false, false, false, false, false, false]
abbrev T41421_26 : Array Bool := #[true, true, true, true, true, true, true, true, true, true, true, true, true, true, true, true, true, true, true, true, true, true, true, true, true, true, false, false, false, false, false, false, false, false, false, false, false, false, false, false]
abbrev T41421_27 : Array Bool := #[true, true, true, true, true, true, true, true, true, true, true, true, true, true, true, true, true, true, true, true, true, true, true, true, true, true, true, false, false, false, false, false, false, false, false, false, false, false, false, false]
abbrev T41421_28 : Array Bool := #[true, true, true, true, true, true, true, true, true, true, true, true, true, true, true, true, true, true, true, true, true, true, true, true, true, true, true, true, false, false, false, false, false, false, false, false, false, false, false, false]
abbrev T41421_29 : Array Bool := #[true, true, true, true, true, true, true, true, true, true, true, true, true, true, true, true, true, true, true, true, true, true, true, true, true, true, true, true, true, false, false, false, false, false, false, false, false, false, false, false]
abbrev T41421_30 : Array Bool := #[true, true, true, true, true, true, true, true, true, true, true, true, true, true, true, true, true, true, true, true, true, true, true, true, true, true, true, true, true, true, false, false, false, false, false, false, false, false, false, false]
abbrev T41421_31 : Array Bool := #[true, true, true, true, true, true, true, true, true, true, true, true, true, true, true, true, true, true, true, true, true, true, true, true, true, true, true, true, true, true, true, false, false, false, false, false, false, false, false, false]
abbrev T41421_32 : Array Bool := #[true, true, true, true, true, true, true, true, true, true, true, true, true, true, true, true, true, true, true, true, true, true, true, true, true, true, true, true, true, true, true, false, true, false, false, false, false, false, false, false]
abbrev T41421_33 : Array Bool := #[true, true, true, true, true, true, true, true, true, true, true, true, true, true, true, true, true, true, true, true, true, true, true, true, true, true, true, true, true, true, true, false, true, true, false, false, false, false, false, false]
abbrev T41421_34 : Array Bool := #[true, true, true, true, true, true, true, true, true, true, true, true, true, true, true, true, true, true, true, true, true, true, true, true, true, true, true, true, true, true, true, false, true, true, true, false, false, false, false, false]
abbrev T41421_35 : Array Bool := #[true, true, true, true, true, true, true, true, true, true, true, true, true, true, true, true, true, true, true, true, true, true, true, true, true, true, true, true, true, true, true, false, true, true, true, true, false, false, false, false]
abbrev T41421_36 : Array Bool := #[true, true, true, true, true, true, true, true, true, true, true, true, true, true, true, true, true, true, true, true, true, true, true, true, true, true, true, true, true, true, true, true, true, true, true, true, false, false, false, false]
abbrev T41421_37 : Array Bool := #[true, true, true, true, true, true, true, true, true, true, true, true, true, true, true, true, true, true, true, true, true, true, true, true, true, true, true, true, true, true, true, true, true, true, true, true, true, false, false, false]
abbrev T41421_38 : Array Bool := #[true, true, true, true, true, true, true, true, true, true, true, true, true, true, true, true, true, true, true, true, true, true, true, true, true, true, true, true, true, true, true, true, true, true, true, true, true, true, false, false]
abbrev T41421_39 : Array Bool := #[true, true, true, true, true, true, true, true, true, true, true, true, true, true, true, true, true, true, true, true, true, true, true, true, true, true, true, true, true, true, true, true, true, true, true, true, true, true, true, false]
abbrev T41421_40 : Array Bool := #[true, true, true, true, true, true, true, true, true, true, true, true, true, true, true, true, true, true, true, true, true, true, true, true, true, true, true, true, true, true, true, true, true, true, true, true, true, true, true, true]
abbrev T41421_41 : Array Bool := #[true, true, true, true, true, true, true, true, true, true, true, true, true, true, true, true, true, true, true, true, true, true, true, true, true, true, true, true, true, true, true, true, false, false, false, false, false, false, false, false]
abbrev T41421_42 : Array Bool := #[true, true, true, true, true, true, true, true, true, true, true, true, true, true, true, true, true, true, true, true, true, true, true, true, true, true, true, true, true, true, true, true, true, false, false, false, false, false, false, false]
abbrev T41421_43 : Array Bool := #[true, true, true, true, true, true, true, true, true, true, true, true, true, true, true, true, true, true, true, true, true, true, true, true, true, true, true, true, true, true, true, true, true, true, false, false, false, false, false, false]
abbrev T41421_44 : Array Bool := #[true, true, true, true, true, true, true, true, true, true, true, true, true, true, true, true, true, true, true, true, true, true, true, true, true, true, true, true, true, true, true, true, true, true, true, false, false, false, false, false]
abbrev T41421_45 : Array Bool := #[true, true, true, true, true, true, true, true, true, true, true, true, true, true, true, true, true, false, false, false, false, false, false, false, false, false, false, false, false, false, false, false, false, false, false, false, false, false, false, false]
abbrev T41421_46 : Array Bool := #[true, true, true, true, true, true, true, true, true, true, true, true, true, true, true, true, true, true, false, false, false, false, false, false, false, false, false, false, false, false, false, false, false, false, false, false, false, false, false, false]
abbrev T41421_47 : Array Bool := #[true, true, true, true, true, true, true, true, true, true, true, true, true, true, true, true, true, true, true, false, false, false, false, false, false, false, false, false, false, false, false, false, false, false, false, false, false, false, false, false]
abbrev T41421_48 : Array Bool := #[true, true, true, true, true, true, true, true, true, true, true, true, true, true, true, true, true, true, true, true, false, false, false, false, false, false, false, false, false, false, false, false, false, false, false, false, false, false, false, false]
abbrev T41421_49 : Array Bool := #[true, true, true, true, true, true, true, true, true, true, true, true, true, true, true, true, true, true, true, true, true, false, false, false, false, false, false, false, false, false, false, false, false, false, false, false, false, false, false, false]

/-! ### tillerref13_Same: function 16 -/
def tillerref13_Same.l0 : Nat → List (S49) → List (S49) → Int → Int → Option (Bool)
 | 0, _, _, _, _ => none
 | k + 1, x0, x1, x12, x13 => if x13 < x12 then (if 0 ≤ x13 then (if x13 < (x0.length : Int) then (if x13 < (x1.length : Int) then (if ((rd_T49 x0 x13).f1) = ((rd_T49 x1 x13).f1) then (if (((rd_T49 x0 x13).f0).length : Int) = (((rd_T49 x1 x13).f0).length : Int) then ((tillerref13_Begins.f k ((rd_T49 x0 x13).f0) ((rd_T49 x1 x13).f0)).bind fun t248 => (if t248 = true then (tillerref13_Same.l0 k x0 x1 x12 (wrap64 (x13 + 1))) else (some false))) else (some false)) else (some false)) else (none)) else (none)) else (none)) else (some true)
def tillerref13_Same.f (k : Nat) (l0 : List (S49)) (l1 : List (S49)) : Option (Bool) := if (l0.length : Int) = (l1.length : Int) then (tillerref13_Same.l0 k l0 l1 (l0.length : Int) 0) else (some false)
theorem tillerref13_Same.mono_l : ∀ k, (∀ y0 y1 y2 y3, LeO (tillerref13_Same.l0 k y0 y1 y2 y3) (tillerref13_Same.l0 (k + 1) y0 y1 y2 y3))
 | 0 => fun _ _ _ _ r h => by simp [tillerref13_Same.l0] at h
 | k + 1 => by
  have ih0 := tillerref13_Same.mono_l k
  ·intro y0 y1 y2 y3
   unfold tillerref13_Same.l0
   repeat' first
   | (with_reducible exact ih0 _ _ _ _)
   | (with_reducible exact tillerref13_Begins.mono _ _ _)
   | (with_reducible exact LeO.refl _)
   | (with_reducible exact LeO.none _)
   | (with_reducible refine LeO.ite ?_ ?_)
   | (with_reducible refine LeO.bind ?_ (fun _ => ?_))
   | exact ih0 _ _ _ _
   | exact tillerref13_Begins.mono _ _ _
   | exact LeO.none _
   | refine LeO.ite ?_ ?_
   | refine LeO.bind ?_ (fun _ => ?_)
theorem tillerref13_Same.mono : ∀ a0 a1 k, LeO (tillerref13_Same.f k a0 a1) (tillerref13_Same.f (k + 1) a0 a1) := by
 intro a0 a1 k
 have ih0 := tillerref13_Same.mono_l k
 unfold tillerref13_Same.f
 repeat' first
   | (with_reducible exact ih0 _ _ _ _)
   | (with_reducible exact tillerref13_Begins.mono _ _ _)
   | (with_reducible exact LeO.refl _)
   | (with_reducible exact LeO.none _)
   | (with_reducible refine LeO.ite ?_ ?_)
   | (with_reducible refine LeO.bind ?_ (fun _ => ?_))
   | exact ih0 _ _ _ _
   | exact tillerref13_Begins.mono _ _ _
   | exact LeO.none _
   | refine LeO.ite ?_ ?_
   | refine LeO.bind ?_ (fun _ => ?_)
def tillerref13_Same.T6 : Bool × List (List Nat × List Nat) := (true, [([], []), ([], []), ([0, 1], [0, 1]), ([2], [2]), ([3], [3]), ([], []), ([], []), ([5, 6], [5, 6]), ([7], [7]), ([8], [8]), ([4, 9], [4, 9]), ([10], [10]), ([11], [11]), ([11], [11]), ([12, 13, 11], [11, 12, 13]), ([14, 11], [11, 14]), ([15, 11], [11, 15]), ([16, 11], [11, 16]), ([11], [11]), ([11], [11]), ([18, 19, 11], [11, 18, 19]), ([20, 11], [11, 20]), ([21, 11], [11, 21]), ([22, 11], [11, 22]), ([17, 23, 11], [11, 17, 23]), ([11, 24], [11, 24]), ([25, 11], [25]), ([26], [26]), ([26], [26]), ([27, 28, 26], [26, 27, 28]), ([29, 26], [26, 29]), ([30, 26], [26, 30]), ([26], [26]), ([26], [26]), ([32, 33, 26], [26, 32, 33]), ([34, 26], [26, 34]), ([35, 26], [26, 35]), ([31, 36, 26, 26], [26, 31, 36]), ([37, 26], [26, 37]), ([26, 38], [26, 38])])
def tillerref13_Same.B6 : List Nat := [0, 0, 3, 7, 15, 0, 0, 96, 224, 480, 1023, 2047, 4095, 4095, 16383, 32767, 65535, 131071, 4095, 4095, 790527, 1839103, 3936255, 8130559, 16777215, 33554431, 67108863, 134217727, 134217727, 536870911, 1073741823, 2147483647, 134217727, 134217727, 13019119615, 30198988799, 64558727167, 137438953471, 274877906943, 549755813887]
theorem tillerref13_Same.tab6 : rtab .any (opsOf Try.f16 6) = tillerref13_Same.T6 := by kernel_rfl
theorem tillerref13_Same.bits6 : waitsOk tillerref13_Same.T6.2 tillerref13_Same.B6 = true := by kernel_rfl
set_option maxHeartbeats 8000000 in
set_option maxRecDepth 100000 in
theorem tillerref13_Same.calls (k : Nat) (A0 : Option Addr) (c0 : Nat) (l0 : List (S49)) (A1 : Option Addr) (c1 : Nat) (l1 : List (S49)) (r : Bool) (w : World) (hr0 : Kd.C k49 w A0 l0.length l0) (hc0 : l0.length ≤ c0) (hr1 : Kd.C k49 w A1 l1.length l1) (hc1 : l1.length ≤ c1) (h : tillerref13_Same.f k l0 l1 = some r) :
  Calls Try.prog 16 #[.slice A0 l0.length c0, .slice A1 l1.length c1] w fun e w' => e = .returned (.bool r) ∧ Below w.heap.size w w' := by
 have HR0 := Aside0.mk hr0
 have HC0 := Aside0.mk hc0
 clear hr0 hc0
 have HR1 := Aside0.mk hr1
 have HC1 := Aside0.mk hc1
 clear hr1 hc1
 have HB := Aside0.mk (Below.refl w.heap.size w)
 have H : (if (l0.length : Int) = (l1.length : Int) then (tillerref13_Same.l0 k l0 l1 (l0.length : Int) 0) else (some false)) = some r := h
 clear h
 by_cases c3 : (l0.length : Int) = (l1.length : Int)
 ·rw [if_pos c3] at H
  have c3b0 : ((l0.length : Int) == (l1.length : Int)) = true := beq_iff_eq.mpr c3
  have c3b1 : ((l0.length : Int) != (l1.length : Int)) = false := bne_eq_false_iff_eq.mpr c3
  have c3b2 : (l0.length == l1.length) = true := by first | simpa using c3 | (simp at c3 ⊢; omega)
  clear c3
  have H' := Aside0.mk H
  clear H
  go_enter Try.func16, Try.ntmps16
  go_wp2
  go_loopg [13] k (fun kq v13 w' => ∃ (x13_1 : Int), v13 = .int .i64 x13_1 ∧ Aside0 (tillerref13_Same.l0 kq l0 l1 (l0.length : Int) x13_1 = some r) ∧ Aside0 (kq ≤ k) ∧ Aside0 (Below w.heap.size w w'))
  case atStart => exact ⟨(0), (by first | rfl | (simp; done) | (simp [*]; done)), H', ⟨Nat.le_refl _⟩, ⟨by repeat (first | (with_reducible first | exact HB.out | apply bwA | apply bwN | apply bwD) | exact HB.out)⟩⟩
  case round =>
   clear H'
   try clear c1
   try clear p2
   try clear c3
   try clear c3b0
   try clear c3b1
   try clear c3b2
   obtain ⟨x13_1, rfl, HA, HK1, HB⟩ := hrel
   cases gk with
   | zero => exact absurd HA.out (by simp [tillerref13_Same.l0])
   | succ k1 =>
    have H := HA.out
    clear HA
    simp only [tillerref13_Same.l0] at H
    by_cases c4 : x13_1 < (l0.length : Int)
    ·rw [if_pos c4] at H
     have c4b0 : decide (x13_1 < (l0.length : Int)) = true := decide_eq_true c4
     clear c4
     by_cases c5 : 0 ≤ x13_1
     ·rw [if_pos c5] at H
      have c5b0 : decide (0 ≤ x13_1) = true := decide_eq_true c5
      clear c5
      by_cases c6 : x13_1 < (l0.length : Int)
      ·rw [if_pos c6] at H
       have c6b0 : decide (x13_1 < (l0.length : Int)) = true := decide_eq_true c6
       clear c6
       by_cases c7 : x13_1 < (l1.length : Int)
       ·rw [if_pos c7] at H
        have c7b0 : decide (x13_1 < (l1.length : Int)) = true := decide_eq_true c7
        clear c7
        by_cases c8 : ((rd_T49 l0 x13_1).f1) = ((rd_T49 l1 x13_1).f1)
        ·rw [if_pos c8] at H
         have c8b0 : (((rd_T49 l0 x13_1).f1) == ((rd_T49 l1 x13_1).f1)) = true := beq_iff_eq.mpr c8
         have c8b1 : (((rd_T49 l0 x13_1).f1) != ((rd_T49 l1 x13_1).f1)) = false := bne_eq_false_iff_eq.mpr c8
         clear c8
         by_cases c9 : (((rd_T49 l0 x13_1).f0).length : Int) = (((rd_T49 l1 x13_1).f0).length : Int)
         ·rw [if_pos c9] at H
          have c9b0 : ((((rd_T49 l0 x13_1).f0).length : Int) == (((rd_T49 l1 x13_1).f0).length : Int)) = true := beq_iff_eq.mpr c9
          have c9b1 : ((((rd_T49 l0 x13_1).f0).length : Int) != (((rd_T49 l1 x13_1).f0).length : Int)) = false := bne_eq_false_iff_eq.mpr c9
          have c9b2 : (((rd_T49 l0 x13_1).f0).length == ((rd_T49 l1 x13_1).f0).length) = true := by first | simpa using c9 | (simp at c9 ⊢; omega)
          clear c9
          replace H := Option.bind_eq_some_iff.mp H
          obtain ⟨t248, A100, H⟩ := H
          replace H : (if t248 = true then (tillerref13_Same.l0 k1 l0 l1 (l0.length : Int) (wrap64 (x13_1 + 1))) else (some false)) = some r := H
          have A10 := Aside0.mk A100
          clear A100
          by_cases c11 : t248 = true
          ·subst c11
           have H1 : (tillerref13_Same.l0 k1 l0 l1 (l0.length : Int) (wrap64 (x13_1 + 1))) = some r := by rw [if_pos rfl] at H; exact H
           clear H
           have H := H1
           clear H1
           have H' := Aside0.mk H
           clear H
           try go_wp2
           have n0_ := Aside0.mk (below_drew1 HB.out)
           clear HB
           have HB := n0_
           clear n0_
           have p242 : 0 ≤ (x13_1 : Int) := ofd_
           have q242 : x13_1 < (l0.length : Int) := ofd_
           obtain ⟨ad242, A242_0, c242_0, e242, hx242_0, hx242_1, hl242_0, hi242_0⟩ := at_T49 HR0.out x13_1 p242 q242
           have hw242_1 := hx242_1
           have hw242_0 := hx242_0
           cases e242
           replace hx242_0 := (HB.out.cell (World.block_lt_of_cell? w _ hx242_0)).trans hx242_0
           replace hx242_1 := (HB.out.cell (World.block_lt_of_cell? w _ hx242_1)).trans hx242_1
           have HR242_0 := Aside0.mk hi242_0
           have HC242_0 := Aside0.mk hl242_0
           clear hi242_0 hl242_0
           replace p242 := eq_true p242
           replace q242 := eq_true q242
           have p243 : 0 ≤ (x13_1 : Int) := ofd_
           have q243 : x13_1 < (l1.length : Int) := ofd_
           obtain ⟨ad243, A243_0, c243_0, e243, hx243_0, hx243_1, hl243_0, hi243_0⟩ := at_T49 HR1.out x13_1 p243 q243
           have hw243_1 := hx243_1
           have hw243_0 := hx243_0
           cases e243
           replace hx243_0 := (HB.out.cell (World.block_lt_of_cell? w _ hx243_0)).trans hx243_0
           replace hx243_1 := (HB.out.cell (World.block_lt_of_cell? w _ hx243_1)).trans hx243_1
           have HR243_0 := Aside0.mk hi243_0
           have HC243_0 := Aside0.mk hl243_0
           clear hi243_0 hl243_0
           replace p243 := eq_true p243
           replace q243 := eq_true q243
           have p244 : 0 ≤ (x13_1 : Int) := ofd_
           have q244 : x13_1 < (l0.length : Int) := ofd_
           obtain ⟨ad244, A244_0, c244_0, e244, hx244_0, hx244_1, hl244_0, hi244_0⟩ := at_T49 HR0.out x13_1 p244 q244
           have hw244_1 := hx244_1
           have hw244_0 := hx244_0
           obtain rfl : ad242 = ad244 := (by injection e244)
           replace hx244_0 := (HB.out.cell (World.block_lt_of_cell? w _ hx244_0)).trans hx244_0
           replace hx244_1 := (HB.out.cell (World.block_lt_of_cell? w _ hx244_1)).trans hx244_1
           have HR244_0 := Aside0.mk hi244_0
           have HC244_0 := Aside0.mk hl244_0
           clear hi244_0 hl244_0
           replace p244 := eq_true p244
           replace q244 := eq_true q244
           have ea_ := Option.some.inj (hx242_0.symm.trans hx244_0)
           injection ea_ with ea_ en_ ec_
           subst ea_
           subst ec_
           clear en_
           have p245 : 0 ≤ (x13_1 : Int) := ofd_
           have q245 : x13_1 < (l1.length : Int) := ofd_
           obtain ⟨ad245, A245_0, c245_0, e245, hx245_0, hx245_1, hl245_0, hi245_0⟩ := at_T49 HR1.out x13_1 p245 q245
           have hw245_1 := hx245_1
           have hw245_0 := hx245_0
           obtain rfl : ad243 = ad245 := (by injection e245)
           replace hx245_0 := (HB.out.cell (World.block_lt_of_cell? w _ hx245_0)).trans hx245_0
           replace hx245_1 := (HB.out.cell (World.block_lt_of_cell? w _ hx245_1)).trans hx245_1
           have HR245_0 := Aside0.mk hi245_0
           have HC245_0 := Aside0.mk hl245_0
           clear hi245_0 hl245_0
           replace p245 := eq_true p245
           replace q245 := eq_true q245
           have ea_ := Option.some.inj (hx243_0.symm.trans hx245_0)
           injection ea_ with ea_ en_ ec_
           subst ea_
           subst ec_
           clear en_
           have p246 : 0 ≤ (x13_1 : Int) := ofd_
           have q246 : x13_1 < (l0.length : Int) := ofd_
           obtain ⟨ad246, A246_0, c246_0, e246, hx246_0, hx246_1, hl246_0, hi246_0⟩ := at_T49 HR0.out x13_1 p246 q246
           have hw246_1 := hx246_1
           have hw246_0 := hx246_0
           obtain rfl : ad242 = ad246 := (by injection e246)
           replace hx246_0 := (HB.out.cell (World.block_lt_of_cell? w _ hx246_0)).trans hx246_0
           replace hx246_1 := (HB.out.cell (World.block_lt_of_cell? w _ hx246_1)).trans hx246_1
           have HR246_0 := Aside0.mk hi246_0
           have HC246_0 := Aside0.mk hl246_0
           clear hi246_0 hl246_0
           replace p246 := eq_true p246
           replace q246 := eq_true q246
           have ea_ := Option.some.inj (hx242_0.symm.trans hx246_0)
           injection ea_ with ea_ en_ ec_
           subst ea_
           subst ec_
           clear en_
           have p247 : 0 ≤ (x13_1 : Int) := ofd_
           have q247 : x13_1 < (l1.length : Int) := ofd_
           obtain ⟨ad247, A247_0, c247_0, e247, hx247_0, hx247_1, hl247_0, hi247_0⟩ := at_T49 HR1.out x13_1 p247 q247
           have hw247_1 := hx247_1
           have hw247_0 := hx247_0
           obtain rfl : ad243 = ad247 := (by injection e247)
           replace hx247_0 := (HB.out.cell (World.block_lt_of_cell? w _ hx247_0)).trans hx247_0
           replace hx247_1 := (HB.out.cell (World.block_lt_of_cell? w _ hx247_1)).trans hx247_1
           have HR247_0 := Aside0.mk hi247_0
           have HC247_0 := Aside0.mk hl247_0
           clear hi247_0 hl247_0
           replace p247 := eq_true p247
           replace q247 := eq_true q247
           have ea_ := Option.some.inj (hx243_0.symm.trans hx247_0)
           injection ea_ with ea_ en_ ec_
           subst ea_
           subst ec_
           clear en_
           refine start_ (n := 40) (S := fun w' => w'.cell? (ad242.add ((x13_1).toNat * 2)) = some (.slice A242_0 ((rd_T49 l0 x13_1).f0).length c242_0) ∧ w'.cell? ⟨(ad242.add ((x13_1).toNat * 2)).block, (ad242.add ((x13_1).toNat * 2)).off + 1, none⟩ = some (.int .i64 ((rd_T49 l0 x13_1).f1)) ∧ w'.cell? (ad243.add ((x13_1).toNat * 2)) = some (.slice A243_0 ((rd_T49 l1 x13_1).f0).length c243_0) ∧ w'.cell? ⟨(ad243.add ((x13_1).toNat * 2)).block, (ad243.add ((x13_1).toNat * 2)).off + 1, none⟩ = some (.int .i64 ((rd_T49 l1 x13_1).f1)) ∧ w'.cell? (ad242.add ((x13_1).toNat * 2)) = some (.slice A242_0 ((rd_T49 l0 x13_1).f0).length c242_0) ∧ w'.cell? ⟨(ad242.add ((x13_1).toNat * 2)).block, (ad242.add ((x13_1).toNat * 2)).off + 1, none⟩ = some (.int .i64 ((rd_T49 l0 x13_1).f1)) ∧ w'.cell? (ad243.add ((x13_1).toNat * 2)) = some (.slice A243_0 ((rd_T49 l1 x13_1).f0).length c243_0) ∧ w'.cell? ⟨(ad243.add ((x13_1).toNat * 2)).block, (ad243.add ((x13_1).toNat * 2)).off + 1, none⟩ = some (.int .i64 ((rd_T49 l1 x13_1).f1)) ∧ w'.cell? (ad242.add ((x13_1).toNat * 2)) = some (.slice A242_0 ((rd_T49 l0 x13_1).f0).length c242_0) ∧ w'.cell? ⟨(ad242.add ((x13_1).toNat * 2)).block, (ad242.add ((x13_1).toNat * 2)).off + 1, none⟩ = some (.int .i64 ((rd_T49 l0 x13_1).f1)) ∧ w'.cell? (ad243.add ((x13_1).toNat * 2)) = some (.slice A243_0 ((rd_T49 l1 x13_1).f0).length c243_0) ∧ w'.cell? ⟨(ad243.add ((x13_1).toNat * 2)).block, (ad243.add ((x13_1).toNat * 2)).off + 1, none⟩ = some (.int .i64 ((rd_T49 l1 x13_1).f1))) (ds := []) T41421_0 (by kernel_rfl) rfl rfl ⟨((HB.out.cell (World.block_lt_of_cell? w _ hw242_0)).trans hw242_0), ((HB.out.cell (World.block_lt_of_cell? w _ hw242_1)).trans hw242_1), ((HB.out.cell (World.block_lt_of_cell? w _ hw243_0)).trans hw243_0), ((HB.out.cell (World.block_lt_of_cell? w _ hw243_1)).trans hw243_1), ((HB.out.cell (World.block_lt_of_cell? w _ hw244_0)).trans hw244_0), ((HB.out.cell (World.block_lt_of_cell? w _ hw244_1)).trans hw244_1), ((HB.out.cell (World.block_lt_of_cell? w _ hw245_0)).trans hw245_0), ((HB.out.cell (World.block_lt_of_cell? w _ hw245_1)).trans hw245_1), ((HB.out.cell (World.block_lt_of_cell? w _ hw246_0)).trans hw246_0), ((HB.out.cell (World.block_lt_of_cell? w _ hw246_1)).trans hw246_1), ((HB.out.cell (World.block_lt_of_cell? w _ hw247_0)).trans hw247_0), ((HB.out.cell (World.block_lt_of_cell? w _ hw247_1)).trans hw247_1)⟩ (fun hHeld => ?_); refine with_tabW tillerref13_Same.tab6 tillerref13_Same.bits6 (fun HT_ HW_ => ?_)
           generalize wr.drew = w12 at HB HR242_0 HR243_0 HR244_0 HR245_0 HR246_0 HR247_0 hx242_0 hx242_1 hx243_0 hx243_1 hx244_0 hx244_1 hx245_0 hx245_1 hx246_0 hx246_1 hx247_0 hx247_1 hHeld ⊢
           refine pure_ (i := 0) (N := some 16) (v := ?_) (a' := ?_) T41421_1 rfl rfl (any_of HT_.out (by kernel_rfl)) idq (.inl ⟨by rfl, ?_⟩) ?_ ?_
           rotate_left; ·intro w'; go_simp; with_reducible rfl
           rotate_left; ·simp only [Act.put, sqA, sqB, sqC, i64_w, i32_w]; rfl
           refine pure_ (i := 1) (N := some 17) (v := ?_) (a' := ?_) T41421_2 rfl rfl (any_of HT_.out (by kernel_rfl)) idq (.inl ⟨by rfl, ?_⟩) ?_ ?_
           rotate_left; ·intro w'; go_simp; with_reducible rfl
           rotate_left; ·simp only [Act.put, sqA, sqB, sqC, i64_w, i32_w]; rfl
           refine pure_ (i := 2) (N := some 18) (v := ?_) (a' := ?_) T41421_3 rfl rfl (any_of HT_.out (by kernel_rfl)) idq (.inl ⟨by rfl, ?_⟩) ?_ ?_
           rotate_left; ·intro w'; go_simp; with_reducible rfl
           rotate_left; ·simp only [Act.put, sqA, sqB, sqC, i64_w, i32_w]; rfl
           refine pure_ (i := 3) (N := some 19) (v := ?_) (a' := ?_) T41421_4 rfl rfl (any_of HT_.out (by kernel_rfl)) idq (.inl ⟨by rfl, ?_⟩) ?_ ?_
           rotate_left; ·intro w'; go_simp; with_reducible rfl
           rotate_left; ·simp only [Act.put, sqA, sqB, sqC, i64_w, i32_w]; rfl
           refine pure_ (i := 5) (N := some 21) (v := ?_) (a' := ?_) T41421_5 rfl rfl (any_of HT_.out (by kernel_rfl)) idq (.inl ⟨by rfl, ?_⟩) ?_ ?_
           rotate_left; ·intro w'; go_simp; with_reducible rfl
           rotate_left; ·simp only [Act.put, sqA, sqB, sqC, i64_w, i32_w]; rfl
           refine pure_ (i := 6) (N := some 22) (v := ?_) (a' := ?_) T41421_6 rfl rfl (any_of HT_.out (by kernel_rfl)) idq (.inl ⟨by rfl, ?_⟩) ?_ ?_
           rotate_left; ·intro w'; go_simp; with_reducible rfl
           rotate_left; ·simp only [Act.put, sqA, sqB, sqC, i64_w, i32_w]; rfl
           refine pure_ (i := 7) (N := some 23) (v := ?_) (a' := ?_) T41421_7 rfl rfl (any_of HT_.out (by kernel_rfl)) idq (.inl ⟨by rfl, ?_⟩) ?_ ?_
           rotate_left; ·intro w'; go_simp; with_reducible rfl
           rotate_left; ·simp only [Act.put, sqA, sqB, sqC, i64_w, i32_w]; rfl
           refine pure_ (i := 8) (N := some 24) (v := ?_) (a' := ?_) T41421_8 rfl rfl (any_of HT_.out (by kernel_rfl)) idq (.inl ⟨by rfl, ?_⟩) ?_ ?_
           rotate_left; ·intro w'; go_simp; with_reducible rfl
           rotate_left; ·simp only [Act.put, sqA, sqB, sqC, i64_w, i32_w]; rfl
           refine take_ (i := 4) (N := some 20) (v := ?_) (a' := ?_) T41421_9 rfl rfl (take_ofW HT_.out HW_.out (by kernel_rfl)) idq (.inl ⟨by rfl, ?_⟩) hHeld ?_ ?_
           rotate_left
           ·rintro w' ⟨s0, s1, s2, s3, s4, s5, s6, s7, s8, s9, s10, s11⟩
            go_simp
            with_reducible rfl
           rotate_left; ·simp only [Act.put, sqA, sqB, sqC, i64_w, i32_w]; rfl
           refine take_ (i := 9) (N := some 25) (v := ?_) (a' := ?_) T41421_10 rfl rfl (take_ofW HT_.out HW_.out (by kernel_rfl)) idq (.inl ⟨by rfl, ?_⟩) hHeld ?_ ?_
           rotate_left
           ·rintro w' ⟨s0, s1, s2, s3, s4, s5, s6, s7, s8, s9, s10, s11⟩
            go_simp
            with_reducible rfl
           rotate_left; ·simp only [Act.put, sqA, sqB, sqC, i64_w, i32_w]; rfl
           refine pure_ (i := 10) (N := some 26) (v := ?_) (a' := ?_) T41421_11 rfl rfl (any_of HT_.out (by kernel_rfl)) idq (.inl ⟨by rfl, ?_⟩) ?_ ?_
           rotate_left; ·intro w'; go_simp; with_reducible rfl
           rotate_left; ·simp only [Act.put, sqA, sqB, sqC, i64_w, i32_w]; rfl
           refine pure_ (i := 11) (N := some 27) (v := ?_) (a' := ?_) T41421_12 rfl rfl (any_of HT_.out (by kernel_rfl)) idq (.inl ⟨by rfl, ?_⟩) ?_ ?_
           rotate_left; ·intro w'; go_simp; with_reducible rfl
           rotate_left; ·simp only [Act.put, sqA, sqB, sqC, i64_w, i32_w]; rfl
           refine pure_ (i := 12) (N := some 28) (v := ?_) (a' := ?_) T41421_13 rfl rfl (any_of HT_.out (by kernel_rfl)) idq (.inl ⟨by rfl, ?_⟩) ?_ ?_
           rotate_left; ·intro w'; go_simp; with_reducible rfl
           rotate_left; ·simp only [Act.put, sqA, sqB, sqC, i64_w, i32_w]; rfl
           refine pure_ (i := 13) (N := some 29) (v := ?_) (a' := ?_) T41421_14 rfl rfl (any_of HT_.out (by kernel_rfl)) idq (.inl ⟨by rfl, ?_⟩) ?_ ?_
           rotate_left; ·intro w'; go_simp; with_reducible rfl
           rotate_left; ·simp only [Act.put, sqA, sqB, sqC, i64_w, i32_w]; rfl
           refine pure_ (i := 14) (N := some 30) (v := ?_) (a' := ?_) T41421_15 rfl rfl (any_of HT_.out (by kernel_rfl)) idq (.inl ⟨by rfl, ?_⟩) ?_ ?_
           rotate_left; ·intro w'; go_simp; with_reducible rfl
           rotate_left; ·simp only [Act.put, sqA, sqB, sqC, i64_w, i32_w]; rfl
           refine pure_ (i := 15) (N := some 31) (v := ?_) (a' := ?_) T41421_16 rfl rfl (any_of HT_.out (by kernel_rfl)) idq (.inl ⟨by rfl, ?_⟩) ?_ ?_
           rotate_left; ·intro w'; go_simp; with_reducible rfl
           rotate_left; ·simp only [Act.put, sqA, sqB, sqC, i64_w, i32_w]; rfl
           refine pure_ (i := 18) (N := some 34) (v := ?_) (a' := ?_) T41421_17 rfl rfl (any_of HT_.out (by kernel_rfl)) idq (.inl ⟨by rfl, ?_⟩) ?_ ?_
           rotate_left; ·intro w'; go_simp; with_reducible rfl
           rotate_left; ·simp only [Act.put, sqA, sqB, sqC, i64_w, i32_w]; rfl
           refine pure_ (i := 19) (N := some 35) (v := ?_) (a' := ?_) T41421_18 rfl rfl (any_of HT_.out (by kernel_rfl)) idq (.inl ⟨by rfl, ?_⟩) ?_ ?_
           rotate_left; ·intro w'; go_simp; with_reducible rfl
           rotate_left; ·simp only [Act.put, sqA, sqB, sqC, i64_w, i32_w]; rfl
           refine pure_ (i := 20) (N := some 36) (v := ?_) (a' := ?_) T41421_19 rfl rfl (any_of HT_.out (by kernel_rfl)) idq (.inl ⟨by rfl, ?_⟩) ?_ ?_
           rotate_left; ·intro w'; go_simp; with_reducible rfl
           rotate_left; ·simp only [Act.put, sqA, sqB, sqC, i64_w, i32_w]; rfl
           refine pure_ (i := 21) (N := some 37) (v := ?_) (a' := ?_) T41421_20 rfl rfl (any_of HT_.out (by kernel_rfl)) idq (.inl ⟨by rfl, ?_⟩) ?_ ?_
           rotate_left; ·intro w'; go_simp; with_reducible rfl
           rotate_left; ·simp only [Act.put, sqA, sqB, sqC, i64_w, i32_w]; rfl
           refine take_ (i := 16) (N := some 32) (v := ?_) (a' := ?_) T41421_21 rfl rfl (take_ofW HT_.out HW_.out (by kernel_rfl)) idq (.inl ⟨by rfl, ?_⟩) hHeld ?_ ?_
           rotate_left
           ·rintro w' ⟨s0, s1, s2, s3, s4, s5, s6, s7, s8, s9, s10, s11⟩
            go_simp
            with_reducible rfl
           rotate_left; ·simp only [Act.put, sqA, sqB, sqC, i64_w, i32_w]; rfl
           refine pure_ (i := 17) (N := some 33) (v := ?_) (a' := ?_) T41421_22 rfl rfl (any_of HT_.out (by kernel_rfl)) idq (.inl ⟨by rfl, ?_⟩) ?_ ?_
           rotate_left; ·intro w'; go_simp; with_reducible rfl
           rotate_left; ·simp only [Act.put, sqA, sqB, sqC, i64_w, i32_w]; rfl
           refine take_ (i := 22) (N := some 38) (v := ?_) (a' := ?_) T41421_23 rfl rfl (take_ofW HT_.out HW_.out (by kernel_rfl)) idq (.inl ⟨by rfl, ?_⟩) hHeld ?_ ?_
           rotate_left
           ·rintro w' ⟨s0, s1, s2, s3, s4, s5, s6, s7, s8, s9, s10, s11⟩
            go_simp
            with_reducible rfl
           rotate_left; ·simp only [Act.put, sqA, sqB, sqC, i64_w, i32_w]; rfl
           refine pure_ (i := 23) (N := some 39) (v := ?_) (a' := ?_) T41421_24 rfl rfl (any_of HT_.out (by kernel_rfl)) idq (.inl ⟨by rfl, ?_⟩) ?_ ?_
           rotate_left; ·intro w'; go_simp; with_reducible rfl
           rotate_left; ·simp only [Act.put, sqA, sqB, sqC, i64_w, i32_w]; rfl
           refine pure_ (i := 24) (N := some 40) (v := ?_) (a' := ?_) T41421_25 rfl rfl (any_of HT_.out (by kernel_rfl)) idq (.inl ⟨by rfl, ?_⟩) ?_ ?_
           rotate_left; ·intro w'; go_simp; with_reducible rfl
           rotate_left; ·simp only [Act.put, sqA, sqB, sqC, i64_w, i32_w]; rfl
           refine pure_ (i := 25) (N := some 41) (v := ?_) (a' := ?_) T41421_26 rfl rfl (any_of HT_.out (by kernel_rfl)) idq (.inl ⟨by rfl, ?_⟩) ?_ ?_
           rotate_left; ·intro w'; go_simp; with_reducible rfl
           rotate_left; ·simp only [Act.put, sqA, sqB, sqC, i64_w, i32_w]; rfl
           refine pure_ (i := 26) (N := some 42) (v := ?_) (a' := ?_) T41421_27 rfl rfl (any_of HT_.out (by kernel_rfl)) idq (.inl ⟨by rfl, ?_⟩) ?_ ?_
           rotate_left; ·intro w'; go_simp; with_reducible rfl
           rotate_left; ·simp only [Act.put, sqA, sqB, sqC, i64_w, i32_w]; rfl
           refine pure_ (i := 27) (N := some 43) (v := ?_) (a' := ?_) T41421_28 rfl rfl (any_of HT_.out (by kernel_rfl)) idq (.inl ⟨by rfl, ?_⟩) ?_ ?_
           rotate_left; ·intro w'; go_simp; with_reducible rfl
           rotate_left; ·simp only [Act.put, sqA, sqB, sqC, i64_w, i32_w]; rfl
           refine pure_ (i := 28) (N := some 44) (v := ?_) (a' := ?_) T41421_29 rfl rfl (any_of HT_.out (by kernel_rfl)) idq (.inl ⟨by rfl, ?_⟩) ?_ ?_
           rotate_left; ·intro w'; go_simp; with_reducible rfl
           rotate_left; ·simp only [Act.put, sqA, sqB, sqC, i64_w, i32_w]; rfl
           refine pure_ (i := 29) (N := some 45) (v := ?_) (a' := ?_) T41421_30 rfl rfl (any_of HT_.out (by kernel_rfl)) idq (.inl ⟨by rfl, ?_⟩) ?_ ?_
           rotate_left; ·intro w'; go_simp; with_reducible rfl
           rotate_left; ·simp only [Act.put, sqA, sqB, sqC, i64_w, i32_w]; rfl
           refine pure_ (i := 30) (N := some 46) (v := ?_) (a' := ?_) T41421_31 rfl rfl (any_of HT_.out (by kernel_rfl)) idq (.inl ⟨by rfl, ?_⟩) ?_ ?_
           rotate_left; ·intro w'; go_simp; with_reducible rfl
           rotate_left; ·simp only [Act.put, sqA, sqB, sqC, i64_w, i32_w]; rfl
           refine pure_ (i := 32) (N := some 48) (v := ?_) (a' := ?_) T41421_32 rfl rfl (any_of HT_.out (by kernel_rfl)) idq (.inl ⟨by rfl, ?_⟩) ?_ ?_
           rotate_left; ·intro w'; go_simp; with_reducible rfl
           rotate_left; ·simp only [Act.put, sqA, sqB, sqC, i64_w, i32_w]; rfl
           refine pure_ (i := 33) (N := some 49) (v := ?_) (a' := ?_) T41421_33 rfl rfl (any_of HT_.out (by kernel_rfl)) idq (.inl ⟨by rfl, ?_⟩) ?_ ?_
           rotate_left; ·intro w'; go_simp; with_reducible rfl
           rotate_left; ·simp only [Act.put, sqA, sqB, sqC, i64_w, i32_w]; rfl
           refine pure_ (i := 34) (N := some 50) (v := ?_) (a' := ?_) T41421_34 rfl rfl (any_of HT_.out (by kernel_rfl)) idq (.inl ⟨by rfl, ?_⟩) ?_ ?_
           rotate_left; ·intro w'; go_simp; with_reducible rfl
           rotate_left; ·simp only [Act.put, sqA, sqB, sqC, i64_w, i32_w]; rfl
           refine pure_ (i := 35) (N := some 51) (v := ?_) (a' := ?_) T41421_35 rfl rfl (any_of HT_.out (by kernel_rfl)) idq (.inl ⟨by rfl, ?_⟩) ?_ ?_
           rotate_left; ·intro w'; go_simp; with_reducible rfl
           rotate_left; ·simp only [Act.put, sqA, sqB, sqC, i64_w, i32_w]; rfl
           refine take_ (i := 31) (N := some 47) (v := ?_) (a' := ?_) T41421_36 rfl rfl (take_ofW HT_.out HW_.out (by kernel_rfl)) idq (.inl ⟨by rfl, ?_⟩) hHeld ?_ ?_
           rotate_left
           ·rintro w' ⟨s0, s1, s2, s3, s4, s5, s6, s7, s8, s9, s10, s11⟩
            go_simp
            with_reducible rfl
           rotate_left; ·simp only [Act.put, sqA, sqB, sqC, i64_w, i32_w]; rfl
           refine take_ (i := 36) (N := some 52) (v := ?_) (a' := ?_) T41421_37 rfl rfl (take_ofW HT_.out HW_.out (by kernel_rfl)) idq (.inl ⟨by rfl, ?_⟩) hHeld ?_ ?_
           rotate_left
           ·rintro w' ⟨s0, s1, s2, s3, s4, s5, s6, s7, s8, s9, s10, s11⟩
            go_simp
            with_reducible rfl
           rotate_left; ·simp only [Act.put, sqA, sqB, sqC, i64_w, i32_w]; rfl
           refine one_ (i := 37) (N := some 53) T41421_38 rfl rfl (one_of HT_.out (by kernel_rfl)) (by decide) (fun K hK => ?_)
           refine goes_ Try.func28 (by kernel_rfl) rfl #[.slice A242_0 ((rd_T49 l0 x13_1).f0).length c242_0, .slice A243_0 ((rd_T49 l1 x13_1).f0).length c243_0] (by rfl) rfl rfl (by (try simp only [List.map_toArray, List.map_cons, List.map_nil]); first | done | rfl | (simp only [List.length_drop, List.length_take]; rfl)) ?_
           with_reducible refine (tillerref13_Begins.calls k1 _ _ ((rd_T49 l0 x13_1).f0) _ _ ((rd_T49 l1 x13_1).f0) true _ ?side1 ?side2 ?side3 ?side4 A10.out).mono ?_
           (case side1 => repeat (first | exact (Kd.C_below HR246_0.out HB.out) | (with_reducible refine Kd.C_alloc ?_ _) | (with_reducible refine Kd.C_drewN ?_ _) | (with_reducible refine Kd.C_drew ?_)))
           (case side2 => exact HC246_0.out)
           (case side3 => repeat (first | exact (Kd.C_below HR247_0.out HB.out) | (with_reducible refine Kd.C_alloc ?_ _) | (with_reducible refine Kd.C_drewN ?_ _) | (with_reducible refine Kd.C_drew ?_)))
           (case side4 => exact HC247_0.out)
           rintro e w' ⟨rfl, ⟨nd, rfl⟩⟩
           refine ⟨_, rfl, ?_⟩
           refine hK.out _ _ ⟨((HB.out.cell (World.block_lt_of_cell? w _ hw242_0)).trans hw242_0), ((HB.out.cell (World.block_lt_of_cell? w _ hw242_1)).trans hw242_1), ((HB.out.cell (World.block_lt_of_cell? w _ hw243_0)).trans hw243_0), ((HB.out.cell (World.block_lt_of_cell? w _ hw243_1)).trans hw243_1), ((HB.out.cell (World.block_lt_of_cell? w _ hw244_0)).trans hw244_0), ((HB.out.cell (World.block_lt_of_cell? w _ hw244_1)).trans hw244_1), ((HB.out.cell (World.block_lt_of_cell? w _ hw245_0)).trans hw245_0), ((HB.out.cell (World.block_lt_of_cell? w _ hw245_1)).trans hw245_1), ((HB.out.cell (World.block_lt_of_cell? w _ hw246_0)).trans hw246_0), ((HB.out.cell (World.block_lt_of_cell? w _ hw246_1)).trans hw246_1), ((HB.out.cell (World.block_lt_of_cell? w _ hw247_0)).trans hw247_0), ((HB.out.cell (World.block_lt_of_cell? w _ hw247_1)).trans hw247_1)⟩ (fun hHeld => ?_)
           clear hK K
           refine norm_ (a' := ?_) ?_ ?_
           rotate_left
           ·show Act.put _ (some 53) _ = _
            simp only [Act.put, sqA, sqB, sqC, i64_w, i32_w]
            rfl
           refine pure_ (i := 38) (N := some 54) (v := ?_) (a' := ?_) T41421_39 rfl rfl (any_of HT_.out (by kernel_rfl)) idq (.inl ⟨by rfl, ?_⟩) ?_ ?_
           rotate_left; ·intro w'; go_simp; with_reducible rfl
           rotate_left; ·simp only [Act.put, sqA, sqB, sqC, i64_w, i32_w]; rfl
           refine pure_ (i := 39) (N := some 55) (v := ?_) (a' := ?_) T41421_40 rfl rfl (any_of HT_.out (by kernel_rfl)) idq (.inl ⟨by rfl, ?_⟩) ?_ ?_
           rotate_left; ·intro w'; go_simp; with_reducible rfl
           rotate_left; ·simp only [Act.put, sqA, sqB, sqC, i64_w, i32_w]; rfl
           refine done_ (done_of HT_.out (by kernel_rfl)) ?_
           try go_wp2
           go_roundg k1
           case measure => have := HK1.out; omega
           case rel => exact ⟨(wrap64 (x13_1 + 1)), (by first | rfl | (simp; done) | (simp [*]; done)), H', ⟨by have := HK1.out; omega⟩, ⟨by repeat (first | (with_reducible first | exact HB.out | apply bwA | apply bwN | apply bwD) | exact HB.out)⟩⟩
          ·replace c11 := Bool.eq_false_iff.mpr c11
           subst c11
           have H1 : (some false) = some r := by rw [if_neg (show ¬ (false = true) by decide)] at H; exact H
           clear H
           have H := H1
           clear H1
           obtain rfl := Option.some.inj H
           try go_wp2
           have n0_ := Aside0.mk (below_drew1 HB.out)
           clear HB
           have HB := n0_
           clear n0_
           have p242 : 0 ≤ (x13_1 : Int) := ofd_
           have q242 : x13_1 < (l0.length : Int) := ofd_
           obtain ⟨ad242, A242_0, c242_0, e242, hx242_0, hx242_1, hl242_0, hi242_0⟩ := at_T49 HR0.out x13_1 p242 q242
           have hw242_1 := hx242_1
           have hw242_0 := hx242_0
           cases e242
           replace hx242_0 := (HB.out.cell (World.block_lt_of_cell? w _ hx242_0)).trans hx242_0
           replace hx242_1 := (HB.out.cell (World.block_lt_of_cell? w _ hx242_1)).trans hx242_1
           have HR242_0 := Aside0.mk hi242_0
           have HC242_0 := Aside0.mk hl242_0
           clear hi242_0 hl242_0
           replace p242 := eq_true p242
           replace q242 := eq_true q242
           have p243 : 0 ≤ (x13_1 : Int) := ofd_
           have q243 : x13_1 < (l1.length : Int) := ofd_
           obtain ⟨ad243, A243_0, c243_0, e243, hx243_0, hx243_1, hl243_0, hi243_0⟩ := at_T49 HR1.out x13_1 p243 q243
           have hw243_1 := hx243_1
           have hw243_0 := hx243_0
           cases e243
           replace hx243_0 := (HB.out.cell (World.block_lt_of_cell? w _ hx243_0)).trans hx243_0
           replace hx243_1 := (HB.out.cell (World.block_lt_of_cell? w _ hx243_1)).trans hx243_1
           have HR243_0 := Aside0.mk hi243_0
           have HC243_0 := Aside0.mk hl243_0
           clear hi243_0 hl243_0
           replace p243 := eq_true p243
           replace q243 := eq_true q243
           have p244 : 0 ≤ (x13_1 : Int) := ofd_
           have q244 : x13_1 < (l0.length : Int) := ofd_
           obtain ⟨ad244, A244_0, c244_0, e244, hx244_0, hx244_1, hl244_0, hi244_0⟩ := at_T49 HR0.out x13_1 p244 q244
           have hw244_1 := hx244_1
           have hw244_0 := hx244_0
           obtain rfl : ad242 = ad244 := (by injection e244)
           replace hx244_0 := (HB.out.cell (World.block_lt_of_cell? w _ hx244_0)).trans hx244_0
           replace hx244_1 := (HB.out.cell (World.block_lt_of_cell? w _ hx244_1)).trans hx244_1
           have HR244_0 := Aside0.mk hi244_0
           have HC244_0 := Aside0.mk hl244_0
           clear hi244_0 hl244_0
           replace p244 := eq_true p244
           replace q244 := eq_true q244
           have ea_ := Option.some.inj (hx242_0.symm.trans hx244_0)
           injection ea_ with ea_ en_ ec_
           subst ea_
           subst ec_
           clear en_
           have p245 : 0 ≤ (x13_1 : Int) := ofd_
           have q245 : x13_1 < (l1.length : Int) := ofd_
           obtain ⟨ad245, A245_0, c245_0, e245, hx245_0, hx245_1, hl245_0, hi245_0⟩ := at_T49 HR1.out x13_1 p245 q245
           have hw245_1 := hx245_1
           have hw245_0 := hx245_0
           obtain rfl : ad243 = ad245 := (by injection e245)
           replace hx245_0 := (HB.out.cell (World.block_lt_of_cell? w _ hx245_0)).trans hx245_0
           replace hx245_1 := (HB.out.cell (World.block_lt_of_cell? w _ hx245_1)).trans hx245_1
           have HR245_0 := Aside0.mk hi245_0
           have HC245_0 := Aside0.mk hl245_0
           clear hi245_0 hl245_0
           replace p245 := eq_true p245
           replace q245 := eq_true q245
           have ea_ := Option.some.inj (hx243_0.symm.trans hx245_0)
           injection ea_ with ea_ en_ ec_
           subst ea_
           subst ec_
           clear en_
           have p246 : 0 ≤ (x13_1 : Int) := ofd_
           have q246 : x13_1 < (l0.length : Int) := ofd_
           obtain ⟨ad246, A246_0, c246_0, e246, hx246_0, hx246_1, hl246_0, hi246_0⟩ := at_T49 HR0.out x13_1 p246 q246
           have hw246_1 := hx246_1
           have hw246_0 := hx246_0
           obtain rfl : ad242 = ad246 := (by injection e246)
           replace hx246_0 := (HB.out.cell (World.block_lt_of_cell? w _ hx246_0)).trans hx246_0
           replace hx246_1 := (HB.out.cell (World.block_lt_of_cell? w _ hx246_1)).trans hx246_1
           have HR246_0 := Aside0.mk hi246_0
           have HC246_0 := Aside0.mk hl246_0
           clear hi246_0 hl246_0
           replace p246 := eq_true p246
           replace q246 := eq_true q246
           have ea_ := Option.some.inj (hx242_0.symm.trans hx246_0)
           injection ea_ with ea_ en_ ec_
           subst ea_
           subst ec_
           clear en_
           have p247 : 0 ≤ (x13_1 : Int) := ofd_
           have q247 : x13_1 < (l1.length : Int) := ofd_
           obtain ⟨ad247, A247_0, c247_0, e247, hx247_0, hx247_1, hl247_0, hi247_0⟩ := at_T49 HR1.out x13_1 p247 q247
           have hw247_1 := hx247_1
           have hw247_0 := hx247_0
           obtain rfl : ad243 = ad247 := (by injection e247)
           replace hx247_0 := (HB.out.cell (World.block_lt_of_cell? w _ hx247_0)).trans hx247_0
           replace hx247_1 := (HB.out.cell (World.block_lt_of_cell? w _ hx247_1)).trans hx247_1
           have HR247_0 := Aside0.mk hi247_0
           have HC247_0 := Aside0.mk hl247_0
           clear hi247_0 hl247_0
           replace p247 := eq_true p247
           replace q247 := eq_true q247
           have ea_ := Option.some.inj (hx243_0.symm.trans hx247_0)
           injection ea_ with ea_ en_ ec_
           subst ea_
           subst ec_
           clear en_
           refine start_ (n := 40) (S := fun w' => w'.cell? (ad242.add ((x13_1).toNat * 2)) = some (.slice A242_0 ((rd_T49 l0 x13_1).f0).length c242_0) ∧ w'.cell? ⟨(ad242.add ((x13_1).toNat * 2)).block, (ad242.add ((x13_1).toNat * 2)).off + 1, none⟩ = some (.int .i64 ((rd_T49 l0 x13_1).f1)) ∧ w'.cell? (ad243.add ((x13_1).toNat * 2)) = some (.slice A243_0 ((rd_T49 l1 x13_1).f0).length c243_0) ∧ w'.cell? ⟨(ad243.add ((x13_1).toNat * 2)).block, (ad243.add ((x13_1).toNat * 2)).off + 1, none⟩ = some (.int .i64 ((rd_T49 l1 x13_1).f1)) ∧ w'.cell? (ad242.add ((x13_1).toNat * 2)) = some (.slice A242_0 ((rd_T49 l0 x13_1).f0).length c242_0) ∧ w'.cell? ⟨(ad242.add ((x13_1).toNat * 2)).block, (ad242.add ((x13_1).toNat * 2)).off + 1, none⟩ = some (.int .i64 ((rd_T49 l0 x13_1).f1)) ∧ w'.cell? (ad243.add ((x13_1).toNat * 2)) = some (.slice A243_0 ((rd_T49 l1 x13_1).f0).length c243_0) ∧ w'.cell? ⟨(ad243.add ((x13_1).toNat * 2)).block, (ad243.add ((x13_1).toNat * 2)).off + 1, none⟩ = some (.int .i64 ((rd_T49 l1 x13_1).f1)) ∧ w'.cell? (ad242.add ((x13_1).toNat * 2)) = some (.slice A242_0 ((rd_T49 l0 x13_1).f0).length c242_0) ∧ w'.cell? ⟨(ad242.add ((x13_1).toNat * 2)).block, (ad242.add ((x13_1).toNat * 2)).off + 1, none⟩ = some (.int .i64 ((rd_T49 l0 x13_1).f1)) ∧ w'.cell? (ad243.add ((x13_1).toNat * 2)) = some (.slice A243_0 ((rd_T49 l1 x13_1).f0).length c243_0) ∧ w'.cell? ⟨(ad243.add ((x13_1).toNat * 2)).block, (ad243.add ((x13_1).toNat * 2)).off + 1, none⟩ = some (.int .i64 ((rd_T49 l1 x13_1).f1))) (ds := []) T41421_0 (by kernel_rfl) rfl rfl ⟨((HB.out.cell (World.block_lt_of_cell? w _ hw242_0)).trans hw242_0), ((HB.out.cell (World.block_lt_of_cell? w _ hw242_1)).trans hw242_1), ((HB.out.cell (World.block_lt_of_cell? w _ hw243_0)).trans hw243_0), ((HB.out.cell (World.block_lt_of_cell? w _ hw243_1)).trans hw243_1), ((HB.out.cell (World.block_lt_of_cell? w _ hw244_0)).trans hw244_0), ((HB.out.cell (World.block_lt_of_cell? w _ hw244_1)).trans hw244_1), ((HB.out.cell (World.block_lt_of_cell? w _ hw245_0)).trans hw245_0), ((HB.out.cell (World.block_lt_of_cell? w _ hw245_1)).trans hw245_1), ((HB.out.cell (World.block_lt_of_cell? w _ hw246_0)).trans hw246_0), ((HB.out.cell (World.block_lt_of_cell? w _ hw246_1)).trans hw246_1), ((HB.out.cell (World.block_lt_of_cell? w _ hw247_0)).trans hw247_0), ((HB.out.cell (World.block_lt_of_cell? w _ hw247_1)).trans hw247_1)⟩ (fun hHeld => ?_); refine with_tabW tillerref13_Same.tab6 tillerref13_Same.bits6 (fun HT_ HW_ => ?_)
           generalize wr.drew = w13 at HB HR242_0 HR243_0 HR244_0 HR245_0 HR246_0 HR247_0 hx242_0 hx242_1 hx243_0 hx243_1 hx244_0 hx244_1 hx245_0 hx245_1 hx246_0 hx246_1 hx247_0 hx247_1 hHeld ⊢
           refine pure_ (i := 0) (N := some 16) (v := ?_) (a' := ?_) T41421_1 rfl rfl (any_of HT_.out (by kernel_rfl)) idq (.inl ⟨by rfl, ?_⟩) ?_ ?_
           rotate_left; ·intro w'; go_simp; with_reducible rfl
           rotate_left; ·simp only [Act.put, sqA, sqB, sqC, i64_w, i32_w]; rfl
           refine pure_ (i := 1) (N := some 17) (v := ?_) (a' := ?_) T41421_2 rfl rfl (any_of HT_.out (by kernel_rfl)) idq (.inl ⟨by rfl, ?_⟩) ?_ ?_
           rotate_left; ·intro w'; go_simp; with_reducible rfl
           rotate_left; ·simp only [Act.put, sqA, sqB, sqC, i64_w, i32_w]; rfl
           refine pure_ (i := 2) (N := some 18) (v := ?_) (a' := ?_) T41421_3 rfl rfl (any_of HT_.out (by kernel_rfl)) idq (.inl ⟨by rfl, ?_⟩) ?_ ?_
           rotate_left; ·intro w'; go_simp; with_reducible rfl
           rotate_left; ·simp only [Act.put, sqA, sqB, sqC, i64_w, i32_w]; rfl
           refine pure_ (i := 3) (N := some 19) (v := ?_) (a' := ?_) T41421_4 rfl rfl (any_of HT_.out (by kernel_rfl)) idq (.inl ⟨by rfl, ?_⟩) ?_ ?_
           rotate_left; ·intro w'; go_simp; with_reducible rfl
           rotate_left; ·simp only [Act.put, sqA, sqB, sqC, i64_w, i32_w]; rfl
           refine pure_ (i := 5) (N := some 21) (v := ?_) (a' := ?_) T41421_5 rfl rfl (any_of HT_.out (by kernel_rfl)) idq (.inl ⟨by rfl, ?_⟩) ?_ ?_
           rotate_left; ·intro w'; go_simp; with_reducible rfl
           rotate_left; ·simp only [Act.put, sqA, sqB, sqC, i64_w, i32_w]; rfl
           refine pure_ (i := 6) (N := some 22) (v := ?_) (a' := ?_) T41421_6 rfl rfl (any_of HT_.out (by kernel_rfl)) idq (.inl ⟨by rfl, ?_⟩) ?_ ?_
           rotate_left; ·intro w'; go_simp; with_reducible rfl
           rotate_left; ·simp only [Act.put, sqA, sqB, sqC, i64_w, i32_w]; rfl
           refine pure_ (i := 7) (N := some 23) (v := ?_) (a' := ?_) T41421_7 rfl rfl (any_of HT_.out (by kernel_rfl)) idq (.inl ⟨by rfl, ?_⟩) ?_ ?_
           rotate_left; ·intro w'; go_simp; with_reducible rfl
           rotate_left; ·simp only [Act.put, sqA, sqB, sqC, i64_w, i32_w]; rfl
           refine pure_ (i := 8) (N := some 24) (v := ?_) (a' := ?_) T41421_8 rfl rfl (any_of HT_.out (by kernel_rfl)) idq (.inl ⟨by rfl, ?_⟩) ?_ ?_
           rotate_left; ·intro w'; go_simp; with_reducible rfl
           rotate_left; ·simp only [Act.put, sqA, sqB, sqC, i64_w, i32_w]; rfl
           refine take_ (i := 4) (N := some 20) (v := ?_) (a' := ?_) T41421_9 rfl rfl (take_ofW HT_.out HW_.out (by kernel_rfl)) idq (.inl ⟨by rfl, ?_⟩) hHeld ?_ ?_
           rotate_left
           ·rintro w' ⟨s0, s1, s2, s3, s4, s5, s6, s7, s8, s9, s10, s11⟩
            go_simp
            with_reducible rfl
           rotate_left; ·simp only [Act.put, sqA, sqB, sqC, i64_w, i32_w]; rfl
           refine take_ (i := 9) (N := some 25) (v := ?_) (a' := ?_) T41421_10 rfl rfl (take_ofW HT_.out HW_.out (by kernel_rfl)) idq (.inl ⟨by rfl, ?_⟩) hHeld ?_ ?_
           rotate_left
           ·rintro w' ⟨s0, s1, s2, s3, s4, s5, s6, s7, s8, s9, s10, s11⟩
            go_simp
            with_reducible rfl
           rotate_left; ·simp only [Act.put, sqA, sqB, sqC, i64_w, i32_w]; rfl
           refine pure_ (i := 10) (N := some 26) (v := ?_) (a' := ?_) T41421_11 rfl rfl (any_of HT_.out (by kernel_rfl)) idq (.inl ⟨by rfl, ?_⟩) ?_ ?_
           rotate_left; ·intro w'; go_simp; with_reducible rfl
           rotate_left; ·simp only [Act.put, sqA, sqB, sqC, i64_w, i32_w]; rfl
           refine pure_ (i := 11) (N := some 27) (v := ?_) (a' := ?_) T41421_12 rfl rfl (any_of HT_.out (by kernel_rfl)) idq (.inl ⟨by rfl, ?_⟩) ?_ ?_
           rotate_left; ·intro w'; go_simp; with_reducible rfl
           rotate_left; ·simp only [Act.put, sqA, sqB, sqC, i64_w, i32_w]; rfl
           refine pure_ (i := 12) (N := some 28) (v := ?_) (a' := ?_) T41421_13 rfl rfl (any_of HT_.out (by kernel_rfl)) idq (.inl ⟨by rfl, ?_⟩) ?_ ?_
           rotate_left; ·intro w'; go_simp; with_reducible rfl
           rotate_left; ·simp only [Act.put, sqA, sqB, sqC, i64_w, i32_w]; rfl
           refine pure_ (i := 13) (N := some 29) (v := ?_) (a' := ?_) T41421_14 rfl rfl (any_of HT_.out (by kernel_rfl)) idq (.inl ⟨by rfl, ?_⟩) ?_ ?_
           rotate_left; ·intro w'; go_simp; with_reducible rfl
           rotate_left; ·simp only [Act.put, sqA, sqB, sqC, i64_w, i32_w]; rfl
           refine pure_ (i := 14) (N := some 30) (v := ?_) (a' := ?_) T41421_15 rfl rfl (any_of HT_.out (by kernel_rfl)) idq (.inl ⟨by rfl, ?_⟩) ?_ ?_
           rotate_left; ·intro w'; go_simp; with_reducible rfl
           rotate_left; ·simp only [Act.put, sqA, sqB, sqC, i64_w, i32_w]; rfl
           refine pure_ (i := 15) (N := some 31) (v := ?_) (a' := ?_) T41421_16 rfl rfl (any_of HT_.out (by kernel_rfl)) idq (.inl ⟨by rfl, ?_⟩) ?_ ?_
           rotate_left; ·intro w'; go_simp; with_reducible rfl
           rotate_left; ·simp only [Act.put, sqA, sqB, sqC, i64_w, i32_w]; rfl
           refine pure_ (i := 18) (N := some 34) (v := ?_) (a' := ?_) T41421_17 rfl rfl (any_of HT_.out (by kernel_rfl)) idq (.inl ⟨by rfl, ?_⟩) ?_ ?_
           rotate_left; ·intro w'; go_simp; with_reducible rfl
           rotate_left; ·simp only [Act.put, sqA, sqB, sqC, i64_w, i32_w]; rfl
           refine pure_ (i := 19) (N := some 35) (v := ?_) (a' := ?_) T41421_18 rfl rfl (any_of HT_.out (by kernel_rfl)) idq (.inl ⟨by rfl, ?_⟩) ?_ ?_
           rotate_left; ·intro w'; go_simp; with_reducible rfl
           rotate_left; ·simp only [Act.put, sqA, sqB, sqC, i64_w, i32_w]; rfl
           refine pure_ (i := 20) (N := some 36) (v := ?_) (a' := ?_) T41421_19 rfl rfl (any_of HT_.out (by kernel_rfl)) idq (.inl ⟨by rfl, ?_⟩) ?_ ?_
           rotate_left; ·intro w'; go_simp; with_reducible rfl
           rotate_left; ·simp only [Act.put, sqA, sqB, sqC, i64_w, i32_w]; rfl
           refine pure_ (i := 21) (N := some 37) (v := ?_) (a' := ?_) T41421_20 rfl rfl (any_of HT_.out (by kernel_rfl)) idq (.inl ⟨by rfl, ?_⟩) ?_ ?_
           rotate_left; ·intro w'; go_simp; with_reducible rfl
           rotate_left; ·simp only [Act.put, sqA, sqB, sqC, i64_w, i32_w]; rfl
           refine take_ (i := 16) (N := some 32) (v := ?_) (a' := ?_) T41421_21 rfl rfl (take_ofW HT_.out HW_.out (by kernel_rfl)) idq (.inl ⟨by rfl, ?_⟩) hHeld ?_ ?_
           rotate_left
           ·rintro w' ⟨s0, s1, s2, s3, s4, s5, s6, s7, s8, s9, s10, s11⟩
            go_simp
            with_reducible rfl
           rotate_left; ·simp only [Act.put, sqA, sqB, sqC, i64_w, i32_w]; rfl
           refine pure_ (i := 17) (N := some 33) (v := ?_) (a' := ?_) T41421_22 rfl rfl (any_of HT_.out (by kernel_rfl)) idq (.inl ⟨by rfl, ?_⟩) ?_ ?_
           rotate_left; ·intro w'; go_simp; with_reducible rfl
           rotate_left; ·simp only [Act.put, sqA, sqB, sqC, i64_w, i32_w]; rfl
           refine take_ (i := 22) (N := some 38) (v := ?_) (a' := ?_) T41421_23 rfl rfl (take_ofW HT_.out HW_.out (by kernel_rfl)) idq (.inl ⟨by rfl, ?_⟩) hHeld ?_ ?_
           rotate_left
           ·rintro w' ⟨s0, s1, s2, s3, s4, s5, s6, s7, s8, s9, s10, s11⟩
            go_simp
            with_reducible rfl
           rotate_left; ·simp only [Act.put, sqA, sqB, sqC, i64_w, i32_w]; rfl
           refine pure_ (i := 23) (N := some 39) (v := ?_) (a' := ?_) T41421_24 rfl rfl (any_of HT_.out (by kernel_rfl)) idq (.inl ⟨by rfl, ?_⟩) ?_ ?_
           rotate_left; ·intro w'; go_simp; with_reducible rfl
           rotate_left; ·simp only [Act.put, sqA, sqB, sqC, i64_w, i32_w]; rfl
           refine pure_ (i := 24) (N := some 40) (v := ?_) (a' := ?_) T41421_25 rfl rfl (any_of HT_.out (by kernel_rfl)) idq (.inl ⟨by rfl, ?_⟩) ?_ ?_
           rotate_left; ·intro w'; go_simp; with_reducible rfl
           rotate_left; ·simp only [Act.put, sqA, sqB, sqC, i64_w, i32_w]; rfl
           refine pure_ (i := 25) (N := some 41) (v := ?_) (a' := ?_) T41421_26 rfl rfl (any_of HT_.out (by kernel_rfl)) idq (.inl ⟨by rfl, ?_⟩) ?_ ?_
           rotate_left; ·intro w'; go_simp; with_reducible rfl
           rotate_left; ·simp only [Act.put, sqA, sqB, sqC, i64_w, i32_w]; rfl
           refine pure_ (i := 26) (N := some 42) (v := ?_) (a' := ?_) T41421_27 rfl rfl (any_of HT_.out (by kernel_rfl)) idq (.inl ⟨by rfl, ?_⟩) ?_ ?_
           rotate_left; ·intro w'; go_simp; with_reducible rfl
           rotate_left; ·simp only [Act.put, sqA, sqB, sqC, i64_w, i32_w]; rfl
           refine pure_ (i := 27) (N := some 43) (v := ?_) (a' := ?_) T41421_28 rfl rfl (any_of HT_.out (by kernel_rfl)) idq (.inl ⟨by rfl, ?_⟩) ?_ ?_
           rotate_left; ·intro w'; go_simp; with_reducible rfl
           rotate_left; ·simp only [Act.put, sqA, sqB, sqC, i64_w, i32_w]; rfl
           refine pure_ (i := 28) (N := some 44) (v := ?_) (a' := ?_) T41421_29 rfl rfl (any_of HT_.out (by kernel_rfl)) idq (.inl ⟨by rfl, ?_⟩) ?_ ?_
           rotate_left; ·intro w'; go_simp; with_reducible rfl
           rotate_left; ·simp only [Act.put, sqA, sqB, sqC, i64_w, i32_w]; rfl
           refine pure_ (i := 29) (N := some 45) (v := ?_) (a' := ?_) T41421_30 rfl rfl (any_of HT_.out (by kernel_rfl)) idq (.inl ⟨by rfl, ?_⟩) ?_ ?_
           rotate_left; ·intro w'; go_simp; with_reducible rfl
           rotate_left; ·simp only [Act.put, sqA, sqB, sqC, i64_w, i32_w]; rfl
           refine pure_ (i := 30) (N := some 46) (v := ?_) (a' := ?_) T41421_31 rfl rfl (any_of HT_.out (by kernel_rfl)) idq (.inl ⟨by rfl, ?_⟩) ?_ ?_
           rotate_left; ·intro w'; go_simp; with_reducible rfl
           rotate_left; ·simp only [Act.put, sqA, sqB, sqC, i64_w, i32_w]; rfl
           refine pure_ (i := 32) (N := some 48) (v := ?_) (a' := ?_) T41421_32 rfl rfl (any_of HT_.out (by kernel_rfl)) idq (.inl ⟨by rfl, ?_⟩) ?_ ?_
           rotate_left; ·intro w'; go_simp; with_reducible rfl
           rotate_left; ·simp only [Act.put, sqA, sqB, sqC, i64_w, i32_w]; rfl
           refine pure_ (i := 33) (N := some 49) (v := ?_) (a' := ?_) T41421_33 rfl rfl (any_of HT_.out (by kernel_rfl)) idq (.inl ⟨by rfl, ?_⟩) ?_ ?_
           rotate_left; ·intro w'; go_simp; with_reducible rfl
           rotate_left; ·simp only [Act.put, sqA, sqB, sqC, i64_w, i32_w]; rfl
           refine pure_ (i := 34) (N := some 50) (v := ?_) (a' := ?_) T41421_34 rfl rfl (any_of HT_.out (by kernel_rfl)) idq (.inl ⟨by rfl, ?_⟩) ?_ ?_
           rotate_left; ·intro w'; go_simp; with_reducible rfl
           rotate_left; ·simp only [Act.put, sqA, sqB, sqC, i64_w, i32_w]; rfl
           refine pure_ (i := 35) (N := some 51) (v := ?_) (a' := ?_) T41421_35 rfl rfl (any_of HT_.out (by kernel_rfl)) idq (.inl ⟨by rfl, ?_⟩) ?_ ?_
           rotate_left; ·intro w'; go_simp; with_reducible rfl
           rotate_left; ·simp only [Act.put, sqA, sqB, sqC, i64_w, i32_w]; rfl
           refine take_ (i := 31) (N := some 47) (v := ?_) (a' := ?_) T41421_36 rfl rfl (take_ofW HT_.out HW_.out (by kernel_rfl)) idq (.inl ⟨by rfl, ?_⟩) hHeld ?_ ?_
           rotate_left
           ·rintro w' ⟨s0, s1, s2, s3, s4, s5, s6, s7, s8, s9, s10, s11⟩
            go_simp
            with_reducible rfl
           rotate_left; ·simp only [Act.put, sqA, sqB, sqC, i64_w, i32_w]; rfl
           refine take_ (i := 36) (N := some 52) (v := ?_) (a' := ?_) T41421_37 rfl rfl (take_ofW HT_.out HW_.out (by kernel_rfl)) idq (.inl ⟨by rfl, ?_⟩) hHeld ?_ ?_
           rotate_left
           ·rintro w' ⟨s0, s1, s2, s3, s4, s5, s6, s7, s8, s9, s10, s11⟩
            go_simp
            with_reducible rfl
           rotate_left; ·simp only [Act.put, sqA, sqB, sqC, i64_w, i32_w]; rfl
           refine one_ (i := 37) (N := some 53) T41421_38 rfl rfl (one_of HT_.out (by kernel_rfl)) (by decide) (fun K hK => ?_)
           refine goes_ Try.func28 (by kernel_rfl) rfl #[.slice A242_0 ((rd_T49 l0 x13_1).f0).length c242_0, .slice A243_0 ((rd_T49 l1 x13_1).f0).length c243_0] (by rfl) rfl rfl (by (try simp only [List.map_toArray, List.map_cons, List.map_nil]); first | done | rfl | (simp only [List.length_drop, List.length_take]; rfl)) ?_
           with_reducible refine (tillerref13_Begins.calls k1 _ _ ((rd_T49 l0 x13_1).f0) _ _ ((rd_T49 l1 x13_1).f0) false _ ?side1 ?side2 ?side3 ?side4 A10.out).mono ?_
           (case side1 => repeat (first | exact (Kd.C_below HR246_0.out HB.out) | (with_reducible refine Kd.C_alloc ?_ _) | (with_reducible refine Kd.C_drewN ?_ _) | (with_reducible refine Kd.C_drew ?_)))
           (case side2 => exact HC246_0.out)
           (case side3 => repeat (first | exact (Kd.C_below HR247_0.out HB.out) | (with_reducible refine Kd.C_alloc ?_ _) | (with_reducible refine Kd.C_drewN ?_ _) | (with_reducible refine Kd.C_drew ?_)))
           (case side4 => exact HC247_0.out)
           rintro e w' ⟨rfl, ⟨nd, rfl⟩⟩
           refine ⟨_, rfl, ?_⟩
           refine hK.out _ _ ⟨((HB.out.cell (World.block_lt_of_cell? w _ hw242_0)).trans hw242_0), ((HB.out.cell (World.block_lt_of_cell? w _ hw242_1)).trans hw242_1), ((HB.out.cell (World.block_lt_of_cell? w _ hw243_0)).trans hw243_0), ((HB.out.cell (World.block_lt_of_cell? w _ hw243_1)).trans hw243_1), ((HB.out.cell (World.block_lt_of_cell? w _ hw244_0)).trans hw244_0), ((HB.out.cell (World.block_lt_of_cell? w _ hw244_1)).trans hw244_1), ((HB.out.cell (World.block_lt_of_cell? w _ hw245_0)).trans hw245_0), ((HB.out.cell (World.block_lt_of_cell? w _ hw245_1)).trans hw245_1), ((HB.out.cell (World.block_lt_of_cell? w _ hw246_0)).trans hw246_0), ((HB.out.cell (World.block_lt_of_cell? w _ hw246_1)).trans hw246_1), ((HB.out.cell (World.block_lt_of_cell? w _ hw247_0)).trans hw247_0), ((HB.out.cell (World.block_lt_of_cell? w _ hw247_1)).trans hw247_1)⟩ (fun hHeld => ?_)
           clear hK K
           refine norm_ (a' := ?_) ?_ ?_
           rotate_left
           ·show Act.put _ (some 53) _ = _
            simp only [Act.put, sqA, sqB, sqC, i64_w, i32_w]
            rfl
           refine pure_ (i := 38) (N := some 54) (v := ?_) (a' := ?_) T41421_39 rfl rfl (any_of HT_.out (by kernel_rfl)) idq (.inl ⟨by rfl, ?_⟩) ?_ ?_
           rotate_left; ·intro w'; go_simp; with_reducible rfl
           rotate_left; ·simp only [Act.put, sqA, sqB, sqC, i64_w, i32_w]; rfl
           refine pure_ (i := 39) (N := some 55) (v := ?_) (a' := ?_) T41421_40 rfl rfl (any_of HT_.out (by kernel_rfl)) idq (.inl ⟨by rfl, ?_⟩) ?_ ?_
           rotate_left; ·intro w'; go_simp; with_reducible rfl
           rotate_left; ·simp only [Act.put, sqA, sqB, sqC, i64_w, i32_w]; rfl
           refine done_ (done_of HT_.out (by kernel_rfl)) ?_
           try go_wp2
           go_ret
           exact ⟨by first | rfl | (simp [errW_none, errW_some] <;> rfl) | (simp [*, errW_none, errW_some] <;> rfl), by repeat (first | (with_reducible first | exact HB.out | apply bwA | apply bwN | apply bwD) | exact HB.out)⟩
         ·rw [if_neg c9] at H
          have c9b0 : ((((rd_T49 l0 x13_1).f0).length : Int) == (((rd_T49 l1 x13_1).f0).length : Int)) = false := beq_eq_false_iff_ne.mpr c9
          have c9b1 : ((((rd_T49 l0 x13_1).f0).length : Int) != (((rd_T49 l1 x13_1).f0).length : Int)) = true := bne_iff_ne.mpr c9
          have c9b2 : (((rd_T49 l0 x13_1).f0).length == ((rd_T49 l1 x13_1).f0).length) = false := by first | simpa using c9 | (simp at c9 ⊢; omega)
          obtain rfl := Option.some.inj H
          try go_wp2
          have n0_ := Aside0.mk (below_drew1 HB.out)
          clear HB
          have HB := n0_
          clear n0_
          have p242 : 0 ≤ (x13_1 : Int) := ofd_
          have q242 : x13_1 < (l0.length : Int) := ofd_
          obtain ⟨ad242, A242_0, c242_0, e242, hx242_0, hx242_1, hl242_0, hi242_0⟩ := at_T49 HR0.out x13_1 p242 q242
          have hw242_1 := hx242_1
          have hw242_0 := hx242_0
          cases e242
          replace hx242_0 := (HB.out.cell (World.block_lt_of_cell? w _ hx242_0)).trans hx242_0
          replace hx242_1 := (HB.out.cell (World.block_lt_of_cell? w _ hx242_1)).trans hx242_1
          have HR242_0 := Aside0.mk hi242_0
          have HC242_0 := Aside0.mk hl242_0
          clear hi242_0 hl242_0
          replace p242 := eq_true p242
          replace q242 := eq_true q242
          have p243 : 0 ≤ (x13_1 : Int) := ofd_
          have q243 : x13_1 < (l1.length : Int) := ofd_
          obtain ⟨ad243, A243_0, c243_0, e243, hx243_0, hx243_1, hl243_0, hi243_0⟩ := at_T49 HR1.out x13_1 p243 q243
          have hw243_1 := hx243_1
          have hw243_0 := hx243_0
          cases e243
          replace hx243_0 := (HB.out.cell (World.block_lt_of_cell? w _ hx243_0)).trans hx243_0
          replace hx243_1 := (HB.out.cell (World.block_lt_of_cell? w _ hx243_1)).trans hx243_1
          have HR243_0 := Aside0.mk hi243_0
          have HC243_0 := Aside0.mk hl243_0
          clear hi243_0 hl243_0
          replace p243 := eq_true p243
          replace q243 := eq_true q243
          have p244 : 0 ≤ (x13_1 : Int) := ofd_
          have q244 : x13_1 < (l0.length : Int) := ofd_
          obtain ⟨ad244, A244_0, c244_0, e244, hx244_0, hx244_1, hl244_0, hi244_0⟩ := at_T49 HR0.out x13_1 p244 q244
          have hw244_1 := hx244_1
          have hw244_0 := hx244_0
          obtain rfl : ad242 = ad244 := (by injection e244)
          replace hx244_0 := (HB.out.cell (World.block_lt_of_cell? w _ hx244_0)).trans hx244_0
          replace hx244_1 := (HB.out.cell (World.block_lt_of_cell? w _ hx244_1)).trans hx244_1
          have HR244_0 := Aside0.mk hi244_0
          have HC244_0 := Aside0.mk hl244_0
          clear hi244_0 hl244_0
          replace p244 := eq_true p244
          replace q244 := eq_true q244
          have ea_ := Option.some.inj (hx242_0.symm.trans hx244_0)
          injection ea_ with ea_ en_ ec_
          subst ea_
          subst ec_
          clear en_
          have p245 : 0 ≤ (x13_1 : Int) := ofd_
          have q245 : x13_1 < (l1.length : Int) := ofd_
          obtain ⟨ad245, A245_0, c245_0, e245, hx245_0, hx245_1, hl245_0, hi245_0⟩ := at_T49 HR1.out x13_1 p245 q245
          have hw245_1 := hx245_1
          have hw245_0 := hx245_0
          obtain rfl : ad243 = ad245 := (by injection e245)
          replace hx245_0 := (HB.out.cell (World.block_lt_of_cell? w _ hx245_0)).trans hx245_0
          replace hx245_1 := (HB.out.cell (World.block_lt_of_cell? w _ hx245_1)).trans hx245_1
          have HR245_0 := Aside0.mk hi245_0
          have HC245_0 := Aside0.mk hl245_0
          clear hi245_0 hl245_0
          replace p245 := eq_true p245
          replace q245 := eq_true q245
          have ea_ := Option.some.inj (hx243_0.symm.trans hx245_0)
          injection ea_ with ea_ en_ ec_
          subst ea_
          subst ec_
          clear en_
          refine start_ (n := 40) (S := fun w' => w'.cell? (ad242.add ((x13_1).toNat * 2)) = some (.slice A242_0 ((rd_T49 l0 x13_1).f0).length c242_0) ∧ w'.cell? ⟨(ad242.add ((x13_1).toNat * 2)).block, (ad242.add ((x13_1).toNat * 2)).off + 1, none⟩ = some (.int .i64 ((rd_T49 l0 x13_1).f1)) ∧ w'.cell? (ad243.add ((x13_1).toNat * 2)) = some (.slice A243_0 ((rd_T49 l1 x13_1).f0).length c243_0) ∧ w'.cell? ⟨(ad243.add ((x13_1).toNat * 2)).block, (ad243.add ((x13_1).toNat * 2)).off + 1, none⟩ = some (.int .i64 ((rd_T49 l1 x13_1).f1)) ∧ w'.cell? (ad242.add ((x13_1).toNat * 2)) = some (.slice A242_0 ((rd_T49 l0 x13_1).f0).length c242_0) ∧ w'.cell? ⟨(ad242.add ((x13_1).toNat * 2)).block, (ad242.add ((x13_1).toNat * 2)).off + 1, none⟩ = some (.int .i64 ((rd_T49 l0 x13_1).f1)) ∧ w'.cell? (ad243.add ((x13_1).toNat * 2)) = some (.slice A243_0 ((rd_T49 l1 x13_1).f0).length c243_0) ∧ w'.cell? ⟨(ad243.add ((x13_1).toNat * 2)).block, (ad243.add ((x13_1).toNat * 2)).off + 1, none⟩ = some (.int .i64 ((rd_T49 l1 x13_1).f1))) (ds := []) T41421_0 (by kernel_rfl) rfl rfl ⟨((HB.out.cell (World.block_lt_of_cell? w _ hw242_0)).trans hw242_0), ((HB.out.cell (World.block_lt_of_cell? w _ hw242_1)).trans hw242_1), ((HB.out.cell (World.block_lt_of_cell? w _ hw243_0)).trans hw243_0), ((HB.out.cell (World.block_lt_of_cell? w _ hw243_1)).trans hw243_1), ((HB.out.cell (World.block_lt_of_cell? w _ hw244_0)).trans hw244_0), ((HB.out.cell (World.block_lt_of_cell? w _ hw244_1)).trans hw244_1), ((HB.out.cell (World.block_lt_of_cell? w _ hw245_0)).trans hw245_0), ((HB.out.cell (World.block_lt_of_cell? w _ hw245_1)).trans hw245_1)⟩ (fun hHeld => ?_); refine with_tabW tillerref13_Same.tab6 tillerref13_Same.bits6 (fun HT_ HW_ => ?_)
          generalize wr.drew = w14 at HB HR242_0 HR243_0 HR244_0 HR245_0 hx242_0 hx242_1 hx243_0 hx243_1 hx244_0 hx244_1 hx245_0 hx245_1 hHeld ⊢
          refine pure_ (i := 0) (N := some 16) (v := ?_) (a' := ?_) T41421_1 rfl rfl (any_of HT_.out (by kernel_rfl)) idq (.inl ⟨by rfl, ?_⟩) ?_ ?_
          rotate_left; ·intro w'; go_simp; with_reducible rfl
          rotate_left; ·simp only [Act.put, sqA, sqB, sqC, i64_w, i32_w]; rfl
          refine pure_ (i := 1) (N := some 17) (v := ?_) (a' := ?_) T41421_2 rfl rfl (any_of HT_.out (by kernel_rfl)) idq (.inl ⟨by rfl, ?_⟩) ?_ ?_
          rotate_left; ·intro w'; go_simp; with_reducible rfl
          rotate_left; ·simp only [Act.put, sqA, sqB, sqC, i64_w, i32_w]; rfl
          refine pure_ (i := 2) (N := some 18) (v := ?_) (a' := ?_) T41421_3 rfl rfl (any_of HT_.out (by kernel_rfl)) idq (.inl ⟨by rfl, ?_⟩) ?_ ?_
          rotate_left; ·intro w'; go_simp; with_reducible rfl
          rotate_left; ·simp only [Act.put, sqA, sqB, sqC, i64_w, i32_w]; rfl
          refine pure_ (i := 3) (N := some 19) (v := ?_) (a' := ?_) T41421_4 rfl rfl (any_of HT_.out (by kernel_rfl)) idq (.inl ⟨by rfl, ?_⟩) ?_ ?_
          rotate_left; ·intro w'; go_simp; with_reducible rfl
          rotate_left; ·simp only [Act.put, sqA, sqB, sqC, i64_w, i32_w]; rfl
          refine pure_ (i := 5) (N := some 21) (v := ?_) (a' := ?_) T41421_5 rfl rfl (any_of HT_.out (by kernel_rfl)) idq (.inl ⟨by rfl, ?_⟩) ?_ ?_
          rotate_left; ·intro w'; go_simp; with_reducible rfl
          rotate_left; ·simp only [Act.put, sqA, sqB, sqC, i64_w, i32_w]; rfl
          refine pure_ (i := 6) (N := some 22) (v := ?_) (a' := ?_) T41421_6 rfl rfl (any_of HT_.out (by kernel_rfl)) idq (.inl ⟨by rfl, ?_⟩) ?_ ?_
          rotate_left; ·intro w'; go_simp; with_reducible rfl
          rotate_left; ·simp only [Act.put, sqA, sqB, sqC, i64_w, i32_w]; rfl
          refine pure_ (i := 7) (N := some 23) (v := ?_) (a' := ?_) T41421_7 rfl rfl (any_of HT_.out (by kernel_rfl)) idq (.inl ⟨by rfl, ?_⟩) ?_ ?_
          rotate_left; ·intro w'; go_simp; with_reducible rfl
          rotate_left; ·simp only [Act.put, sqA, sqB, sqC, i64_w, i32_w]; rfl
          refine pure_ (i := 8) (N := some 24) (v := ?_) (a' := ?_) T41421_8 rfl rfl (any_of HT_.out (by kernel_rfl)) idq (.inl ⟨by rfl, ?_⟩) ?_ ?_
          rotate_left; ·intro w'; go_simp; with_reducible rfl
          rotate_left; ·simp only [Act.put, sqA, sqB, sqC, i64_w, i32_w]; rfl
          refine take_ (i := 4) (N := some 20) (v := ?_) (a' := ?_) T41421_9 rfl rfl (take_ofW HT_.out HW_.out (by kernel_rfl)) idq (.inl ⟨by rfl, ?_⟩) hHeld ?_ ?_
          rotate_left
          ·rintro w' ⟨s0, s1, s2, s3, s4, s5, s6, s7⟩
           go_simp
           with_reducible rfl
          rotate_left; ·simp only [Act.put, sqA, sqB, sqC, i64_w, i32_w]; rfl
          refine take_ (i := 9) (N := some 25) (v := ?_) (a' := ?_) T41421_10 rfl rfl (take_ofW HT_.out HW_.out (by kernel_rfl)) idq (.inl ⟨by rfl, ?_⟩) hHeld ?_ ?_
          rotate_left
          ·rintro w' ⟨s0, s1, s2, s3, s4, s5, s6, s7⟩
           go_simp
           with_reducible rfl
          rotate_left; ·simp only [Act.put, sqA, sqB, sqC, i64_w, i32_w]; rfl
          refine pure_ (i := 10) (N := some 26) (v := ?_) (a' := ?_) T41421_11 rfl rfl (any_of HT_.out (by kernel_rfl)) idq (.inl ⟨by rfl, ?_⟩) ?_ ?_
          rotate_left; ·intro w'; go_simp; with_reducible rfl
          rotate_left; ·simp only [Act.put, sqA, sqB, sqC, i64_w, i32_w]; rfl
          refine pure_ (i := 11) (N := some 27) (v := ?_) (a' := ?_) T41421_12 rfl rfl (any_of HT_.out (by kernel_rfl)) idq (.inl ⟨by rfl, ?_⟩) ?_ ?_
          rotate_left; ·intro w'; go_simp; with_reducible rfl
          rotate_left; ·simp only [Act.put, sqA, sqB, sqC, i64_w, i32_w]; rfl
          refine pure_ (i := 12) (N := some 28) (v := ?_) (a' := ?_) T41421_13 rfl rfl (any_of HT_.out (by kernel_rfl)) idq (.inl ⟨by rfl, ?_⟩) ?_ ?_
          rotate_left; ·intro w'; go_simp; with_reducible rfl
          rotate_left; ·simp only [Act.put, sqA, sqB, sqC, i64_w, i32_w]; rfl
          refine pure_ (i := 13) (N := some 29) (v := ?_) (a' := ?_) T41421_14 rfl rfl (any_of HT_.out (by kernel_rfl)) idq (.inl ⟨by rfl, ?_⟩) ?_ ?_
          rotate_left; ·intro w'; go_simp; with_reducible rfl
          rotate_left; ·simp only [Act.put, sqA, sqB, sqC, i64_w, i32_w]; rfl
          refine pure_ (i := 14) (N := some 30) (v := ?_) (a' := ?_) T41421_15 rfl rfl (any_of HT_.out (by kernel_rfl)) idq (.inl ⟨by rfl, ?_⟩) ?_ ?_
          rotate_left; ·intro w'; go_simp; with_reducible rfl
          rotate_left; ·simp only [Act.put, sqA, sqB, sqC, i64_w, i32_w]; rfl
          refine pure_ (i := 15) (N := some 31) (v := ?_) (a' := ?_) T41421_16 rfl rfl (any_of HT_.out (by kernel_rfl)) idq (.inl ⟨by rfl, ?_⟩) ?_ ?_
          rotate_left; ·intro w'; go_simp; with_reducible rfl
          rotate_left; ·simp only [Act.put, sqA, sqB, sqC, i64_w, i32_w]; rfl
          refine pure_ (i := 18) (N := some 34) (v := ?_) (a' := ?_) T41421_17 rfl rfl (any_of HT_.out (by kernel_rfl)) idq (.inl ⟨by rfl, ?_⟩) ?_ ?_
          rotate_left; ·intro w'; go_simp; with_reducible rfl
          rotate_left; ·simp only [Act.put, sqA, sqB, sqC, i64_w, i32_w]; rfl
          refine pure_ (i := 19) (N := some 35) (v := ?_) (a' := ?_) T41421_18 rfl rfl (any_of HT_.out (by kernel_rfl)) idq (.inl ⟨by rfl, ?_⟩) ?_ ?_
          rotate_left; ·intro w'; go_simp; with_reducible rfl
          rotate_left; ·simp only [Act.put, sqA, sqB, sqC, i64_w, i32_w]; rfl
          refine pure_ (i := 20) (N := some 36) (v := ?_) (a' := ?_) T41421_19 rfl rfl (any_of HT_.out (by kernel_rfl)) idq (.inl ⟨by rfl, ?_⟩) ?_ ?_
          rotate_left; ·intro w'; go_simp; with_reducible rfl
          rotate_left; ·simp only [Act.put, sqA, sqB, sqC, i64_w, i32_w]; rfl
          refine pure_ (i := 21) (N := some 37) (v := ?_) (a' := ?_) T41421_20 rfl rfl (any_of HT_.out (by kernel_rfl)) idq (.inl ⟨by rfl, ?_⟩) ?_ ?_
          rotate_left; ·intro w'; go_simp; with_reducible rfl
          rotate_left; ·simp only [Act.put, sqA, sqB, sqC, i64_w, i32_w]; rfl
          refine take_ (i := 16) (N := some 32) (v := ?_) (a' := ?_) T41421_21 rfl rfl (take_ofW HT_.out HW_.out (by kernel_rfl)) idq (.inl ⟨by rfl, ?_⟩) hHeld ?_ ?_
          rotate_left
          ·rintro w' ⟨s0, s1, s2, s3, s4, s5, s6, s7⟩
           go_simp
           with_reducible rfl
          rotate_left; ·simp only [Act.put, sqA, sqB, sqC, i64_w, i32_w]; rfl
          refine pure_ (i := 17) (N := some 33) (v := ?_) (a' := ?_) T41421_22 rfl rfl (any_of HT_.out (by kernel_rfl)) idq (.inl ⟨by rfl, ?_⟩) ?_ ?_
          rotate_left; ·intro w'; go_simp; with_reducible rfl
          rotate_left; ·simp only [Act.put, sqA, sqB, sqC, i64_w, i32_w]; rfl
          refine take_ (i := 22) (N := some 38) (v := ?_) (a' := ?_) T41421_23 rfl rfl (take_ofW HT_.out HW_.out (by kernel_rfl)) idq (.inl ⟨by rfl, ?_⟩) hHeld ?_ ?_
          rotate_left
          ·rintro w' ⟨s0, s1, s2, s3, s4, s5, s6, s7⟩
           go_simp
           with_reducible rfl
          rotate_left; ·simp only [Act.put, sqA, sqB, sqC, i64_w, i32_w]; rfl
          refine pure_ (i := 23) (N := some 39) (v := ?_) (a' := ?_) T41421_24 rfl rfl (any_of HT_.out (by kernel_rfl)) idq (.inl ⟨by rfl, ?_⟩) ?_ ?_
          rotate_left; ·intro w'; go_simp; with_reducible rfl
          rotate_left; ·simp only [Act.put, sqA, sqB, sqC, i64_w, i32_w]; rfl
          refine pure_ (i := 24) (N := some 40) (v := ?_) (a' := ?_) T41421_25 rfl rfl (any_of HT_.out (by kernel_rfl)) idq (.inl ⟨by rfl, ?_⟩) ?_ ?_
          rotate_left; ·intro w'; go_simp; with_reducible rfl
          rotate_left; ·simp only [Act.put, sqA, sqB, sqC, i64_w, i32_w]; rfl
          refine pure_ (i := 25) (N := some 41) (v := ?_) (a' := ?_) T41421_26 rfl rfl (any_of HT_.out (by kernel_rfl)) idq (.inl ⟨by rfl, ?_⟩) ?_ ?_
          rotate_left; ·intro w'; go_simp; with_reducible rfl
          rotate_left; ·simp only [Act.put, sqA, sqB, sqC, i64_w, i32_w]; rfl
          refine pure_ (i := 26) (N := some 42) (v := ?_) (a' := ?_) T41421_27 rfl rfl (any_of HT_.out (by kernel_rfl)) idq (.inl ⟨by rfl, ?_⟩) ?_ ?_
          rotate_left; ·intro w'; go_simp; with_reducible rfl
          rotate_left; ·simp only [Act.put, sqA, sqB, sqC, i64_w, i32_w]; rfl
          refine pure_ (i := 27) (N := some 43) (v := undef) (a' := ?_) T41421_28 rfl rfl (any_of HT_.out (by kernel_rfl)) (fun _ _ _ h => h) (Or.inr ⟨by rfl, rfl⟩) ?_ ?_
          rotate_left; ·simp only [Act.put, sqA, sqB, sqC, i64_w, i32_w]; rfl
          refine pure_ (i := 28) (N := some 44) (v := undef) (a' := ?_) T41421_29 rfl rfl (any_of HT_.out (by kernel_rfl)) (fun _ _ _ h => h) (Or.inr ⟨by rfl, rfl⟩) ?_ ?_
          rotate_left; ·simp only [Act.put, sqA, sqB, sqC, i64_w, i32_w]; rfl
          refine pure_ (i := 29) (N := some 45) (v := undef) (a' := ?_) T41421_30 rfl rfl (any_of HT_.out (by kernel_rfl)) (fun _ _ _ h => h) (Or.inr ⟨by rfl, rfl⟩) ?_ ?_
          rotate_left; ·simp only [Act.put, sqA, sqB, sqC, i64_w, i32_w]; rfl
          refine pure_ (i := 30) (N := some 46) (v := undef) (a' := ?_) T41421_31 rfl rfl (any_of HT_.out (by kernel_rfl)) (fun _ _ _ h => h) (Or.inr ⟨by rfl, rfl⟩) ?_ ?_
          rotate_left; ·simp only [Act.put, sqA, sqB, sqC, i64_w, i32_w]; rfl
          refine pure_ (i := 31) (N := some 47) (v := undef) (a' := ?_) T41421_41 rfl rfl (any_of HT_.out (by kernel_rfl)) (fun _ _ _ h => h) (Or.inr ⟨by rfl, rfl⟩) ?_ ?_
          rotate_left; ·simp only [Act.put, sqA, sqB, sqC, i64_w, i32_w]; rfl
          refine pure_ (i := 32) (N := some 48) (v := undef) (a' := ?_) T41421_42 rfl rfl (any_of HT_.out (by kernel_rfl)) (fun _ _ _ h => h) (Or.inr ⟨by rfl, rfl⟩) ?_ ?_
          rotate_left; ·simp only [Act.put, sqA, sqB, sqC, i64_w, i32_w]; rfl
          refine pure_ (i := 33) (N := some 49) (v := undef) (a' := ?_) T41421_43 rfl rfl (any_of HT_.out (by kernel_rfl)) (fun _ _ _ h => h) (Or.inr ⟨by rfl, rfl⟩) ?_ ?_
          rotate_left; ·simp only [Act.put, sqA, sqB, sqC, i64_w, i32_w]; rfl
          refine pure_ (i := 34) (N := some 50) (v := undef) (a' := ?_) T41421_44 rfl rfl (any_of HT_.out (by kernel_rfl)) (fun _ _ _ h => h) (Or.inr ⟨by rfl, rfl⟩) ?_ ?_
          rotate_left; ·simp only [Act.put, sqA, sqB, sqC, i64_w, i32_w]; rfl
          refine pure_ (i := 35) (N := some 51) (v := undef) (a' := ?_) T41421_36 rfl rfl (any_of HT_.out (by kernel_rfl)) (fun _ _ _ h => h) (Or.inr ⟨by rfl, rfl⟩) ?_ ?_
          rotate_left; ·simp only [Act.put, sqA, sqB, sqC, i64_w, i32_w]; rfl
          refine pure_ (i := 36) (N := some 52) (v := undef) (a' := ?_) T41421_37 rfl rfl (any_of HT_.out (by kernel_rfl)) (fun _ _ _ h => h) (Or.inr ⟨by rfl, rfl⟩) ?_ ?_
          rotate_left; ·simp only [Act.put, sqA, sqB, sqC, i64_w, i32_w]; rfl
          refine pure_ (i := 37) (N := some 53) (v := undef) (a' := ?_) T41421_38 rfl rfl (any_of HT_.out (by kernel_rfl)) (fun _ _ _ h => h) (Or.inr ⟨by rfl, rfl⟩) ?_ ?_
          rotate_left; ·simp only [Act.put, sqA, sqB, sqC, i64_w, i32_w]; rfl
          refine pure_ (i := 38) (N := some 54) (v := undef) (a' := ?_) T41421_39 rfl rfl (any_of HT_.out (by kernel_rfl)) (fun _ _ _ h => h) (Or.inr ⟨by rfl, rfl⟩) ?_ ?_
          rotate_left; ·simp only [Act.put, sqA, sqB, sqC, i64_w, i32_w]; rfl
          refine pure_ (i := 39) (N := some 55) (v := ?_) (a' := ?_) T41421_40 rfl rfl (any_of HT_.out (by kernel_rfl)) idq (.inl ⟨by rfl, ?_⟩) ?_ ?_
          rotate_left; ·intro w'; go_simp; with_reducible rfl
          rotate_left; ·simp only [Act.put, sqA, sqB, sqC, i64_w, i32_w]; rfl
          refine done_ (done_of HT_.out (by kernel_rfl)) ?_
          try go_wp2
          go_ret
          exact ⟨by first | rfl | (simp [errW_none, errW_some] <;> rfl) | (simp [*, errW_none, errW_some] <;> rfl), by repeat (first | (with_reducible first | exact HB.out | apply bwA | apply bwN | apply bwD) | exact HB.out)⟩
        ·rw [if_neg c8] at H
         have c8b0 : (((rd_T49 l0 x13_1).f1) == ((rd_T49 l1 x13_1).f1)) = false := beq_eq_false_iff_ne.mpr c8
         have c8b1 : (((rd_T49 l0 x13_1).f1) != ((rd_T49 l1 x13_1).f1)) = true := bne_iff_ne.mpr c8
         obtain rfl := Option.some.inj H
         try go_wp2
         have n0_ := Aside0.mk (below_drew1 HB.out)
         clear HB
         have HB := n0_
         clear n0_
         have p242 : 0 ≤ (x13_1 : Int) := ofd_
         have q242 : x13_1 < (l0.length : Int) := ofd_
         obtain ⟨ad242, A242_0, c242_0, e242, hx242_0, hx242_1, hl242_0, hi242_0⟩ := at_T49 HR0.out x13_1 p242 q242
         have hw242_1 := hx242_1
         have hw242_0 := hx242_0
         cases e242
         replace hx242_0 := (HB.out.cell (World.block_lt_of_cell? w _ hx242_0)).trans hx242_0
         replace hx242_1 := (HB.out.cell (World.block_lt_of_cell? w _ hx242_1)).trans hx242_1
         have HR242_0 := Aside0.mk hi242_0
         have HC242_0 := Aside0.mk hl242_0
         clear hi242_0 hl242_0
         replace p242 := eq_true p242
         replace q242 := eq_true q242
         have p243 : 0 ≤ (x13_1 : Int) := ofd_
         have q243 : x13_1 < (l1.length : Int) := ofd_
         obtain ⟨ad243, A243_0, c243_0, e243, hx243_0, hx243_1, hl243_0, hi243_0⟩ := at_T49 HR1.out x13_1 p243 q243
         have hw243_1 := hx243_1
         have hw243_0 := hx243_0
         cases e243
         replace hx243_0 := (HB.out.cell (World.block_lt_of_cell? w _ hx243_0)).trans hx243_0
         replace hx243_1 := (HB.out.cell (World.block_lt_of_cell? w _ hx243_1)).trans hx243_1
         have HR243_0 := Aside0.mk hi243_0
         have HC243_0 := Aside0.mk hl243_0
         clear hi243_0 hl243_0
         replace p243 := eq_true p243
         replace q243 := eq_true q243
         refine start_ (n := 40) (S := fun w' => w'.cell? (ad242.add ((x13_1).toNat * 2)) = some (.slice A242_0 ((rd_T49 l0 x13_1).f0).length c242_0) ∧ w'.cell? ⟨(ad242.add ((x13_1).toNat * 2)).block, (ad242.add ((x13_1).toNat * 2)).off + 1, none⟩ = some (.int .i64 ((rd_T49 l0 x13_1).f1)) ∧ w'.cell? (ad243.add ((x13_1).toNat * 2)) = some (.slice A243_0 ((rd_T49 l1 x13_1).f0).length c243_0) ∧ w'.cell? ⟨(ad243.add ((x13_1).toNat * 2)).block, (ad243.add ((x13_1).toNat * 2)).off + 1, none⟩ = some (.int .i64 ((rd_T49 l1 x13_1).f1))) (ds := []) T41421_0 (by kernel_rfl) rfl rfl ⟨((HB.out.cell (World.block_lt_of_cell? w _ hw242_0)).trans hw242_0), ((HB.out.cell (World.block_lt_of_cell? w _ hw242_1)).trans hw242_1), ((HB.out.cell (World.block_lt_of_cell? w _ hw243_0)).trans hw243_0), ((HB.out.cell (World.block_lt_of_cell? w _ hw243_1)).trans hw243_1)⟩ (fun hHeld => ?_); refine with_tabW tillerref13_Same.tab6 tillerref13_Same.bits6 (fun HT_ HW_ => ?_)
         generalize wr.drew = w15 at HB HR242_0 HR243_0 hx242_0 hx242_1 hx243_0 hx243_1 hHeld ⊢
         refine pure_ (i := 0) (N := some 16) (v := ?_) (a' := ?_) T41421_1 rfl rfl (any_of HT_.out (by kernel_rfl)) idq (.inl ⟨by rfl, ?_⟩) ?_ ?_
         rotate_left; ·intro w'; go_simp; with_reducible rfl
         rotate_left; ·simp only [Act.put, sqA, sqB, sqC, i64_w, i32_w]; rfl
         refine pure_ (i := 1) (N := some 17) (v := ?_) (a' := ?_) T41421_2 rfl rfl (any_of HT_.out (by kernel_rfl)) idq (.inl ⟨by rfl, ?_⟩) ?_ ?_
         rotate_left; ·intro w'; go_simp; with_reducible rfl
         rotate_left; ·simp only [Act.put, sqA, sqB, sqC, i64_w, i32_w]; rfl
         refine pure_ (i := 2) (N := some 18) (v := ?_) (a' := ?_) T41421_3 rfl rfl (any_of HT_.out (by kernel_rfl)) idq (.inl ⟨by rfl, ?_⟩) ?_ ?_
         rotate_left; ·intro w'; go_simp; with_reducible rfl
         rotate_left; ·simp only [Act.put, sqA, sqB, sqC, i64_w, i32_w]; rfl
         refine pure_ (i := 3) (N := some 19) (v := ?_) (a' := ?_) T41421_4 rfl rfl (any_of HT_.out (by kernel_rfl)) idq (.inl ⟨by rfl, ?_⟩) ?_ ?_
         rotate_left; ·intro w'; go_simp; with_reducible rfl
         rotate_left; ·simp only [Act.put, sqA, sqB, sqC, i64_w, i32_w]; rfl
         refine pure_ (i := 5) (N := some 21) (v := ?_) (a' := ?_) T41421_5 rfl rfl (any_of HT_.out (by kernel_rfl)) idq (.inl ⟨by rfl, ?_⟩) ?_ ?_
         rotate_left; ·intro w'; go_simp; with_reducible rfl
         rotate_left; ·simp only [Act.put, sqA, sqB, sqC, i64_w, i32_w]; rfl
         refine pure_ (i := 6) (N := some 22) (v := ?_) (a' := ?_) T41421_6 rfl rfl (any_of HT_.out (by kernel_rfl)) idq (.inl ⟨by rfl, ?_⟩) ?_ ?_
         rotate_left; ·intro w'; go_simp; with_reducible rfl
         rotate_left; ·simp only [Act.put, sqA, sqB, sqC, i64_w, i32_w]; rfl
         refine pure_ (i := 7) (N := some 23) (v := ?_) (a' := ?_) T41421_7 rfl rfl (any_of HT_.out (by kernel_rfl)) idq (.inl ⟨by rfl, ?_⟩) ?_ ?_
         rotate_left; ·intro w'; go_simp; with_reducible rfl
         rotate_left; ·simp only [Act.put, sqA, sqB, sqC, i64_w, i32_w]; rfl
         refine pure_ (i := 8) (N := some 24) (v := ?_) (a' := ?_) T41421_8 rfl rfl (any_of HT_.out (by kernel_rfl)) idq (.inl ⟨by rfl, ?_⟩) ?_ ?_
         rotate_left; ·intro w'; go_simp; with_reducible rfl
         rotate_left; ·simp only [Act.put, sqA, sqB, sqC, i64_w, i32_w]; rfl
         refine take_ (i := 4) (N := some 20) (v := ?_) (a' := ?_) T41421_9 rfl rfl (take_ofW HT_.out HW_.out (by kernel_rfl)) idq (.inl ⟨by rfl, ?_⟩) hHeld ?_ ?_
         rotate_left
         ·rintro w' ⟨s0, s1, s2, s3⟩
          go_simp
          with_reducible rfl
         rotate_left; ·simp only [Act.put, sqA, sqB, sqC, i64_w, i32_w]; rfl
         refine take_ (i := 9) (N := some 25) (v := ?_) (a' := ?_) T41421_10 rfl rfl (take_ofW HT_.out HW_.out (by kernel_rfl)) idq (.inl ⟨by rfl, ?_⟩) hHeld ?_ ?_
         rotate_left
         ·rintro w' ⟨s0, s1, s2, s3⟩
          go_simp
          with_reducible rfl
         rotate_left; ·simp only [Act.put, sqA, sqB, sqC, i64_w, i32_w]; rfl
         refine pure_ (i := 10) (N := some 26) (v := ?_) (a' := ?_) T41421_11 rfl rfl (any_of HT_.out (by kernel_rfl)) idq (.inl ⟨by rfl, ?_⟩) ?_ ?_
         rotate_left; ·intro w'; go_simp; with_reducible rfl
         rotate_left; ·simp only [Act.put, sqA, sqB, sqC, i64_w, i32_w]; rfl
         refine pure_ (i := 11) (N := some 27) (v := ?_) (a' := ?_) T41421_12 rfl rfl (any_of HT_.out (by kernel_rfl)) idq (.inl ⟨by rfl, ?_⟩) ?_ ?_
         rotate_left; ·intro w'; go_simp; with_reducible rfl
         rotate_left; ·simp only [Act.put, sqA, sqB, sqC, i64_w, i32_w]; rfl
         refine pure_ (i := 12) (N := some 28) (v := undef) (a' := ?_) T41421_13 rfl rfl (any_of HT_.out (by kernel_rfl)) (fun _ _ _ h => h) (Or.inr ⟨by rfl, rfl⟩) ?_ ?_
         rotate_left; ·simp only [Act.put, sqA, sqB, sqC, i64_w, i32_w]; rfl
         refine pure_ (i := 13) (N := some 29) (v := undef) (a' := ?_) T41421_14 rfl rfl (any_of HT_.out (by kernel_rfl)) (fun _ _ _ h => h) (Or.inr ⟨by rfl, rfl⟩) ?_ ?_
         rotate_left; ·simp only [Act.put, sqA, sqB, sqC, i64_w, i32_w]; rfl
         refine pure_ (i := 14) (N := some 30) (v := undef) (a' := ?_) T41421_15 rfl rfl (any_of HT_.out (by kernel_rfl)) (fun _ _ _ h => h) (Or.inr ⟨by rfl, rfl⟩) ?_ ?_
         rotate_left; ·simp only [Act.put, sqA, sqB, sqC, i64_w, i32_w]; rfl
         refine pure_ (i := 15) (N := some 31) (v := undef) (a' := ?_) T41421_16 rfl rfl (any_of HT_.out (by kernel_rfl)) (fun _ _ _ h => h) (Or.inr ⟨by rfl, rfl⟩) ?_ ?_
         rotate_left; ·simp only [Act.put, sqA, sqB, sqC, i64_w, i32_w]; rfl
         refine pure_ (i := 16) (N := some 32) (v := undef) (a' := ?_) T41421_45 rfl rfl (any_of HT_.out (by kernel_rfl)) (fun _ _ _ h => h) (Or.inr ⟨by rfl, rfl⟩) ?_ ?_
         rotate_left; ·simp only [Act.put, sqA, sqB, sqC, i64_w, i32_w]; rfl
         refine pure_ (i := 17) (N := some 33) (v := undef) (a' := ?_) T41421_46 rfl rfl (any_of HT_.out (by kernel_rfl)) (fun _ _ _ h => h) (Or.inr ⟨by rfl, rfl⟩) ?_ ?_
         rotate_left; ·simp only [Act.put, sqA, sqB, sqC, i64_w, i32_w]; rfl
         refine pure_ (i := 18) (N := some 34) (v := undef) (a' := ?_) T41421_47 rfl rfl (any_of HT_.out (by kernel_rfl)) (fun _ _ _ h => h) (Or.inr ⟨by rfl, rfl⟩) ?_ ?_
         rotate_left; ·simp only [Act.put, sqA, sqB, sqC, i64_w, i32_w]; rfl
         refine pure_ (i := 19) (N := some 35) (v := undef) (a' := ?_) T41421_48 rfl rfl (any_of HT_.out (by kernel_rfl)) (fun _ _ _ h => h) (Or.inr ⟨by rfl, rfl⟩) ?_ ?_
         rotate_left; ·simp only [Act.put, sqA, sqB, sqC, i64_w, i32_w]; rfl
         refine pure_ (i := 20) (N := some 36) (v := undef) (a' := ?_) T41421_49 rfl rfl (any_of HT_.out (by kernel_rfl)) (fun _ _ _ h => h) (Or.inr ⟨by rfl, rfl⟩) ?_ ?_
         rotate_left; ·simp only [Act.put, sqA, sqB, sqC, i64_w, i32_w]; rfl
         refine pure_ (i := 21) (N := some 37) (v := undef) (a' := ?_) T41421_22 rfl rfl (any_of HT_.out (by kernel_rfl)) (fun _ _ _ h => h) (Or.inr ⟨by rfl, rfl⟩) ?_ ?_
         rotate_left; ·simp only [Act.put, sqA, sqB, sqC, i64_w, i32_w]; rfl
         refine pure_ (i := 22) (N := some 38) (v := undef) (a' := ?_) T41421_23 rfl rfl (any_of HT_.out (by kernel_rfl)) (fun _ _ _ h => h) (Or.inr ⟨by rfl, rfl⟩) ?_ ?_
         rotate_left; ·simp only [Act.put, sqA, sqB, sqC, i64_w, i32_w]; rfl
         refine pure_ (i := 23) (N := some 39) (v := undef) (a' := ?_) T41421_24 rfl rfl (any_of HT_.out (by kernel_rfl)) (fun _ _ _ h => h) (Or.inr ⟨by rfl, rfl⟩) ?_ ?_
         rotate_left; ·simp only [Act.put, sqA, sqB, sqC, i64_w, i32_w]; rfl
         refine pure_ (i := 24) (N := some 40) (v := undef) (a' := ?_) T41421_25 rfl rfl (any_of HT_.out (by kernel_rfl)) (fun _ _ _ h => h) (Or.inr ⟨by rfl, rfl⟩) ?_ ?_
         rotate_left; ·simp only [Act.put, sqA, sqB, sqC, i64_w, i32_w]; rfl
         refine pure_ (i := 25) (N := some 41) (v := ?_) (a' := ?_) T41421_26 rfl rfl (any_of HT_.out (by kernel_rfl)) idq (.inl ⟨by rfl, ?_⟩) ?_ ?_
         rotate_left; ·intro w'; go_simp; with_reducible rfl
         rotate_left; ·simp only [Act.put, sqA, sqB, sqC, i64_w, i32_w]; rfl
         refine pure_ (i := 26) (N := some 42) (v := ?_) (a' := ?_) T41421_27 rfl rfl (any_of HT_.out (by kernel_rfl)) idq (.inl ⟨by rfl, ?_⟩) ?_ ?_
         rotate_left; ·intro w'; go_simp; with_reducible rfl
         rotate_left; ·simp only [Act.put, sqA, sqB, sqC, i64_w, i32_w]; rfl
         refine pure_ (i := 27) (N := some 43) (v := undef) (a' := ?_) T41421_28 rfl rfl (any_of HT_.out (by kernel_rfl)) (fun _ _ _ h => h) (Or.inr ⟨by rfl, rfl⟩) ?_ ?_
         rotate_left; ·simp only [Act.put, sqA, sqB, sqC, i64_w, i32_w]; rfl
         refine pure_ (i := 28) (N := some 44) (v := undef) (a' := ?_) T41421_29 rfl rfl (any_of HT_.out (by kernel_rfl)) (fun _ _ _ h => h) (Or.inr ⟨by rfl, rfl⟩) ?_ ?_
         rotate_left; ·simp only [Act.put, sqA, sqB, sqC, i64_w, i32_w]; rfl
         refine pure_ (i := 29) (N := some 45) (v := undef) (a' := ?_) T41421_30 rfl rfl (any_of HT_.out (by kernel_rfl)) (fun _ _ _ h => h) (Or.inr ⟨by rfl, rfl⟩) ?_ ?_
         rotate_left; ·simp only [Act.put, sqA, sqB, sqC, i64_w, i32_w]; rfl
         refine pure_ (i := 30) (N := some 46) (v := undef) (a' := ?_) T41421_31 rfl rfl (any_of HT_.out (by kernel_rfl)) (fun _ _ _ h => h) (Or.inr ⟨by rfl, rfl⟩) ?_ ?_
         rotate_left; ·simp only [Act.put, sqA, sqB, sqC, i64_w, i32_w]; rfl
         refine pure_ (i := 31) (N := some 47) (v := undef) (a' := ?_) T41421_41 rfl rfl (any_of HT_.out (by kernel_rfl)) (fun _ _ _ h => h) (Or.inr ⟨by rfl, rfl⟩) ?_ ?_
         rotate_left; ·simp only [Act.put, sqA, sqB, sqC, i64_w, i32_w]; rfl
         refine pure_ (i := 32) (N := some 48) (v := undef) (a' := ?_) T41421_42 rfl rfl (any_of HT_.out (by kernel_rfl)) (fun _ _ _ h => h) (Or.inr ⟨by rfl, rfl⟩) ?_ ?_
         rotate_left; ·simp only [Act.put, sqA, sqB, sqC, i64_w, i32_w]; rfl
         refine pure_ (i := 33) (N := some 49) (v := undef) (a' := ?_) T41421_43 rfl rfl (any_of HT_.out (by kernel_rfl)) (fun _ _ _ h => h) (Or.inr ⟨by rfl, rfl⟩) ?_ ?_
         rotate_left; ·simp only [Act.put, sqA, sqB, sqC, i64_w, i32_w]; rfl
         refine pure_ (i := 34) (N := some 50) (v := undef) (a' := ?_) T41421_44 rfl rfl (any_of HT_.out (by kernel_rfl)) (fun _ _ _ h => h) (Or.inr ⟨by rfl, rfl⟩) ?_ ?_
         rotate_left; ·simp only [Act.put, sqA, sqB, sqC, i64_w, i32_w]; rfl
         refine pure_ (i := 35) (N := some 51) (v := undef) (a' := ?_) T41421_36 rfl rfl (any_of HT_.out (by kernel_rfl)) (fun _ _ _ h => h) (Or.inr ⟨by rfl, rfl⟩) ?_ ?_
         rotate_left; ·simp only [Act.put, sqA, sqB, sqC, i64_w, i32_w]; rfl
         refine pure_ (i := 36) (N := some 52) (v := undef) (a' := ?_) T41421_37 rfl rfl (any_of HT_.out (by kernel_rfl)) (fun _ _ _ h => h) (Or.inr ⟨by rfl, rfl⟩) ?_ ?_
         rotate_left; ·simp only [Act.put, sqA, sqB, sqC, i64_w, i32_w]; rfl
         refine pure_ (i := 37) (N := some 53) (v := undef) (a' := ?_) T41421_38 rfl rfl (any_of HT_.out (by kernel_rfl)) (fun _ _ _ h => h) (Or.inr ⟨by rfl, rfl⟩) ?_ ?_
         rotate_left; ·simp only [Act.put, sqA, sqB, sqC, i64_w, i32_w]; rfl
         refine pure_ (i := 38) (N := some 54) (v := undef) (a' := ?_) T41421_39 rfl rfl (any_of HT_.out (by kernel_rfl)) (fun _ _ _ h => h) (Or.inr ⟨by rfl, rfl⟩) ?_ ?_
         rotate_left; ·simp only [Act.put, sqA, sqB, sqC, i64_w, i32_w]; rfl
         refine pure_ (i := 39) (N := some 55) (v := ?_) (a' := ?_) T41421_40 rfl rfl (any_of HT_.out (by kernel_rfl)) idq (.inl ⟨by rfl, ?_⟩) ?_ ?_
         rotate_left; ·intro w'; go_simp; with_reducible rfl
         rotate_left; ·simp only [Act.put, sqA, sqB, sqC, i64_w, i32_w]; rfl
         refine done_ (done_of HT_.out (by kernel_rfl)) ?_
         try go_wp2
         go_ret
         exact ⟨by first | rfl | (simp [errW_none, errW_some] <;> rfl) | (simp [*, errW_none, errW_some] <;> rfl), by repeat (first | (with_reducible first | exact HB.out | apply bwA | apply bwN | apply bwD) | exact HB.out)⟩
       ·rw [if_neg c7] at H
        exact absurd H (by simp)
      ·rw [if_neg c6] at H
       exact absurd H (by simp)
     ·rw [if_neg c5] at H
      exact absurd H (by simp)
    ·rw [if_neg c4] at H
     have c4b0 : decide (x13_1 < (l0.length : Int)) = false := decide_eq_false c4
     clear c4
     obtain rfl := Option.some.inj H
     go_wp2
     go_ret
     exact ⟨by first | rfl | (simp [errW_none, errW_some] <;> rfl) | (simp [*, errW_none, errW_some] <;> rfl), by repeat (first | (with_reducible first | exact HB.out | apply bwA | apply bwN | apply bwD) | exact HB.out)⟩
 ·rw [if_neg c3] at H
  have c3b0 : ((l0.length : Int) == (l1.length : Int)) = false := beq_eq_false_iff_ne.mpr c3
  have c3b1 : ((l0.length : Int) != (l1.length : Int)) = true := bne_iff_ne.mpr c3
  have c3b2 : (l0.length == l1.length) = false := by first | simpa using c3 | (simp at c3 ⊢; omega)
  obtain rfl := Option.some.inj H
  go_enter Try.func16, Try.ntmps16
  go_wp2
  go_ret
  exact ⟨by first | rfl | (simp [errW_none, errW_some] <;> rfl) | (simp [*, errW_none, errW_some] <;> rfl), by repeat (first | (with_reducible first | exact HB.out | apply bwA | apply bwN | apply bwD) | exact HB.out)⟩

end Go.Proofs.Ytfnogcppbhggpaa.GQ
