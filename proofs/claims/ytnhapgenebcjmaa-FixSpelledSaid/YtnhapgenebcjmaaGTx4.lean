-- written by this session's program gprint.py
import Derived.Test.YtnhapgenebcjmaaGTx0
import Derived.Test.YtnhapgenebcjmaaGTx1
import Derived.Test.YtnhapgenebcjmaaWLast
import Derived.Test.YtnhapgenebcjmaaWMore
import Derived.Test.YtnhapgenebcjmaaWWords
namespace Go.Proofs.Ytnhapgenebcjmaa.GT
open Go.RowKit Go.Proofs.YtnhapgenebcjmaaW.PrintWords Go.Proofs.YtnhapgenebcjmaaW.PrintLast Go.Proofs.YtnhapgenebcjmaaW.PrintMore Go.Proofs.Ytnhapgenebcjmaa.GText Go.Proofs.Ytnhapgenebcjmaa.GParse
attribute [local go_sem] max2_int min2_int max_two min_two max_three min_three max_four min_four   -- for this text's walks alone
set_option linter.unusedVariables false
set_option linter.unusedSimpArgs false

/-! ### tillerlaw01_FixSpelled: function 9 -/
mutual
def tillerlaw01_FixSpelled.j0 : Nat → Int → Int → Int → ByteArray → Bool → Option (Bool)
 | 0, _, _, _, _, _ => none
 | k + 1, x0, x1, x2, x7, x28 => if x28 = true then ((tillerlaw01_awake.f k).bind fun t119 => (if t119 = true then (some (decide ((x7.size : Int) ≤ 24))) else (some false))) else (tillerlaw01_FixSpelled.l0 k x0 x1 x2 x7 0)
def tillerlaw01_FixSpelled.j2 : Nat → Int → Int → ByteArray → Option (Bool)
 | 0, _, _, _ => none
 | k + 1, x0, x2, x7 => tillerlaw01_FixSpelled.l1 k x0 x2 x7 false 0
def tillerlaw01_FixSpelled.l1 : Nat → Int → Int → ByteArray → Bool → Int → Option (Bool)
 | 0, _, _, _, _, _ => none
 | k + 1, x0, x2, x7, x9, x10 => if x10 < (x7.size : Int) then (if x9 = true then (tillerlaw01_FixSpelled.l1 k x0 x2 x7 true (wrap64 (x10 + 1))) else (if 0 ≤ x10 then (tillerlaw01_FixSpelled.l1 k x0 x2 x7 ((bt x7 x10) == 46) (wrap64 (x10 + 1))) else (none))) else (if x9 = true then (tillerlaw01_FixSpelled.j4 k x0 x2 x7) else (if x7.size + 2 ≤ 9223372036854775807 then (tillerlaw01_FixSpelled.j4 k x0 x2 (x7 ++ (⟨#[46, 48]⟩ : ByteArray))) else (none)))
def tillerlaw01_FixSpelled.j4 : Nat → Int → Int → ByteArray → Option (Bool)
 | 0, _, _, _ => none
 | k + 1, x0, x2, x7 => tillerlaw01_FixSpelled.l2 k x0 x2 x7 x7 0
def tillerlaw01_FixSpelled.j6 : Nat → Int → ByteArray → ByteArray → Option (Bool)
 | 0, _, _, _ => none
 | k + 1, x0, x7, x11 => (fix_Parse.f x7).bind fun bt120 => ((fix_Parse.f x11).bind fun bt122 => (if 1 + x7.size ≤ 9223372036854775807 then ((fix_Parse.f ((⟨#[45]⟩ : ByteArray) ++ x7)).bind fun bt124 => (if bt120.2 = 0 then (if bt120.1 = x0 then (if bt124.2 = 0 then (tillerlaw01_FixSpelled.j7 k x0 x11 bt122.1 bt122.2 (bt124.1 != (wrap32 (-x0)))) else (tillerlaw01_FixSpelled.j7 k x0 x11 bt122.1 bt122.2 true)) else (tillerlaw01_FixSpelled.j7 k x0 x11 bt122.1 bt122.2 true)) else (tillerlaw01_FixSpelled.j7 k x0 x11 bt122.1 bt122.2 true))) else (none)))
def tillerlaw01_FixSpelled.j7 : Nat → Int → ByteArray → Int → Int → Bool → Option (Bool)
 | 0, _, _, _, _, _ => none
 | k + 1, x0, x11, x15, x16, x107 => if x107 = true then (some false) else (tillerlaw01_FixSpelled.l3 k x0 x11 x15 x16 0 0)
def tillerlaw01_FixSpelled.l3 : Nat → Int → ByteArray → Int → Int → Int → Int → Option (Bool)
 | 0, _, _, _, _, _, _ => none
 | k + 1, x0, x11, x15, x16, x19, x20 => if x20 < (x11.size : Int) then (if 0 ≤ x20 then (if (bt x11 x20) = 46 then (tillerlaw01_FixSpelled.l3 k x0 x11 x15 x16 (wrap64 ((wrap64 ((x11.size : Int) - x20)) - 1)) (wrap64 (x20 + 1))) else (tillerlaw01_FixSpelled.l3 k x0 x11 x15 x16 x19 (wrap64 (x20 + 1)))) else (none)) else ((tillerlaw01_awake.f k).bind fun t126 => (if t126 = true then (if x19 > 16 then (if x16 = 3 then (some true) else (if x19 ≤ 16 then (if x16 = 0 then (some (x15 == x0)) else (some false)) else (some false))) else (if x19 ≤ 16 then (if x16 = 0 then (some (x15 == x0)) else (some false)) else (some false))) else (some false)))
def tillerlaw01_FixSpelled.l2 : Nat → Int → Int → ByteArray → ByteArray → Int → Option (Bool)
 | 0, _, _, _, _, _ => none
 | k + 1, x0, x2, x7, x11, x12 => if x12 < x2 then (if x12 < 20 then (if x11.size + 1 ≤ 9223372036854775807 then (tillerlaw01_FixSpelled.l2 k x0 x2 x7 (x11 ++ (⟨#[48]⟩ : ByteArray)) (wrap64 (x12 + 1))) else (none)) else (tillerlaw01_FixSpelled.j6 k x0 x7 x11)) else (tillerlaw01_FixSpelled.j6 k x0 x7 x11)
def tillerlaw01_FixSpelled.l0 : Nat → Int → Int → Int → ByteArray → Int → Option (Bool)
 | 0, _, _, _, _, _ => none
 | k + 1, x0, x1, x2, x7, x8 => if x8 < x1 then (if x8 < 3 then (if 1 + x7.size ≤ 9223372036854775807 then (tillerlaw01_FixSpelled.l0 k x0 x1 x2 ((⟨#[48]⟩ : ByteArray) ++ x7) (wrap64 (x8 + 1))) else (none)) else (tillerlaw01_FixSpelled.j2 k x0 x2 x7)) else (tillerlaw01_FixSpelled.j2 k x0 x2 x7)
end
def tillerlaw01_FixSpelled.f (k : Nat) (a0 : Int) (a1 : Int) (a2 : Int) : Option (Bool) := (fix_Text.f a0).bind fun t118 => (if a0 < 0 then (tillerlaw01_FixSpelled.j0 k a0 a1 a2 t118 true) else (tillerlaw01_FixSpelled.j0 k a0 a1 a2 t118 (decide (a0 > 6488064))))
theorem tillerlaw01_FixSpelled.mono_l : ∀ k, (∀ y0 y1 y2 y3 y4, LeO (tillerlaw01_FixSpelled.j0 k y0 y1 y2 y3 y4) (tillerlaw01_FixSpelled.j0 (k + 1) y0 y1 y2 y3 y4)) ∧ (∀ y0 y1 y2, LeO (tillerlaw01_FixSpelled.j2 k y0 y1 y2) (tillerlaw01_FixSpelled.j2 (k + 1) y0 y1 y2)) ∧ (∀ y0 y1 y2 y3 y4, LeO (tillerlaw01_FixSpelled.l1 k y0 y1 y2 y3 y4) (tillerlaw01_FixSpelled.l1 (k + 1) y0 y1 y2 y3 y4)) ∧ (∀ y0 y1 y2, LeO (tillerlaw01_FixSpelled.j4 k y0 y1 y2) (tillerlaw01_FixSpelled.j4 (k + 1) y0 y1 y2)) ∧ (∀ y0 y1 y2, LeO (tillerlaw01_FixSpelled.j6 k y0 y1 y2) (tillerlaw01_FixSpelled.j6 (k + 1) y0 y1 y2)) ∧ (∀ y0 y1 y2 y3 y4, LeO (tillerlaw01_FixSpelled.j7 k y0 y1 y2 y3 y4) (tillerlaw01_FixSpelled.j7 (k + 1) y0 y1 y2 y3 y4)) ∧ (∀ y0 y1 y2 y3 y4 y5, LeO (tillerlaw01_FixSpelled.l3 k y0 y1 y2 y3 y4 y5) (tillerlaw01_FixSpelled.l3 (k + 1) y0 y1 y2 y3 y4 y5)) ∧ (∀ y0 y1 y2 y3 y4, LeO (tillerlaw01_FixSpelled.l2 k y0 y1 y2 y3 y4) (tillerlaw01_FixSpelled.l2 (k + 1) y0 y1 y2 y3 y4)) ∧ (∀ y0 y1 y2 y3 y4, LeO (tillerlaw01_FixSpelled.l0 k y0 y1 y2 y3 y4) (tillerlaw01_FixSpelled.l0 (k + 1) y0 y1 y2 y3 y4))
 | 0 => ⟨fun _ _ _ _ _ r h => by simp [tillerlaw01_FixSpelled.j0] at h, fun _ _ _ r h => by simp [tillerlaw01_FixSpelled.j2] at h, fun _ _ _ _ _ r h => by simp [tillerlaw01_FixSpelled.l1] at h, fun _ _ _ r h => by simp [tillerlaw01_FixSpelled.j4] at h, fun _ _ _ r h => by simp [tillerlaw01_FixSpelled.j6] at h, fun _ _ _ _ _ r h => by simp [tillerlaw01_FixSpelled.j7] at h, fun _ _ _ _ _ _ r h => by simp [tillerlaw01_FixSpelled.l3] at h, fun _ _ _ _ _ r h => by simp [tillerlaw01_FixSpelled.l2] at h, fun _ _ _ _ _ r h => by simp [tillerlaw01_FixSpelled.l0] at h⟩
 | k + 1 => by
  obtain ⟨ih0, ih1, ih2, ih3, ih4, ih5, ih6, ih7, ih8⟩ := tillerlaw01_FixSpelled.mono_l k
  refine ⟨?_, ?_, ?_, ?_, ?_, ?_, ?_, ?_, ?_⟩
  ·intro y0 y1 y2 y3 y4
   unfold tillerlaw01_FixSpelled.j0
   repeat' first
   | (with_reducible exact ih0 _ _ _ _ _)
   | (with_reducible exact ih1 _ _ _)
   | (with_reducible exact ih2 _ _ _ _ _)
   | (with_reducible exact ih3 _ _ _)
   | (with_reducible exact ih4 _ _ _)
   | (with_reducible exact ih5 _ _ _ _ _)
   | (with_reducible exact ih6 _ _ _ _ _ _)
   | (with_reducible exact ih7 _ _ _ _ _)
   | (with_reducible exact ih8 _ _ _ _ _)
   | (with_reducible exact tillerlaw01_awake.mono _)
   | (with_reducible exact LeO.refl _)
   | (with_reducible exact LeO.none _)
   | (with_reducible refine LeO.ite ?_ ?_)
   | (with_reducible refine LeO.bind ?_ (fun _ => ?_))
   | exact ih0 _ _ _ _ _
   | exact ih1 _ _ _
   | exact ih2 _ _ _ _ _
   | exact ih3 _ _ _
   | exact ih4 _ _ _
   | exact ih5 _ _ _ _ _
   | exact ih6 _ _ _ _ _ _
   | exact ih7 _ _ _ _ _
   | exact ih8 _ _ _ _ _
   | exact tillerlaw01_awake.mono _
   | exact LeO.none _
   | refine LeO.ite ?_ ?_
   | refine LeO.bind ?_ (fun _ => ?_)
  ·intro y0 y1 y2
   unfold tillerlaw01_FixSpelled.j2
   repeat' first
   | (with_reducible exact ih0 _ _ _ _ _)
   | (with_reducible exact ih1 _ _ _)
   | (with_reducible exact ih2 _ _ _ _ _)
   | (with_reducible exact ih3 _ _ _)
   | (with_reducible exact ih4 _ _ _)
   | (with_reducible exact ih5 _ _ _ _ _)
   | (with_reducible exact ih6 _ _ _ _ _ _)
   | (with_reducible exact ih7 _ _ _ _ _)
   | (with_reducible exact ih8 _ _ _ _ _)
   | (with_reducible exact tillerlaw01_awake.mono _)
   | (with_reducible exact LeO.refl _)
   | (with_reducible exact LeO.none _)
   | (with_reducible refine LeO.ite ?_ ?_)
   | (with_reducible refine LeO.bind ?_ (fun _ => ?_))
   | exact ih0 _ _ _ _ _
   | exact ih1 _ _ _
   | exact ih2 _ _ _ _ _
   | exact ih3 _ _ _
   | exact ih4 _ _ _
   | exact ih5 _ _ _ _ _
   | exact ih6 _ _ _ _ _ _
   | exact ih7 _ _ _ _ _
   | exact ih8 _ _ _ _ _
   | exact tillerlaw01_awake.mono _
   | exact LeO.none _
   | refine LeO.ite ?_ ?_
   | refine LeO.bind ?_ (fun _ => ?_)
  ·intro y0 y1 y2 y3 y4
   unfold tillerlaw01_FixSpelled.l1
   repeat' first
   | (with_reducible exact ih0 _ _ _ _ _)
   | (with_reducible exact ih1 _ _ _)
   | (with_reducible exact ih2 _ _ _ _ _)
   | (with_reducible exact ih3 _ _ _)
   | (with_reducible exact ih4 _ _ _)
   | (with_reducible exact ih5 _ _ _ _ _)
   | (with_reducible exact ih6 _ _ _ _ _ _)
   | (with_reducible exact ih7 _ _ _ _ _)
   | (with_reducible exact ih8 _ _ _ _ _)
   | (with_reducible exact tillerlaw01_awake.mono _)
   | (with_reducible exact LeO.refl _)
   | (with_reducible exact LeO.none _)
   | (with_reducible refine LeO.ite ?_ ?_)
   | (with_reducible refine LeO.bind ?_ (fun _ => ?_))
   | exact ih0 _ _ _ _ _
   | exact ih1 _ _ _
   | exact ih2 _ _ _ _ _
   | exact ih3 _ _ _
   | exact ih4 _ _ _
   | exact ih5 _ _ _ _ _
   | exact ih6 _ _ _ _ _ _
   | exact ih7 _ _ _ _ _
   | exact ih8 _ _ _ _ _
   | exact tillerlaw01_awake.mono _
   | exact LeO.none _
   | refine LeO.ite ?_ ?_
   | refine LeO.bind ?_ (fun _ => ?_)
  ·intro y0 y1 y2
   unfold tillerlaw01_FixSpelled.j4
   repeat' first
   | (with_reducible exact ih0 _ _ _ _ _)
   | (with_reducible exact ih1 _ _ _)
   | (with_reducible exact ih2 _ _ _ _ _)
   | (with_reducible exact ih3 _ _ _)
   | (with_reducible exact ih4 _ _ _)
   | (with_reducible exact ih5 _ _ _ _ _)
   | (with_reducible exact ih6 _ _ _ _ _ _)
   | (with_reducible exact ih7 _ _ _ _ _)
   | (with_reducible exact ih8 _ _ _ _ _)
   | (with_reducible exact tillerlaw01_awake.mono _)
   | (with_reducible exact LeO.refl _)
   | (with_reducible exact LeO.none _)
   | (with_reducible refine LeO.ite ?_ ?_)
   | (with_reducible refine LeO.bind ?_ (fun _ => ?_))
   | exact ih0 _ _ _ _ _
   | exact ih1 _ _ _
   | exact ih2 _ _ _ _ _
   | exact ih3 _ _ _
   | exact ih4 _ _ _
   | exact ih5 _ _ _ _ _
   | exact ih6 _ _ _ _ _ _
   | exact ih7 _ _ _ _ _
   | exact ih8 _ _ _ _ _
   | exact tillerlaw01_awake.mono _
   | exact LeO.none _
   | refine LeO.ite ?_ ?_
   | refine LeO.bind ?_ (fun _ => ?_)
  ·intro y0 y1 y2
   unfold tillerlaw01_FixSpelled.j6
   repeat' first
   | (with_reducible exact ih0 _ _ _ _ _)
   | (with_reducible exact ih1 _ _ _)
   | (with_reducible exact ih2 _ _ _ _ _)
   | (with_reducible exact ih3 _ _ _)
   | (with_reducible exact ih4 _ _ _)
   | (with_reducible exact ih5 _ _ _ _ _)
   | (with_reducible exact ih6 _ _ _ _ _ _)
   | (with_reducible exact ih7 _ _ _ _ _)
   | (with_reducible exact ih8 _ _ _ _ _)
   | (with_reducible exact tillerlaw01_awake.mono _)
   | (with_reducible exact LeO.refl _)
   | (with_reducible exact LeO.none _)
   | (with_reducible refine LeO.ite ?_ ?_)
   | (with_reducible refine LeO.bind ?_ (fun _ => ?_))
   | exact ih0 _ _ _ _ _
   | exact ih1 _ _ _
   | exact ih2 _ _ _ _ _
   | exact ih3 _ _ _
   | exact ih4 _ _ _
   | exact ih5 _ _ _ _ _
   | exact ih6 _ _ _ _ _ _
   | exact ih7 _ _ _ _ _
   | exact ih8 _ _ _ _ _
   | exact tillerlaw01_awake.mono _
   | exact LeO.none _
   | refine LeO.ite ?_ ?_
   | refine LeO.bind ?_ (fun _ => ?_)
  ·intro y0 y1 y2 y3 y4
   unfold tillerlaw01_FixSpelled.j7
   repeat' first
   | (with_reducible exact ih0 _ _ _ _ _)
   | (with_reducible exact ih1 _ _ _)
   | (with_reducible exact ih2 _ _ _ _ _)
   | (with_reducible exact ih3 _ _ _)
   | (with_reducible exact ih4 _ _ _)
   | (with_reducible exact ih5 _ _ _ _ _)
   | (with_reducible exact ih6 _ _ _ _ _ _)
   | (with_reducible exact ih7 _ _ _ _ _)
   | (with_reducible exact ih8 _ _ _ _ _)
   | (with_reducible exact tillerlaw01_awake.mono _)
   | (with_reducible exact LeO.refl _)
   | (with_reducible exact LeO.none _)
   | (with_reducible refine LeO.ite ?_ ?_)
   | (with_reducible refine LeO.bind ?_ (fun _ => ?_))
   | exact ih0 _ _ _ _ _
   | exact ih1 _ _ _
   | exact ih2 _ _ _ _ _
   | exact ih3 _ _ _
   | exact ih4 _ _ _
   | exact ih5 _ _ _ _ _
   | exact ih6 _ _ _ _ _ _
   | exact ih7 _ _ _ _ _
   | exact ih8 _ _ _ _ _
   | exact tillerlaw01_awake.mono _
   | exact LeO.none _
   | refine LeO.ite ?_ ?_
   | refine LeO.bind ?_ (fun _ => ?_)
  ·intro y0 y1 y2 y3 y4 y5
   unfold tillerlaw01_FixSpelled.l3
   repeat' first
   | (with_reducible exact ih0 _ _ _ _ _)
   | (with_reducible exact ih1 _ _ _)
   | (with_reducible exact ih2 _ _ _ _ _)
   | (with_reducible exact ih3 _ _ _)
   | (with_reducible exact ih4 _ _ _)
   | (with_reducible exact ih5 _ _ _ _ _)
   | (with_reducible exact ih6 _ _ _ _ _ _)
   | (with_reducible exact ih7 _ _ _ _ _)
   | (with_reducible exact ih8 _ _ _ _ _)
   | (with_reducible exact tillerlaw01_awake.mono _)
   | (with_reducible exact LeO.refl _)
   | (with_reducible exact LeO.none _)
   | (with_reducible refine LeO.ite ?_ ?_)
   | (with_reducible refine LeO.bind ?_ (fun _ => ?_))
   | exact ih0 _ _ _ _ _
   | exact ih1 _ _ _
   | exact ih2 _ _ _ _ _
   | exact ih3 _ _ _
   | exact ih4 _ _ _
   | exact ih5 _ _ _ _ _
   | exact ih6 _ _ _ _ _ _
   | exact ih7 _ _ _ _ _
   | exact ih8 _ _ _ _ _
   | exact tillerlaw01_awake.mono _
   | exact LeO.none _
   | refine LeO.ite ?_ ?_
   | refine LeO.bind ?_ (fun _ => ?_)
  ·intro y0 y1 y2 y3 y4
   unfold tillerlaw01_FixSpelled.l2
   repeat' first
   | (with_reducible exact ih0 _ _ _ _ _)
   | (with_reducible exact ih1 _ _ _)
   | (with_reducible exact ih2 _ _ _ _ _)
   | (with_reducible exact ih3 _ _ _)
   | (with_reducible exact ih4 _ _ _)
   | (with_reducible exact ih5 _ _ _ _ _)
   | (with_reducible exact ih6 _ _ _ _ _ _)
   | (with_reducible exact ih7 _ _ _ _ _)
   | (with_reducible exact ih8 _ _ _ _ _)
   | (with_reducible exact tillerlaw01_awake.mono _)
   | (with_reducible exact LeO.refl _)
   | (with_reducible exact LeO.none _)
   | (with_reducible refine LeO.ite ?_ ?_)
   | (with_reducible refine LeO.bind ?_ (fun _ => ?_))
   | exact ih0 _ _ _ _ _
   | exact ih1 _ _ _
   | exact ih2 _ _ _ _ _
   | exact ih3 _ _ _
   | exact ih4 _ _ _
   | exact ih5 _ _ _ _ _
   | exact ih6 _ _ _ _ _ _
   | exact ih7 _ _ _ _ _
   | exact ih8 _ _ _ _ _
   | exact tillerlaw01_awake.mono _
   | exact LeO.none _
   | refine LeO.ite ?_ ?_
   | refine LeO.bind ?_ (fun _ => ?_)
  ·intro y0 y1 y2 y3 y4
   unfold tillerlaw01_FixSpelled.l0
   repeat' first
   | (with_reducible exact ih0 _ _ _ _ _)
   | (with_reducible exact ih1 _ _ _)
   | (with_reducible exact ih2 _ _ _ _ _)
   | (with_reducible exact ih3 _ _ _)
   | (with_reducible exact ih4 _ _ _)
   | (with_reducible exact ih5 _ _ _ _ _)
   | (with_reducible exact ih6 _ _ _ _ _ _)
   | (with_reducible exact ih7 _ _ _ _ _)
   | (with_reducible exact ih8 _ _ _ _ _)
   | (with_reducible exact tillerlaw01_awake.mono _)
   | (with_reducible exact LeO.refl _)
   | (with_reducible exact LeO.none _)
   | (with_reducible refine LeO.ite ?_ ?_)
   | (with_reducible refine LeO.bind ?_ (fun _ => ?_))
   | exact ih0 _ _ _ _ _
   | exact ih1 _ _ _
   | exact ih2 _ _ _ _ _
   | exact ih3 _ _ _
   | exact ih4 _ _ _
   | exact ih5 _ _ _ _ _
   | exact ih6 _ _ _ _ _ _
   | exact ih7 _ _ _ _ _
   | exact ih8 _ _ _ _ _
   | exact tillerlaw01_awake.mono _
   | exact LeO.none _
   | refine LeO.ite ?_ ?_
   | refine LeO.bind ?_ (fun _ => ?_)
theorem tillerlaw01_FixSpelled.mono : ∀ a0 a1 a2 k, LeO (tillerlaw01_FixSpelled.f k a0 a1 a2) (tillerlaw01_FixSpelled.f (k + 1) a0 a1 a2) := by
 intro a0 a1 a2 k
 obtain ⟨ih0, ih1, ih2, ih3, ih4, ih5, ih6, ih7, ih8⟩ := tillerlaw01_FixSpelled.mono_l k
 unfold tillerlaw01_FixSpelled.f
 repeat' first
   | (with_reducible exact ih0 _ _ _ _ _)
   | (with_reducible exact ih1 _ _ _)
   | (with_reducible exact ih2 _ _ _ _ _)
   | (with_reducible exact ih3 _ _ _)
   | (with_reducible exact ih4 _ _ _)
   | (with_reducible exact ih5 _ _ _ _ _)
   | (with_reducible exact ih6 _ _ _ _ _ _)
   | (with_reducible exact ih7 _ _ _ _ _)
   | (with_reducible exact ih8 _ _ _ _ _)
   | (with_reducible exact tillerlaw01_awake.mono _)
   | (with_reducible exact LeO.refl _)
   | (with_reducible exact LeO.none _)
   | (with_reducible refine LeO.ite ?_ ?_)
   | (with_reducible refine LeO.bind ?_ (fun _ => ?_))
   | exact ih0 _ _ _ _ _
   | exact ih1 _ _ _
   | exact ih2 _ _ _ _ _
   | exact ih3 _ _ _
   | exact ih4 _ _ _
   | exact ih5 _ _ _ _ _
   | exact ih6 _ _ _ _ _ _
   | exact ih7 _ _ _ _ _
   | exact ih8 _ _ _ _ _
   | exact tillerlaw01_awake.mono _
   | exact LeO.none _
   | refine LeO.ite ?_ ?_
   | refine LeO.bind ?_ (fun _ => ?_)
set_option maxHeartbeats 8000000 in
set_option maxRecDepth 100000 in
theorem tillerlaw01_FixSpelled.calls (k : Nat) (a0 : Int) (a1 : Int) (a2 : Int) (r : Bool) (w : World) (hr_ : Aside0 (r = true)) (h : tillerlaw01_FixSpelled.f k a0 a1 a2 = some r) :
  Calls Try.prog 9 #[.int .i32 a0, .int .i64 a1, .int .i64 a2] w fun e w' => e = .returned (.bool r) ∧ Below w.heap.size w w' := by
 have HB := Aside0.mk (Below.refl w.heap.size w)
 have H : ((fix_Text.f a0).bind fun t118 => (if a0 < 0 then (tillerlaw01_FixSpelled.j0 k a0 a1 a2 t118 true) else (tillerlaw01_FixSpelled.j0 k a0 a1 a2 t118 (decide (a0 > 6488064))))) = some r := h
 clear h
 replace H := Option.bind_eq_some_iff.mp H
 obtain ⟨t118, A40, H⟩ := H
 replace H : (if a0 < 0 then (tillerlaw01_FixSpelled.j0 k a0 a1 a2 t118 true) else (tillerlaw01_FixSpelled.j0 k a0 a1 a2 t118 (decide (a0 > 6488064)))) = some r := H
 have A4 := Aside0.mk A40
 clear A40
 have HC5 := Aside0.mk H
 clear H
 go_enter Try.func9, Try.ntmps9
 go_upto_region 2 with (first | ((with_reducible refine gate_callee (f := 24) rfl ?_); refine goesL_ (some 22) rfl rfl Try.func24 (by kernel_rfl) rfl #[.int .i32 a0] rfl (by (try simp only [List.map_toArray, List.map_cons, List.map_nil]); first | done | rfl | (simp only [List.length_drop, List.length_take]; rfl)) ?_; (with_reducible refine (fix_Text.calls a0 t118 _ A4.out).mono ?_); rintro e w6 ⟨rfl, hb⟩; refine ⟨_, rfl, ?_⟩; have n0_ := Aside0.mk (below_step (by repeat (first | (with_reducible first | exact HB.out | apply bwA | apply bwN | apply bwD) | exact HB.out)) hb); clear HB; have HB := n0_; clear n0_; (try clear hb); (try clear hb2); (try clear hk); (try clear hi)))
 (try simp only [Act.put, List.setIfInBounds_toArray, List.set_cons_zero, List.set_cons_succ])
 go_cut [28] (fun v28 wc => ∃ (kq : Nat) (x28_4 : Bool), v28 = .bool x28_4 ∧ Aside0 (tillerlaw01_FixSpelled.j0 kq a0 a1 a2 t118 x28_4 = some r) ∧ Aside0 (kq ≤ k) ∧ Aside0 (Below w.heap.size w wc))
 case first =>
  have H := HC5.out
  clear HC5
  by_cases c7 : a0 < 0
  ·rw [if_pos c7] at H
   have c7b0 : decide (a0 < 0) = true := decide_eq_true c7
   clear c7
   (first | rw [c7b0] | (simp only [i64_w, i32_w]; rw [c7b0]) | skip)
   have H' := Aside0.mk H
   clear H
   go_wp2
   go_meet
   case rel => exact ⟨_, (true), (by first | rfl | (simp; done) | (simp [*]; done)), H', ⟨by first | omega | exact Nat.le_refl _⟩, ⟨by repeat (first | (with_reducible first | exact HB.out | apply bwA | apply bwN | apply bwD) | exact HB.out)⟩⟩
  ·rw [if_neg c7] at H
   have c7b0 : decide (a0 < 0) = false := decide_eq_false c7
   clear c7
   (first | rw [c7b0] | (simp only [i64_w, i32_w]; rw [c7b0]) | skip)
   have H' := Aside0.mk H
   clear H
   go_wp2
   go_meet
   case rel => exact ⟨_, (decide (a0 > 6488064)), (by first | rfl | (simp; done) | (simp [*]; done)), H', ⟨by first | omega | exact Nat.le_refl _⟩, ⟨by repeat (first | (with_reducible first | exact HB.out | apply bwA | apply bwN | apply bwD) | exact HB.out)⟩⟩
 case rest =>
  clear HC5
  try clear c2
  try clear p2
  try clear c7
  try clear c7b0
  obtain ⟨kq, x28_4, rfl, HA, HJ4, HB⟩ := hcut
  cases kq with
  | zero => exact absurd HA.out (by simp [tillerlaw01_FixSpelled.j0])
  | succ kj4 =>
   have H := HA.out
   clear HA
   simp only [tillerlaw01_FixSpelled.j0] at H
   by_cases c8 : x28_4 = true
   ·subst c8
    have H1 : ((tillerlaw01_awake.f kj4).bind fun t119 => (if t119 = true then (some (decide ((t118.size : Int) ≤ 24))) else (some false))) = some r := by rw [if_pos rfl] at H; exact H
    clear H
    have H := H1
    clear H1
    replace H := Option.bind_eq_some_iff.mp H
    obtain ⟨t119, A90, H⟩ := H
    replace H : (if t119 = true then (some (decide ((t118.size : Int) ≤ 24))) else (some false)) = some r := H
    have A9 := Aside0.mk A90
    clear A90
    by_cases c10 : t119 = true
    ·subst c10
     have H1 : (some (decide ((t118.size : Int) ≤ 24))) = some r := by rw [if_pos rfl] at H; exact H
     clear H
     have H := H1
     clear H1
     obtain rfl := Option.some.inj H
     go_wp2_with (first | ((with_reducible refine gate_callee (f := 12) rfl ?_); refine goesL_ (some 29) rfl rfl Try.func12 (by kernel_rfl) rfl #[] rfl (by (try simp only [List.map_toArray, List.map_cons, List.map_nil]); first | done | rfl | (simp only [List.length_drop, List.length_take]; rfl)) ?_; (with_reducible refine (tillerlaw01_awake.calls kj4  true _ A9.out).mono ?_); rintro e w11 ⟨rfl, hb⟩; refine ⟨_, rfl, ?_⟩; have n0_ := Aside0.mk (below_step (by repeat (first | (with_reducible first | exact HB.out | apply bwA | apply bwN | apply bwD) | exact HB.out)) hb); clear HB; have HB := n0_; clear n0_; (try clear hb); (try clear hb2); (try clear hk); (try clear hi)))
     go_ret
     exact ⟨by first | rfl | (simp [errW_none, errW_some] <;> rfl) | (simp [*, errW_none, errW_some] <;> rfl), by repeat (first | (with_reducible first | exact HB.out | apply bwA | apply bwN | apply bwD) | exact HB.out)⟩
    ·replace c10 := Bool.eq_false_iff.mpr c10
     subst c10
     have H1 : (some false) = some r := by rw [if_neg (show ¬ (false = true) by decide)] at H; exact H
     clear H
     have H := H1
     clear H1
     exact absurd (Option.some.inj H) (by rw [hr_.out]; decide)
   ·replace c8 := Bool.eq_false_iff.mpr c8
    subst c8
    have H1 : (tillerlaw01_FixSpelled.l0 kj4 a0 a1 a2 t118 0) = some r := by rw [if_neg (show ¬ (false = true) by decide)] at H; exact H
    clear H
    have H := H1
    clear H1
    have HC12 := Aside0.mk H
    clear H
    go_upto_block 0 with (fail)
    go_cut [7] (fun v7 wc => ∃ (kq : Nat) (x7_11 : ByteArray), v7 = .string x7_11 ∧ Aside0 (tillerlaw01_FixSpelled.j2 kq a0 a2 x7_11 = some r) ∧ Aside0 (kq ≤ kj4) ∧ Aside0 (Below w.heap.size w wc))
    case first =>
     have H := HC12.out
     clear HC12
     have H' := Aside0.mk H
     clear H
     go_wp2
     go_loopg [7, 8] kj4 (fun kq v7 v8 w' => ∃ (x7_2 : ByteArray) (x8_2 : Int), v7 = .string x7_2 ∧ v8 = .int .i64 x8_2 ∧ Aside0 (tillerlaw01_FixSpelled.l0 kq a0 a1 a2 x7_2 x8_2 = some r) ∧ Aside0 (kq ≤ kj4) ∧ Aside0 (Below w.heap.size w w'))
     case atStart => exact ⟨(t118), (0), (by first | rfl | (simp; done) | (simp [*]; done)), (by first | rfl | (simp; done) | (simp [*]; done)), H', ⟨Nat.le_refl _⟩, ⟨by repeat (first | (with_reducible first | exact HB.out | apply bwA | apply bwN | apply bwD) | exact HB.out)⟩⟩
     case round =>
      clear H'
      try clear c1
      try clear c2
      try clear p2
      try clear c7
      try clear c7b0
      try clear c8
      try clear c9
      try clear c10
      try clear c12
      try clear p2
      obtain ⟨x7_2, x8_2, rfl, rfl, HA, HK2, HB⟩ := hrel
      cases gk with
      | zero => exact absurd HA.out (by simp [tillerlaw01_FixSpelled.l0])
      | succ k2 =>
       have H := HA.out
       clear HA
       simp only [tillerlaw01_FixSpelled.l0] at H
       by_cases c13 : x8_2 < a1
       ·rw [if_pos c13] at H
        have c13b0 : decide (x8_2 < a1) = true := decide_eq_true c13
        clear c13
        (first | rw [c13b0] | (simp only [i64_w, i32_w]; rw [c13b0]) | skip)
        by_cases c14 : x8_2 < 3
        ·rw [if_pos c14] at H
         have c14b0 : decide (x8_2 < 3) = true := decide_eq_true c14
         clear c14
         by_cases c15 : 1 + x7_2.size ≤ 9223372036854775807
         ·rw [if_pos c15] at H
          have c15b0 := eq_true c15
          have c15b1 : decide (1 + x7_2.size ≤ 9223372036854775807) = true := decide_eq_true c15
          try have c15b2 : (9223372036854775807 < 1 + x7_2.size) = False := eq_false (Nat.not_lt.2 c15)
          have H' := Aside0.mk H
          clear H
          go_wp2
          go_roundg k2
          case measure => have := HJ4.out; have := HK2.out; omega
          case rel => exact ⟨((⟨#[48]⟩ : ByteArray) ++ x7_2), (wrap64 (x8_2 + 1)), (by first | rfl | (simp; done) | (simp [*]; done)), (by first | rfl | (simp; done) | (simp [*]; done)), H', ⟨by have := HJ4.out; have := HK2.out; omega⟩, ⟨by repeat (first | (with_reducible first | exact HB.out | apply bwA | apply bwN | apply bwD) | exact HB.out)⟩⟩
         ·rw [if_neg c15] at H
          exact absurd H (by simp)
        ·rw [if_neg c14] at H
         have c14b0 : decide (x8_2 < 3) = false := decide_eq_false c14
         clear c14
         have H' := Aside0.mk H
         clear H
         go_wp2
         go_meet
         case rel => exact ⟨_, (x7_2), (by first | rfl | (simp; done) | (simp [*]; done)), H', ⟨by have := HJ4.out; have := HK2.out; first | omega | exact Nat.le_refl _⟩, ⟨by repeat (first | (with_reducible first | exact HB.out | apply bwA | apply bwN | apply bwD) | exact HB.out)⟩⟩
       ·rw [if_neg c13] at H
        have c13b0 : decide (x8_2 < a1) = false := decide_eq_false c13
        clear c13
        (first | rw [c13b0] | (simp only [i64_w, i32_w]; rw [c13b0]) | skip)
        have H' := Aside0.mk H
        clear H
        go_wp2
        go_meet
        case rel => exact ⟨_, (x7_2), (by first | rfl | (simp; done) | (simp [*]; done)), H', ⟨by have := HJ4.out; have := HK2.out; first | omega | exact Nat.le_refl _⟩, ⟨by repeat (first | (with_reducible first | exact HB.out | apply bwA | apply bwN | apply bwD) | exact HB.out)⟩⟩
    case rest =>
     clear HC12
     try clear c1
     try clear c2
     try clear p2
     try clear p6
     try clear c7
     try clear c7b0
     try clear c8
     try clear c9
     try clear c10
     try clear c12
     try clear c13
     try clear c13b0
     try clear c14
     try clear c14b0
     try clear c15
     try clear c15b0
     try clear c15b1
     try clear c15b2
     try clear p2
     obtain ⟨kq, x7_11, rfl, HA, HJ11, HB⟩ := hcut
     cases kq with
     | zero => exact absurd HA.out (by simp [tillerlaw01_FixSpelled.j2])
     | succ kj11 =>
      have H := HA.out
      clear HA
      simp only [tillerlaw01_FixSpelled.j2] at H
      have H' := Aside0.mk H
      clear H
      go_wp2
      go_loopg [9, 10] kj11 (fun kq v9 v10 w' => ∃ (x9_3 : Bool) (x10_3 : Int), v9 = .bool x9_3 ∧ v10 = .int .i64 x10_3 ∧ Aside0 (tillerlaw01_FixSpelled.l1 kq a0 a2 x7_11 x9_3 x10_3 = some r) ∧ Aside0 (kq ≤ kj11) ∧ Aside0 (Below w.heap.size w w'))
      case atStart => exact ⟨(false), (0), (by first | rfl | (simp; done) | (simp [*]; done)), (by first | rfl | (simp; done) | (simp [*]; done)), H', ⟨Nat.le_refl _⟩, ⟨by repeat (first | (with_reducible first | exact HB.out | apply bwA | apply bwN | apply bwD) | exact HB.out)⟩⟩
      case round =>
       clear H'
       try clear c1
       try clear c2
       try clear p2
       try clear p6
       try clear c7
       try clear c7b0
       try clear c8
       try clear c9
       try clear c10
       try clear c12
       try clear c13
       try clear c13b0
       try clear c14
       try clear c14b0
       try clear c15
       try clear c15b0
       try clear c15b1
       try clear c15b2
       try clear p2
       try clear p6
       obtain ⟨x9_3, x10_3, rfl, rfl, HA, HK3, HB⟩ := hrel
       cases gk with
       | zero => exact absurd HA.out (by simp [tillerlaw01_FixSpelled.l1])
       | succ k3 =>
        have H := HA.out
        clear HA
        simp only [tillerlaw01_FixSpelled.l1] at H
        by_cases c16 : x10_3 < (x7_11.size : Int)
        ·rw [if_pos c16] at H
         have c16b0 : decide (x10_3 < (x7_11.size : Int)) = true := decide_eq_true c16
         clear c16
         by_cases c17 : x9_3 = true
         ·subst c17
          have H1 : (tillerlaw01_FixSpelled.l1 k3 a0 a2 x7_11 true (wrap64 (x10_3 + 1))) = some r := by rw [if_pos rfl] at H; exact H
          clear H
          have H := H1
          clear H1
          have H' := Aside0.mk H
          clear H
          go_wp2
          go_roundg k3
          case measure => have := HJ4.out; have := HJ11.out; have := HK3.out; omega
          case rel => exact ⟨(true), (wrap64 (x10_3 + 1)), (by first | rfl | (simp; done) | (simp [*]; done)), (by first | rfl | (simp; done) | (simp [*]; done)), H', ⟨by have := HJ4.out; have := HJ11.out; have := HK3.out; omega⟩, ⟨by repeat (first | (with_reducible first | exact HB.out | apply bwA | apply bwN | apply bwD) | exact HB.out)⟩⟩
         ·replace c17 := Bool.eq_false_iff.mpr c17
          subst c17
          have H1 : (if 0 ≤ x10_3 then (tillerlaw01_FixSpelled.l1 k3 a0 a2 x7_11 ((bt x7_11 x10_3) == 46) (wrap64 (x10_3 + 1))) else (none)) = some r := by rw [if_neg (show ¬ (false = true) by decide)] at H; exact H
          clear H
          have H := H1
          clear H1
          by_cases c18 : 0 ≤ x10_3
          ·rw [if_pos c18] at H
           have c18b0 : decide (0 ≤ x10_3) = true := decide_eq_true c18
           clear c18
           have H' := Aside0.mk H
           clear H
           have p19 : 0 ≤ (x10_3 : Int) := ofd_
           have q19 : x10_3 < (x7_11.size : Int) := ofd_
           have hx19 := bt_at x7_11 x10_3
           replace p19 := eq_true p19
           replace q19 := eq_true q19
           go_wp2
           go_roundg k3
           case measure => have := HJ4.out; have := HJ11.out; have := HK3.out; omega
           case rel => exact ⟨(((bt x7_11 x10_3) == 46)), (wrap64 (x10_3 + 1)), (by first | rfl | (simp; done) | (simp [*]; done)), (by first | rfl | (simp; done) | (simp [*]; done)), H', ⟨by have := HJ4.out; have := HJ11.out; have := HK3.out; omega⟩, ⟨by repeat (first | (with_reducible first | exact HB.out | apply bwA | apply bwN | apply bwD) | exact HB.out)⟩⟩
          ·rw [if_neg c18] at H
           exact absurd H (by simp)
        ·rw [if_neg c16] at H
         have c16b0 : decide (x10_3 < (x7_11.size : Int)) = false := decide_eq_false c16
         clear c16
         have HC20 := Aside0.mk H
         clear H
         go_upto_if 60 with (fail)
         go_cut [7] (fun v7 wc => ∃ (kq : Nat) (x7_19 : ByteArray), v7 = .string x7_19 ∧ Aside0 (tillerlaw01_FixSpelled.j4 kq a0 a2 x7_19 = some r) ∧ Aside0 (kq ≤ k3) ∧ Aside0 (Below w.heap.size w wc))
         case first =>
          have H := HC20.out
          clear HC20
          by_cases c21 : x9_3 = true
          ·subst c21
           have H1 : (tillerlaw01_FixSpelled.j4 k3 a0 a2 x7_11) = some r := by rw [if_pos rfl] at H; exact H
           clear H
           have H := H1
           clear H1
           have H' := Aside0.mk H
           clear H
           go_wp2
           go_meet
           case rel => exact ⟨_, (x7_11), (by first | rfl | (simp; done) | (simp [*]; done)), H', ⟨by have := HJ4.out; have := HJ11.out; have := HK3.out; first | omega | exact Nat.le_refl _⟩, ⟨by repeat (first | (with_reducible first | exact HB.out | apply bwA | apply bwN | apply bwD) | exact HB.out)⟩⟩
          ·replace c21 := Bool.eq_false_iff.mpr c21
           subst c21
           have H1 : (if x7_11.size + 2 ≤ 9223372036854775807 then (tillerlaw01_FixSpelled.j4 k3 a0 a2 (x7_11 ++ (⟨#[46, 48]⟩ : ByteArray))) else (none)) = some r := by rw [if_neg (show ¬ (false = true) by decide)] at H; exact H
           clear H
           have H := H1
           clear H1
           by_cases c22 : x7_11.size + 2 ≤ 9223372036854775807
           ·rw [if_pos c22] at H
            have c22b0 := eq_true c22
            have c22b1 : decide (x7_11.size + 2 ≤ 9223372036854775807) = true := decide_eq_true c22
            try have c22b2 : (9223372036854775807 < x7_11.size + 2) = False := eq_false (Nat.not_lt.2 c22)
            have H' := Aside0.mk H
            clear H
            go_wp2
            go_meet
            case rel => exact ⟨_, (x7_11 ++ (⟨#[46, 48]⟩ : ByteArray)), (by first | rfl | (simp; done) | (simp [*]; done)), H', ⟨by have := HJ4.out; have := HJ11.out; have := HK3.out; first | omega | exact Nat.le_refl _⟩, ⟨by repeat (first | (with_reducible first | exact HB.out | apply bwA | apply bwN | apply bwD) | exact HB.out)⟩⟩
           ·rw [if_neg c22] at H
            exact absurd H (by simp)
         case rest =>
          clear HC20
          try clear c1
          try clear p1
          try clear q1
          try clear hx1
          try clear c2
          try clear p2
          try clear p6
          try clear c7
          try clear c7b0
          try clear c8
          try clear c9
          try clear c10
          try clear c12
          try clear c13
          try clear c13b0
          try clear c14
          try clear c14b0
          try clear c15
          try clear c15b0
          try clear c15b1
          try clear c15b2
          try clear c16
          try clear c16b0
          try clear c17
          try clear c18
          try clear c18b0
          try clear p19
          try clear q19
          try clear hx19
          try clear c21
          try clear c22
          try clear c22b0
          try clear c22b1
          try clear c22b2
          try clear p19
          try clear p2
          try clear p6
          try clear q19
          obtain ⟨kq, x7_19, rfl, HA, HJ19, HB⟩ := hcut
          cases kq with
          | zero => exact absurd HA.out (by simp [tillerlaw01_FixSpelled.j4])
          | succ kj19 =>
           have H := HA.out
           clear HA
           simp only [tillerlaw01_FixSpelled.j4] at H
           have HC23 := Aside0.mk H
           clear H
           go_upto_block 4 with (fail)
           go_cut [11] (fun v11 wc => ∃ (kq : Nat) (x11_22 : ByteArray), v11 = .string x11_22 ∧ Aside0 (tillerlaw01_FixSpelled.j6 kq a0 x7_19 x11_22 = some r) ∧ Aside0 (kq ≤ kj19) ∧ Aside0 (Below w.heap.size w wc))
           case first =>
            have H := HC23.out
            clear HC23
            have H' := Aside0.mk H
            clear H
            go_wp2
            go_loopg [11, 12] kj19 (fun kq v11 v12 w' => ∃ (x11_5 : ByteArray) (x12_5 : Int), v11 = .string x11_5 ∧ v12 = .int .i64 x12_5 ∧ Aside0 (tillerlaw01_FixSpelled.l2 kq a0 a2 x7_19 x11_5 x12_5 = some r) ∧ Aside0 (kq ≤ kj19) ∧ Aside0 (Below w.heap.size w w'))
            case atStart => exact ⟨(x7_19), (0), (by first | rfl | (simp; done) | (simp [*]; done)), (by first | rfl | (simp; done) | (simp [*]; done)), H', ⟨Nat.le_refl _⟩, ⟨by repeat (first | (with_reducible first | exact HB.out | apply bwA | apply bwN | apply bwD) | exact HB.out)⟩⟩
            case round =>
             clear H'
             try clear c1
             try clear p1
             try clear q1
             try clear hx1
             try clear c2
             try clear p2
             try clear p6
             try clear c7
             try clear c7b0
             try clear c8
             try clear c9
             try clear c10
             try clear c12
             try clear c13
             try clear c13b0
             try clear c14
             try clear c14b0
             try clear c15
             try clear c15b0
             try clear c15b1
             try clear c15b2
             try clear c16
             try clear c16b0
             try clear c17
             try clear c18
             try clear c18b0
             try clear p19
             try clear q19
             try clear hx19
             try clear c21
             try clear c22
             try clear c22b0
             try clear c22b1
             try clear c22b2
             try clear p1
             try clear p19
             try clear p2
             try clear p6
             try clear q1
             try clear q19
             obtain ⟨x11_5, x12_5, rfl, rfl, HA, HK5, HB⟩ := hrel
             cases gk with
             | zero => exact absurd HA.out (by simp [tillerlaw01_FixSpelled.l2])
             | succ k5 =>
              have H := HA.out
              clear HA
              simp only [tillerlaw01_FixSpelled.l2] at H
              by_cases c24 : x12_5 < a2
              ·rw [if_pos c24] at H
               have c24b0 : decide (x12_5 < a2) = true := decide_eq_true c24
               clear c24
               (first | rw [c24b0] | (simp only [i64_w, i32_w]; rw [c24b0]) | skip)
               by_cases c25 : x12_5 < 20
               ·rw [if_pos c25] at H
                have c25b0 : decide (x12_5 < 20) = true := decide_eq_true c25
                clear c25
                by_cases c26 : x11_5.size + 1 ≤ 9223372036854775807
                ·rw [if_pos c26] at H
                 have c26b0 := eq_true c26
                 have c26b1 : decide (x11_5.size + 1 ≤ 9223372036854775807) = true := decide_eq_true c26
                 try have c26b2 : (9223372036854775807 < x11_5.size + 1) = False := eq_false (Nat.not_lt.2 c26)
                 have H' := Aside0.mk H
                 clear H
                 go_wp2
                 go_roundg k5
                 case measure => have := HJ4.out; have := HJ11.out; have := HK3.out; have := HJ19.out; have := HK5.out; omega
                 case rel => exact ⟨(x11_5 ++ (⟨#[48]⟩ : ByteArray)), (wrap64 (x12_5 + 1)), (by first | rfl | (simp; done) | (simp [*]; done)), (by first | rfl | (simp; done) | (simp [*]; done)), H', ⟨by have := HJ4.out; have := HJ11.out; have := HK3.out; have := HJ19.out; have := HK5.out; omega⟩, ⟨by repeat (first | (with_reducible first | exact HB.out | apply bwA | apply bwN | apply bwD) | exact HB.out)⟩⟩
                ·rw [if_neg c26] at H
                 exact absurd H (by simp)
               ·rw [if_neg c25] at H
                have c25b0 : decide (x12_5 < 20) = false := decide_eq_false c25
                clear c25
                have H' := Aside0.mk H
                clear H
                go_wp2
                go_meet
                case rel => exact ⟨_, (x11_5), (by first | rfl | (simp; done) | (simp [*]; done)), H', ⟨by have := HJ4.out; have := HJ11.out; have := HK3.out; have := HJ19.out; have := HK5.out; first | omega | exact Nat.le_refl _⟩, ⟨by repeat (first | (with_reducible first | exact HB.out | apply bwA | apply bwN | apply bwD) | exact HB.out)⟩⟩
              ·rw [if_neg c24] at H
               have c24b0 : decide (x12_5 < a2) = false := decide_eq_false c24
               clear c24
               (first | rw [c24b0] | (simp only [i64_w, i32_w]; rw [c24b0]) | skip)
               have H' := Aside0.mk H
               clear H
               go_wp2
               go_meet
               case rel => exact ⟨_, (x11_5), (by first | rfl | (simp; done) | (simp [*]; done)), H', ⟨by have := HJ4.out; have := HJ11.out; have := HK3.out; have := HJ19.out; have := HK5.out; first | omega | exact Nat.le_refl _⟩, ⟨by repeat (first | (with_reducible first | exact HB.out | apply bwA | apply bwN | apply bwD) | exact HB.out)⟩⟩
           case rest =>
            clear HC23
            try clear c1
            try clear p1
            try clear q1
            try clear hx1
            try clear c2
            try clear p2
            try clear p6
            try clear c7
            try clear c7b0
            try clear c8
            try clear c9
            try clear c10
            try clear c12
            try clear c13
            try clear c13b0
            try clear c14
            try clear c14b0
            try clear c15
            try clear c15b0
            try clear c15b1
            try clear c15b2
            try clear c16
            try clear c16b0
            try clear c17
            try clear c18
            try clear c18b0
            try clear p19
            try clear q19
            try clear hx19
            try clear c21
            try clear c22
            try clear c22b0
            try clear c22b1
            try clear c22b2
            try clear c24
            try clear c24b0
            try clear c25
            try clear c25b0
            try clear c26
            try clear c26b0
            try clear c26b1
            try clear c26b2
            try clear p1
            try clear p19
            try clear p2
            try clear p6
            try clear q1
            try clear q19
            obtain ⟨kq, x11_22, rfl, HA, HJ22, HB⟩ := hcut
            cases kq with
            | zero => exact absurd HA.out (by simp [tillerlaw01_FixSpelled.j6])
            | succ kj22 =>
             have H := HA.out
             clear HA
             simp only [tillerlaw01_FixSpelled.j6] at H
             replace H := Option.bind_eq_some_iff.mp H
             obtain ⟨⟨t120, t121⟩, A270, H⟩ := H
             replace H : ((fix_Parse.f x11_22).bind fun bt122 => (if 1 + x7_19.size ≤ 9223372036854775807 then ((fix_Parse.f ((⟨#[45]⟩ : ByteArray) ++ x7_19)).bind fun bt124 => (if t121 = 0 then (if t120 = a0 then (if bt124.2 = 0 then (tillerlaw01_FixSpelled.j7 kj22 a0 x11_22 bt122.1 bt122.2 (bt124.1 != (wrap32 (-a0)))) else (tillerlaw01_FixSpelled.j7 kj22 a0 x11_22 bt122.1 bt122.2 true)) else (tillerlaw01_FixSpelled.j7 kj22 a0 x11_22 bt122.1 bt122.2 true)) else (tillerlaw01_FixSpelled.j7 kj22 a0 x11_22 bt122.1 bt122.2 true))) else (none))) = some r := H
             have A27 := Aside0.mk A270
             clear A270
             replace H := Option.bind_eq_some_iff.mp H
             obtain ⟨⟨t122, t123⟩, A280, H⟩ := H
             replace H : (if 1 + x7_19.size ≤ 9223372036854775807 then ((fix_Parse.f ((⟨#[45]⟩ : ByteArray) ++ x7_19)).bind fun bt124 => (if t121 = 0 then (if t120 = a0 then (if bt124.2 = 0 then (tillerlaw01_FixSpelled.j7 kj22 a0 x11_22 t122 t123 (bt124.1 != (wrap32 (-a0)))) else (tillerlaw01_FixSpelled.j7 kj22 a0 x11_22 t122 t123 true)) else (tillerlaw01_FixSpelled.j7 kj22 a0 x11_22 t122 t123 true)) else (tillerlaw01_FixSpelled.j7 kj22 a0 x11_22 t122 t123 true))) else (none)) = some r := H
             have A28 := Aside0.mk A280
             clear A280
             by_cases c29 : 1 + x7_19.size ≤ 9223372036854775807
             ·rw [if_pos c29] at H
              have c29b0 := eq_true c29
              have c29b1 : decide (1 + x7_19.size ≤ 9223372036854775807) = true := decide_eq_true c29
              try have c29b2 : (9223372036854775807 < 1 + x7_19.size) = False := eq_false (Nat.not_lt.2 c29)
              replace H := Option.bind_eq_some_iff.mp H
              obtain ⟨⟨t124, t125⟩, A300, H⟩ := H
              replace H : (if t121 = 0 then (if t120 = a0 then (if t125 = 0 then (tillerlaw01_FixSpelled.j7 kj22 a0 x11_22 t122 t123 (t124 != (wrap32 (-a0)))) else (tillerlaw01_FixSpelled.j7 kj22 a0 x11_22 t122 t123 true)) else (tillerlaw01_FixSpelled.j7 kj22 a0 x11_22 t122 t123 true)) else (tillerlaw01_FixSpelled.j7 kj22 a0 x11_22 t122 t123 true)) = some r := H
              have A30 := Aside0.mk A300
              clear A300
              have HC31 := Aside0.mk H
              clear H
              go_upto_region 23 with (first | ((with_reducible refine gate_callee (f := 25) rfl ?_); refine goesL_ (some 77) rfl rfl Try.func25 (by kernel_rfl) rfl #[.string x7_19] rfl (by (try simp only [List.map_toArray, List.map_cons, List.map_nil]); first | done | rfl | (simp only [List.length_drop, List.length_take]; rfl)) ?_; (with_reducible refine (fix_Parse.calls x7_19 t120 t121 _ A27.out).mono ?_); rintro e w32 ⟨rfl, hb⟩; refine ⟨_, rfl, ?_⟩; have n0_ := Aside0.mk (below_step (by repeat (first | (with_reducible first | exact HB.out | apply bwA | apply bwN | apply bwD) | exact HB.out)) hb); clear HB; have HB := n0_; clear n0_; (try clear hb); (try clear hb2); (try clear hk); (try clear hi)) | ((with_reducible refine gate_callee (f := 25) rfl ?_); refine goesL_ (some 82) rfl rfl Try.func25 (by kernel_rfl) rfl #[.string x11_22] rfl (by (try simp only [List.map_toArray, List.map_cons, List.map_nil]); first | done | rfl | (simp only [List.length_drop, List.length_take]; rfl)) ?_; (with_reducible refine (fix_Parse.calls x11_22 t122 t123 _ A28.out).mono ?_); rintro e w33 ⟨rfl, hb⟩; refine ⟨_, rfl, ?_⟩; have n0_ := Aside0.mk (below_step (by repeat (first | (with_reducible first | exact HB.out | apply bwA | apply bwN | apply bwD) | exact HB.out)) hb); clear HB; have HB := n0_; clear n0_; (try clear hb); (try clear hb2); (try clear hk); (try clear hi)) | ((with_reducible refine gate_callee (f := 25) rfl ?_); refine goesL_ (some 88) rfl rfl Try.func25 (by kernel_rfl) rfl #[.string ((⟨#[45]⟩ : ByteArray) ++ x7_19)] rfl (by (try simp only [List.map_toArray, List.map_cons, List.map_nil]); first | done | rfl | (simp only [List.length_drop, List.length_take]; rfl)) ?_; (with_reducible refine (fix_Parse.calls ((⟨#[45]⟩ : ByteArray) ++ x7_19) t124 t125 _ A30.out).mono ?_); rintro e w34 ⟨rfl, hb⟩; refine ⟨_, rfl, ?_⟩; have n0_ := Aside0.mk (below_step (by repeat (first | (with_reducible first | exact HB.out | apply bwA | apply bwN | apply bwD) | exact HB.out)) hb); clear HB; have HB := n0_; clear n0_; (try clear hb); (try clear hb2); (try clear hk); (try clear hi)))
              (try simp only [Act.put, List.setIfInBounds_toArray, List.set_cons_zero, List.set_cons_succ])
              go_cut [107] (fun v107 wc => ∃ (kq : Nat) (x107_30 : Bool), v107 = .bool x107_30 ∧ Aside0 (tillerlaw01_FixSpelled.j7 kq a0 x11_22 t122 t123 x107_30 = some r) ∧ Aside0 (kq ≤ kj22) ∧ Aside0 (Below w.heap.size w wc))
              case first =>
               have H := HC31.out
               clear HC31
               by_cases c35 : t121 = 0
               ·rw [if_pos c35] at H
                have c35b0 : (t121 == 0) = true := beq_iff_eq.mpr c35
                have c35b1 : (t121 != 0) = false := bne_eq_false_iff_eq.mpr c35
                clear c35
                (first | rw [c35b0] | (simp only [i64_w, i32_w]; rw [c35b0]) | skip)
                by_cases c36 : t120 = a0
                ·rw [if_pos c36] at H
                 have c36b0 : (t120 == a0) = true := beq_iff_eq.mpr c36
                 have c36b1 : (t120 != a0) = false := bne_eq_false_iff_eq.mpr c36
                 clear c36
                 by_cases c37 : t125 = 0
                 ·rw [if_pos c37] at H
                  have c37b0 : (t125 == 0) = true := beq_iff_eq.mpr c37
                  have c37b1 : (t125 != 0) = false := bne_eq_false_iff_eq.mpr c37
                  clear c37
                  have H' := Aside0.mk H
                  clear H
                  go_wp2
                  go_meet
                  case rel => exact ⟨_, ((t124 != (wrap32 (-a0)))), (by first | rfl | (simp; done) | (simp [*]; done)), H', ⟨by have := HJ4.out; have := HJ11.out; have := HK3.out; have := HJ19.out; have := HJ22.out; first | omega | exact Nat.le_refl _⟩, ⟨by repeat (first | (with_reducible first | exact HB.out | apply bwA | apply bwN | apply bwD) | exact HB.out)⟩⟩
                 ·rw [if_neg c37] at H
                  have c37b0 : (t125 == 0) = false := beq_eq_false_iff_ne.mpr c37
                  have c37b1 : (t125 != 0) = true := bne_iff_ne.mpr c37
                  have H' := Aside0.mk H
                  clear H
                  go_wp2
                  go_meet
                  case rel => exact ⟨_, (true), (by first | rfl | (simp; done) | (simp [*]; done)), H', ⟨by have := HJ4.out; have := HJ11.out; have := HK3.out; have := HJ19.out; have := HJ22.out; first | omega | exact Nat.le_refl _⟩, ⟨by repeat (first | (with_reducible first | exact HB.out | apply bwA | apply bwN | apply bwD) | exact HB.out)⟩⟩
                ·rw [if_neg c36] at H
                 have c36b0 : (t120 == a0) = false := beq_eq_false_iff_ne.mpr c36
                 have c36b1 : (t120 != a0) = true := bne_iff_ne.mpr c36
                 have H' := Aside0.mk H
                 clear H
                 go_wp2
                 go_meet
                 case rel => exact ⟨_, (true), (by first | rfl | (simp; done) | (simp [*]; done)), H', ⟨by have := HJ4.out; have := HJ11.out; have := HK3.out; have := HJ19.out; have := HJ22.out; first | omega | exact Nat.le_refl _⟩, ⟨by repeat (first | (with_reducible first | exact HB.out | apply bwA | apply bwN | apply bwD) | exact HB.out)⟩⟩
               ·rw [if_neg c35] at H
                have c35b0 : (t121 == 0) = false := beq_eq_false_iff_ne.mpr c35
                have c35b1 : (t121 != 0) = true := bne_iff_ne.mpr c35
                (first | rw [c35b0] | (simp only [i64_w, i32_w]; rw [c35b0]) | skip)
                have H' := Aside0.mk H
                clear H
                go_wp2
                go_meet
                case rel => exact ⟨_, (true), (by first | rfl | (simp; done) | (simp [*]; done)), H', ⟨by have := HJ4.out; have := HJ11.out; have := HK3.out; have := HJ19.out; have := HJ22.out; first | omega | exact Nat.le_refl _⟩, ⟨by repeat (first | (with_reducible first | exact HB.out | apply bwA | apply bwN | apply bwD) | exact HB.out)⟩⟩
              case rest =>
               clear HC31
               try clear c1
               try clear p1
               try clear q1
               try clear hx1
               try clear c2
               try clear p2
               try clear c3
               try clear p3
               try clear p6
               try clear c7
               try clear c7b0
               try clear c8
               try clear c9
               try clear c10
               try clear c12
               try clear c13
               try clear c13b0
               try clear c14
               try clear c14b0
               try clear c15
               try clear c15b0
               try clear c15b1
               try clear c15b2
               try clear c16
               try clear c16b0
               try clear c17
               try clear c18
               try clear c18b0
               try clear p19
               try clear q19
               try clear hx19
               try clear c21
               try clear c22
               try clear c22b0
               try clear c22b1
               try clear c22b2
               try clear c24
               try clear c24b0
               try clear c25
               try clear c25b0
               try clear c26
               try clear c26b0
               try clear c26b1
               try clear c26b2
               try clear c29
               try clear c29b0
               try clear c29b1
               try clear c29b2
               try clear p32
               try clear c35
               try clear c35b0
               try clear c35b1
               try clear c36
               try clear c36b0
               try clear c36b1
               try clear c37
               try clear c37b0
               try clear c37b1
               try clear p1
               try clear p19
               try clear p2
               try clear p6
               try clear q1
               try clear q19
               obtain ⟨kq, x107_30, rfl, HA, HJ30, HB⟩ := hcut
               cases kq with
               | zero => exact absurd HA.out (by simp [tillerlaw01_FixSpelled.j7])
               | succ kj30 =>
                have H := HA.out
                clear HA
                simp only [tillerlaw01_FixSpelled.j7] at H
                by_cases c38 : x107_30 = true
                ·subst c38
                 have H1 : (some false) = some r := by rw [if_pos rfl] at H; exact H
                 clear H
                 have H := H1
                 clear H1
                 exact absurd (Option.some.inj H) (by rw [hr_.out]; decide)
                ·replace c38 := Bool.eq_false_iff.mpr c38
                 subst c38
                 have H1 : (tillerlaw01_FixSpelled.l3 kj30 a0 x11_22 t122 t123 0 0) = some r := by rw [if_neg (show ¬ (false = true) by decide)] at H; exact H
                 clear H
                 have H := H1
                 clear H1
                 have H' := Aside0.mk H
                 clear H
                 go_wp2
                 go_loopg [19, 20] kj30 (fun kq v19 v20 w' => ∃ (x19_7 : Int) (x20_7 : Int), v19 = .int .i64 x19_7 ∧ v20 = .int .i64 x20_7 ∧ Aside0 (tillerlaw01_FixSpelled.l3 kq a0 x11_22 t122 t123 x19_7 x20_7 = some r) ∧ Aside0 (kq ≤ kj30) ∧ Aside0 (Below w.heap.size w w'))
                 case atStart => exact ⟨(0), (0), (by first | rfl | (simp; done) | (simp [*]; done)), (by first | rfl | (simp; done) | (simp [*]; done)), H', ⟨Nat.le_refl _⟩, ⟨by repeat (first | (with_reducible first | exact HB.out | apply bwA | apply bwN | apply bwD) | exact HB.out)⟩⟩
                 case round =>
                  clear H'
                  try clear c1
                  try clear p1
                  try clear q1
                  try clear hx1
                  try clear c2
                  try clear p2
                  try clear c3
                  try clear p3
                  try clear p6
                  try clear c7
                  try clear c7b0
                  try clear c8
                  try clear c9
                  try clear c10
                  try clear c12
                  try clear c13
                  try clear c13b0
                  try clear c14
                  try clear c14b0
                  try clear c15
                  try clear c15b0
                  try clear c15b1
                  try clear c15b2
                  try clear c16
                  try clear c16b0
                  try clear c17
                  try clear c18
                  try clear c18b0
                  try clear p19
                  try clear q19
                  try clear hx19
                  try clear c21
                  try clear c22
                  try clear c22b0
                  try clear c22b1
                  try clear c22b2
                  try clear c24
                  try clear c24b0
                  try clear c25
                  try clear c25b0
                  try clear c26
                  try clear c26b0
                  try clear c26b1
                  try clear c26b2
                  try clear c29
                  try clear c29b0
                  try clear c29b1
                  try clear c29b2
                  try clear p32
                  try clear c35
                  try clear c35b0
                  try clear c35b1
                  try clear c36
                  try clear c36b0
                  try clear c36b1
                  try clear c37
                  try clear c37b0
                  try clear c37b1
                  try clear c38
                  try clear p1
                  try clear p19
                  try clear p2
                  try clear p3
                  try clear p32
                  try clear p6
                  try clear q1
                  try clear q19
                  obtain ⟨x19_7, x20_7, rfl, rfl, HA, HK7, HB⟩ := hrel
                  cases gk with
                  | zero => exact absurd HA.out (by simp [tillerlaw01_FixSpelled.l3])
                  | succ k7 =>
                   have H := HA.out
                   clear HA
                   simp only [tillerlaw01_FixSpelled.l3] at H
                   by_cases c39 : x20_7 < (x11_22.size : Int)
                   ·rw [if_pos c39] at H
                    have c39b0 : decide (x20_7 < (x11_22.size : Int)) = true := decide_eq_true c39
                    clear c39
                    by_cases c40 : 0 ≤ x20_7
                    ·rw [if_pos c40] at H
                     have c40b0 : decide (0 ≤ x20_7) = true := decide_eq_true c40
                     clear c40
                     by_cases c42 : (bt x11_22 x20_7) = 46
                     ·rw [if_pos c42] at H
                      have c42b0 : ((bt x11_22 x20_7) == 46) = true := beq_iff_eq.mpr c42
                      have c42b1 : ((bt x11_22 x20_7) != 46) = false := bne_eq_false_iff_eq.mpr c42
                      clear c42
                      have H' := Aside0.mk H
                      clear H
                      have p41 : 0 ≤ (x20_7 : Int) := ofd_
                      have q41 : x20_7 < (x11_22.size : Int) := ofd_
                      have hx41 := bt_at x11_22 x20_7
                      replace p41 := eq_true p41
                      replace q41 := eq_true q41
                      go_wp2
                      go_roundg k7
                      case measure => have := HJ4.out; have := HJ11.out; have := HK3.out; have := HJ19.out; have := HJ22.out; have := HJ30.out; have := HK7.out; omega
                      case rel => exact ⟨(wrap64 ((wrap64 ((x11_22.size : Int) - x20_7)) - 1)), (wrap64 (x20_7 + 1)), (by first | rfl | (simp; done) | (simp [*]; done)), (by first | rfl | (simp; done) | (simp [*]; done)), H', ⟨by have := HJ4.out; have := HJ11.out; have := HK3.out; have := HJ19.out; have := HJ22.out; have := HJ30.out; have := HK7.out; omega⟩, ⟨by repeat (first | (with_reducible first | exact HB.out | apply bwA | apply bwN | apply bwD) | exact HB.out)⟩⟩
                     ·rw [if_neg c42] at H
                      have c42b0 : ((bt x11_22 x20_7) == 46) = false := beq_eq_false_iff_ne.mpr c42
                      have c42b1 : ((bt x11_22 x20_7) != 46) = true := bne_iff_ne.mpr c42
                      have H' := Aside0.mk H
                      clear H
                      have p41 : 0 ≤ (x20_7 : Int) := ofd_
                      have q41 : x20_7 < (x11_22.size : Int) := ofd_
                      have hx41 := bt_at x11_22 x20_7
                      replace p41 := eq_true p41
                      replace q41 := eq_true q41
                      go_wp2
                      go_roundg k7
                      case measure => have := HJ4.out; have := HJ11.out; have := HK3.out; have := HJ19.out; have := HJ22.out; have := HJ30.out; have := HK7.out; omega
                      case rel => exact ⟨(x19_7), (wrap64 (x20_7 + 1)), (by first | rfl | (simp; done) | (simp [*]; done)), (by first | rfl | (simp; done) | (simp [*]; done)), H', ⟨by have := HJ4.out; have := HJ11.out; have := HK3.out; have := HJ19.out; have := HJ22.out; have := HJ30.out; have := HK7.out; omega⟩, ⟨by repeat (first | (with_reducible first | exact HB.out | apply bwA | apply bwN | apply bwD) | exact HB.out)⟩⟩
                    ·rw [if_neg c40] at H
                     exact absurd H (by simp)
                   ·rw [if_neg c39] at H
                    have c39b0 : decide (x20_7 < (x11_22.size : Int)) = false := decide_eq_false c39
                    clear c39
                    replace H := Option.bind_eq_some_iff.mp H
                    obtain ⟨t126, A430, H⟩ := H
                    replace H : (if t126 = true then (if x19_7 > 16 then (if t123 = 3 then (some true) else (if x19_7 ≤ 16 then (if t123 = 0 then (some (t122 == a0)) else (some false)) else (some false))) else (if x19_7 ≤ 16 then (if t123 = 0 then (some (t122 == a0)) else (some false)) else (some false))) else (some false)) = some r := H
                    have A43 := Aside0.mk A430
                    clear A430
                    by_cases c44 : t126 = true
                    ·subst c44
                     have H1 : (if x19_7 > 16 then (if t123 = 3 then (some true) else (if x19_7 ≤ 16 then (if t123 = 0 then (some (t122 == a0)) else (some false)) else (some false))) else (if x19_7 ≤ 16 then (if t123 = 0 then (some (t122 == a0)) else (some false)) else (some false))) = some r := by rw [if_pos rfl] at H; exact H
                     clear H
                     have H := H1
                     clear H1
                     by_cases c45 : x19_7 > 16
                     ·rw [if_pos c45] at H
                      have c45b0 : decide (16 < x19_7) = true := decide_eq_true c45
                      clear c45
                      by_cases c46 : t123 = 3
                      ·rw [if_pos c46] at H
                       have c46b0 : (t123 == 3) = true := beq_iff_eq.mpr c46
                       have c46b1 : (t123 != 3) = false := bne_eq_false_iff_eq.mpr c46
                       clear c46
                       obtain rfl := Option.some.inj H
                       go_wp2_with (first | ((with_reducible refine gate_callee (f := 12) rfl ?_); refine goesL_ (some 123) rfl rfl Try.func12 (by kernel_rfl) rfl #[] rfl (by (try simp only [List.map_toArray, List.map_cons, List.map_nil]); first | done | rfl | (simp only [List.length_drop, List.length_take]; rfl)) ?_; (with_reducible refine (tillerlaw01_awake.calls k7  true _ A43.out).mono ?_); rintro e w47 ⟨rfl, hb⟩; refine ⟨_, rfl, ?_⟩; have n0_ := Aside0.mk (below_step (by repeat (first | (with_reducible first | exact HB.out | apply bwA | apply bwN | apply bwD) | exact HB.out)) hb); clear HB; have HB := n0_; clear n0_; (try clear hb); (try clear hb2); (try clear hk); (try clear hi)))
                       go_ret
                       exact ⟨by first | rfl | (simp [errW_none, errW_some] <;> rfl) | (simp [*, errW_none, errW_some] <;> rfl), by repeat (first | (with_reducible first | exact HB.out | apply bwA | apply bwN | apply bwD) | exact HB.out)⟩
                      ·rw [if_neg c46] at H
                       have c46b0 : (t123 == 3) = false := beq_eq_false_iff_ne.mpr c46
                       have c46b1 : (t123 != 3) = true := bne_iff_ne.mpr c46
                       by_cases c48 : x19_7 ≤ 16
                       ·rw [if_pos c48] at H
                        exfalso; clear H; have z0_ := of_decide_eq_true c45b0; omega
                       ·rw [if_neg c48] at H
                        exact absurd (Option.some.inj H) (by rw [hr_.out]; decide)
                     ·rw [if_neg c45] at H
                      have c45b0 : decide (16 < x19_7) = false := decide_eq_false c45
                      clear c45
                      by_cases c49 : x19_7 ≤ 16
                      ·rw [if_pos c49] at H
                       have c49b0 : decide (x19_7 ≤ 16) = true := decide_eq_true c49
                       clear c49
                       by_cases c50 : t123 = 0
                       ·rw [if_pos c50] at H
                        have c50b0 : (t123 == 0) = true := beq_iff_eq.mpr c50
                        have c50b1 : (t123 != 0) = false := bne_eq_false_iff_eq.mpr c50
                        clear c50
                        obtain rfl := Option.some.inj H
                        go_wp2_with (first | ((with_reducible refine gate_callee (f := 12) rfl ?_); refine goesL_ (some 123) rfl rfl Try.func12 (by kernel_rfl) rfl #[] rfl (by (try simp only [List.map_toArray, List.map_cons, List.map_nil]); first | done | rfl | (simp only [List.length_drop, List.length_take]; rfl)) ?_; (with_reducible refine (tillerlaw01_awake.calls k7  true _ A43.out).mono ?_); rintro e w51 ⟨rfl, hb⟩; refine ⟨_, rfl, ?_⟩; have n0_ := Aside0.mk (below_step (by repeat (first | (with_reducible first | exact HB.out | apply bwA | apply bwN | apply bwD) | exact HB.out)) hb); clear HB; have HB := n0_; clear n0_; (try clear hb); (try clear hb2); (try clear hk); (try clear hi)))
                        go_ret
                        exact ⟨by first | rfl | (simp [errW_none, errW_some] <;> rfl) | (simp [*, errW_none, errW_some] <;> rfl), by repeat (first | (with_reducible first | exact HB.out | apply bwA | apply bwN | apply bwD) | exact HB.out)⟩
                       ·rw [if_neg c50] at H
                        exact absurd (Option.some.inj H) (by rw [hr_.out]; decide)
                      ·rw [if_neg c49] at H
                       exact absurd (Option.some.inj H) (by rw [hr_.out]; decide)
                    ·replace c44 := Bool.eq_false_iff.mpr c44
                     subst c44
                     have H1 : (some false) = some r := by rw [if_neg (show ¬ (false = true) by decide)] at H; exact H
                     clear H
                     have H := H1
                     clear H1
                     exact absurd (Option.some.inj H) (by rw [hr_.out]; decide)
             ·rw [if_neg c29] at H
              exact absurd H (by simp)

end Go.Proofs.Ytnhapgenebcjmaa.GT
