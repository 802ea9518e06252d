-- written by this session's program gprint.py
import Derived.Test.YtefimleoffaggaaGQx0
import Derived.Test.YtefimleoffaggaaGQx1
import Derived.Test.YtefimleoffaggaaGQx13
import Derived.Test.YtefimleoffaggaaGQx14
import Derived.Test.YtefimleoffaggaaGQx15
import Derived.Test.YtefimleoffaggaaGQx16
import Derived.Test.YtefimleoffaggaaGQx17
import Derived.Test.YtefimleoffaggaaGQx18
import Derived.Test.YtefimleoffaggaaWGuard
import Derived.Test.YtefimleoffaggaaWLast
import Derived.Test.YtefimleoffaggaaWMore
import Derived.Test.YtefimleoffaggaaWTab
import Derived.Test.YtefimleoffaggaaWWords
namespace Go.Proofs.Ytefimleoffaggaa.GQ
open Go.RowKit Go.Proofs.YtefimleoffaggaaW.PrintWords Go.Proofs.YtefimleoffaggaaW.PrintLast Go.Proofs.YtefimleoffaggaaW.PrintMore
attribute [local go_sem] max2_int min2_int max_two min_two max_three min_three max_four min_four   -- for this text's walks alone
set_option linter.unusedVariables false
set_option linter.unusedSimpArgs false
abbrev T92141_0 : Array Bool := #[false, false, false, false, false, false, false, false]
abbrev T92141_1 : Array Bool := #[false, true, false, false, false, false, false, false]
abbrev T92141_2 : Array Bool := #[false, true, false, false, true, false, false, false]
abbrev T92141_3 : Array Bool := #[true, true, false, false, true, false, false, false]
abbrev T92141_4 : Array Bool := #[true, true, false, true, true, false, false, false]
abbrev T92141_5 : Array Bool := #[true, true, true, true, true, false, false, false]
abbrev T92141_6 : Array Bool := #[true, true, true, true, true, true, false, false]
abbrev T92141_7 : Array Bool := #[true, true, true, true, true, true, true, false]
abbrev T92141_8 : Array Bool := #[true, true, true, true, true, true, true, true]

/-! ### tillerlaw04_MatRows: function 8 -/
mutual
def tillerlaw04_MatRows.j0 : Nat → Int → List Int → Int → List Int → Int → List Int → Int → Bool → Int → Int → List Int → Int → Int → List Int → Option (Bool)
 | 0, _, _, _, _, _, _, _, _, _, _, _, _, _, _ => none
 | k + 1, x1, x2, x7, x8, x9, x12, x13, x50, x407000, x407001, x407002, x427000, x427001, x427002 => if x50 = true then (some false) else (if x7 = 0 then (if x1 < 0 then (tillerlaw04_MatRows.j1 k x1 x2 x8 x9 x12 x13 true x407000 x407001 x407002 x427000 x427001 x427002) else (tillerlaw04_MatRows.j1 k x1 x2 x8 x9 x12 x13 (decide (x1 ≥ x407000)) x407000 x407001 x407002 x427000 x427001 x427002)) else (if x9 = x7 then (if x13 = x7 then (if (x8.length : Int) = 0 then (if (x12.length : Int) = 0 then ((tillerref04_Same.f k x427000 x427001 x427002 0 0 ([] : List Int)).bind fun t433 => (some t433)) else (some false)) else (some false)) else (some false)) else (some false)))
def tillerlaw04_MatRows.j1 : Nat → Int → List Int → List Int → Int → List Int → Int → Bool → Int → Int → List Int → Int → Int → List Int → Option (Bool)
 | 0, _, _, _, _, _, _, _, _, _, _, _, _, _ => none
 | k + 1, x1, x2, x8, x9, x12, x13, x83, x407000, x407001, x407002, x427000, x427001, x427002 => if x83 = true then (if x9 = 8 then (if (x8.length : Int) = 0 then (tillerlaw04_MatRows.j2 k x2 x12 x13 x407000 x407001 x407002 x427000 x427001 x427002) else (some false)) else (some false)) else (if x9 = 0 then ((tillerref04_Row.f k x407000 x407001 x407002 x1).bind fun t434 => ((tillerref03_Same.f k x8 t434).bind fun t437 => (if t437 = true then (tillerlaw04_MatRows.j2 k x2 x12 x13 x407000 x407001 x407002 x427000 x427001 x427002) else (some false)))) else (some false))
def tillerlaw04_MatRows.j2 : Nat → List Int → List Int → Int → Int → Int → List Int → Int → Int → List Int → Option (Bool)
 | 0, _, _, _, _, _, _, _, _, _ => none
 | k + 1, x2, x12, x13, x407000, x407001, x407002, x427000, x427001, x427002 => if (x2.length : Int) = x407001 then (if x13 = 0 then ((tillerref04_Apply.f k x407000 x407001 x407002 x2).bind fun t438 => ((tillerref03_Same.f k x12 t438).bind fun t441 => (if t441 = true then (tillerlaw04_MatRows.j3 k x407000 x407001 x407002 x427000 x427001 x427002) else (some false)))) else (some false)) else (if x13 = 6 then (if (x12.length : Int) = 0 then (tillerlaw04_MatRows.j3 k x407000 x407001 x407002 x427000 x427001 x427002) else (some false)) else (some false))
def tillerlaw04_MatRows.j3 : Nat → Int → Int → List Int → Int → Int → List Int → Option (Bool)
 | 0, _, _, _, _, _, _ => none
 | k + 1, x407000, x407001, x407002, x427000, x427001, x427002 => (tillerref04_Check.f k x427000 x427001 x427002).bind fun t442 => (if t442 = 0 then (if x427000 = x407001 then (tillerlaw04_MatRows.j4 k (x427001 != x407000) x407000 x407001 x407002 x427000 x427001 x427002) else (tillerlaw04_MatRows.j4 k true x407000 x407001 x407002 x427000 x427001 x427002)) else (tillerlaw04_MatRows.j4 k true x407000 x407001 x407002 x427000 x427001 x427002))
def tillerlaw04_MatRows.j4 : Nat → Bool → Int → Int → List Int → Int → Int → List Int → Option (Bool)
 | 0, _, _, _, _, _, _, _ => none
 | k + 1, x139, x407000, x407001, x407002, x427000, x427001, x427002 => if x139 = true then (some false) else (tillerlaw04_MatRows.l0 k 0 x407000 x407001 x407002 x427000 x427001 x427002)
def tillerlaw04_MatRows.l0 : Nat → Int → Int → Int → List Int → Int → Int → List Int → Option (Bool)
 | 0, _, _, _, _, _, _, _ => none
 | k + 1, x14, x407000, x407001, x407002, x427000, x427001, x427002 => if x14 < x407001 then ((tillerref04_Row.f k x427000 x427001 x427002 x14).bind fun t443 => ((tillerref04_Column.f k x407000 x407001 x407002 x14).bind fun t446 => ((tillerref03_Same.f k t443 t446).bind fun t449 => (if t449 = true then (tillerlaw04_MatRows.l0 k (wrap64 (x14 + 1)) x407000 x407001 x407002 x427000 x427001 x427002) else (some false))))) else (some true)
end
def tillerlaw04_MatRows.f (k : Nat) (a0_0 : Int) (a0_1 : Int) (l0_2 : List Int) (a1 : Int) (l2 : List Int) : Option (Bool) := (tillerlaw04_Few.f a0_0 a0_1 l0_2).bind fun bt407 => ((tillerlaw03_Few.f l2 200).bind fun t412 => ((tillerref04_Check.f k bt407.1 bt407.2.1 bt407.2.2).bind fun t415 => ((mat_Row.f k bt407.1 bt407.2.1 bt407.2.2 a1).bind fun bt416 => ((mat_Turn.f k bt407.1 bt407.2.1 bt407.2.2).bind fun bt420 => ((mat_Apply.f k bt407.1 bt407.2.1 bt407.2.2 t412).bind fun bt427 => ((tillerlaw04_awake.f k).bind fun t431 => (if t431 = true then ((mat_Check.f k bt407.1 bt407.2.1 bt407.2.2).bind fun t432 => (if t432 = t415 then (tillerlaw04_MatRows.j0 k a1 t412 t415 bt416.1 bt416.2 bt427.1 bt427.2 (bt420.2.2.2 != t415) bt407.1 bt407.2.1 bt407.2.2 bt420.1 bt420.2.1 bt420.2.2.1) else (tillerlaw04_MatRows.j0 k a1 t412 t415 bt416.1 bt416.2 bt427.1 bt427.2 true bt407.1 bt407.2.1 bt407.2.2 bt420.1 bt420.2.1 bt420.2.2.1))) else (tillerlaw04_MatRows.j0 k a1 t412 t415 bt416.1 bt416.2 bt427.1 bt427.2 true bt407.1 bt407.2.1 bt407.2.2 bt420.1 bt420.2.1 bt420.2.2.1))))))))
theorem tillerlaw04_MatRows.mono_l : ∀ k, (∀ y0 y1 y2 y3 y4 y5 y6 y7 y8 y9 y10 y11 y12 y13, LeO (tillerlaw04_MatRows.j0 k y0 y1 y2 y3 y4 y5 y6 y7 y8 y9 y10 y11 y12 y13) (tillerlaw04_MatRows.j0 (k + 1) y0 y1 y2 y3 y4 y5 y6 y7 y8 y9 y10 y11 y12 y13)) ∧ (∀ y0 y1 y2 y3 y4 y5 y6 y7 y8 y9 y10 y11 y12, LeO (tillerlaw04_MatRows.j1 k y0 y1 y2 y3 y4 y5 y6 y7 y8 y9 y10 y11 y12) (tillerlaw04_MatRows.j1 (k + 1) y0 y1 y2 y3 y4 y5 y6 y7 y8 y9 y10 y11 y12)) ∧ (∀ y0 y1 y2 y3 y4 y5 y6 y7 y8, LeO (tillerlaw04_MatRows.j2 k y0 y1 y2 y3 y4 y5 y6 y7 y8) (tillerlaw04_MatRows.j2 (k + 1) y0 y1 y2 y3 y4 y5 y6 y7 y8)) ∧ (∀ y0 y1 y2 y3 y4 y5, LeO (tillerlaw04_MatRows.j3 k y0 y1 y2 y3 y4 y5) (tillerlaw04_MatRows.j3 (k + 1) y0 y1 y2 y3 y4 y5)) ∧ (∀ y0 y1 y2 y3 y4 y5 y6, LeO (tillerlaw04_MatRows.j4 k y0 y1 y2 y3 y4 y5 y6) (tillerlaw04_MatRows.j4 (k + 1) y0 y1 y2 y3 y4 y5 y6)) ∧ (∀ y0 y1 y2 y3 y4 y5 y6, LeO (tillerlaw04_MatRows.l0 k y0 y1 y2 y3 y4 y5 y6) (tillerlaw04_MatRows.l0 (k + 1) y0 y1 y2 y3 y4 y5 y6))
 | 0 => ⟨fun _ _ _ _ _ _ _ _ _ _ _ _ _ _ r h => by simp [tillerlaw04_MatRows.j0] at h, fun _ _ _ _ _ _ _ _ _ _ _ _ _ r h => by simp [tillerlaw04_MatRows.j1] at h, fun _ _ _ _ _ _ _ _ _ r h => by simp [tillerlaw04_MatRows.j2] at h, fun _ _ _ _ _ _ r h => by simp [tillerlaw04_MatRows.j3] at h, fun _ _ _ _ _ _ _ r h => by simp [tillerlaw04_MatRows.j4] at h, fun _ _ _ _ _ _ _ r h => by simp [tillerlaw04_MatRows.l0] at h⟩
 | k + 1 => by
  obtain ⟨ih0, ih1, ih2, ih3, ih4, ih5⟩ := tillerlaw04_MatRows.mono_l k
  refine ⟨?_, ?_, ?_, ?_, ?_, ?_⟩
  ·intro y0 y1 y2 y3 y4 y5 y6 y7 y8 y9 y10 y11 y12 y13
   unfold tillerlaw04_MatRows.j0
   repeat' first
   | (with_reducible exact ih0 _ _ _ _ _ _ _ _ _ _ _ _ _ _)
   | (with_reducible exact ih1 _ _ _ _ _ _ _ _ _ _ _ _ _)
   | (with_reducible exact ih2 _ _ _ _ _ _ _ _ _)
   | (with_reducible exact ih3 _ _ _ _ _ _)
   | (with_reducible exact ih4 _ _ _ _ _ _ _)
   | (with_reducible exact ih5 _ _ _ _ _ _ _)
   | (with_reducible exact mat_Apply.mono _ _ _ _ _)
   | (with_reducible exact mat_Check.mono _ _ _ _)
   | (with_reducible exact mat_Row.mono _ _ _ _ _)
   | (with_reducible exact mat_Turn.mono _ _ _ _)
   | (with_reducible exact tillerlaw04_awake.mono _)
   | (with_reducible exact tillerref03_Same.mono _ _ _)
   | (with_reducible exact tillerref04_Apply.mono _ _ _ _ _)
   | (with_reducible exact tillerref04_Check.mono _ _ _ _)
   | (with_reducible exact tillerref04_Column.mono _ _ _ _ _)
   | (with_reducible exact tillerref04_Row.mono _ _ _ _ _)
   | (with_reducible exact tillerref04_Same.mono _ _ _ _ _ _ _)
   | (with_reducible exact LeO.refl _)
   | (with_reducible exact LeO.none _)
   | (with_reducible refine LeO.ite ?_ ?_)
   | (with_reducible refine LeO.bind ?_ (fun _ => ?_))
   | exact ih0 _ _ _ _ _ _ _ _ _ _ _ _ _ _
   | exact ih1 _ _ _ _ _ _ _ _ _ _ _ _ _
   | exact ih2 _ _ _ _ _ _ _ _ _
   | exact ih3 _ _ _ _ _ _
   | exact ih4 _ _ _ _ _ _ _
   | exact ih5 _ _ _ _ _ _ _
   | exact mat_Apply.mono _ _ _ _ _
   | exact mat_Check.mono _ _ _ _
   | exact mat_Row.mono _ _ _ _ _
   | exact mat_Turn.mono _ _ _ _
   | exact tillerlaw04_awake.mono _
   | exact tillerref03_Same.mono _ _ _
   | exact tillerref04_Apply.mono _ _ _ _ _
   | exact tillerref04_Check.mono _ _ _ _
   | exact tillerref04_Column.mono _ _ _ _ _
   | exact tillerref04_Row.mono _ _ _ _ _
   | exact tillerref04_Same.mono _ _ _ _ _ _ _
   | exact LeO.none _
   | refine LeO.ite ?_ ?_
   | refine LeO.bind ?_ (fun _ => ?_)
  ·intro y0 y1 y2 y3 y4 y5 y6 y7 y8 y9 y10 y11 y12
   unfold tillerlaw04_MatRows.j1
   repeat' first
   | (with_reducible exact ih0 _ _ _ _ _ _ _ _ _ _ _ _ _ _)
   | (with_reducible exact ih1 _ _ _ _ _ _ _ _ _ _ _ _ _)
   | (with_reducible exact ih2 _ _ _ _ _ _ _ _ _)
   | (with_reducible exact ih3 _ _ _ _ _ _)
   | (with_reducible exact ih4 _ _ _ _ _ _ _)
   | (with_reducible exact ih5 _ _ _ _ _ _ _)
   | (with_reducible exact mat_Apply.mono _ _ _ _ _)
   | (with_reducible exact mat_Check.mono _ _ _ _)
   | (with_reducible exact mat_Row.mono _ _ _ _ _)
   | (with_reducible exact mat_Turn.mono _ _ _ _)
   | (with_reducible exact tillerlaw04_awake.mono _)
   | (with_reducible exact tillerref03_Same.mono _ _ _)
   | (with_reducible exact tillerref04_Apply.mono _ _ _ _ _)
   | (with_reducible exact tillerref04_Check.mono _ _ _ _)
   | (with_reducible exact tillerref04_Column.mono _ _ _ _ _)
   | (with_reducible exact tillerref04_Row.mono _ _ _ _ _)
   | (with_reducible exact tillerref04_Same.mono _ _ _ _ _ _ _)
   | (with_reducible exact LeO.refl _)
   | (with_reducible exact LeO.none _)
   | (with_reducible refine LeO.ite ?_ ?_)
   | (with_reducible refine LeO.bind ?_ (fun _ => ?_))
   | exact ih0 _ _ _ _ _ _ _ _ _ _ _ _ _ _
   | exact ih1 _ _ _ _ _ _ _ _ _ _ _ _ _
   | exact ih2 _ _ _ _ _ _ _ _ _
   | exact ih3 _ _ _ _ _ _
   | exact ih4 _ _ _ _ _ _ _
   | exact ih5 _ _ _ _ _ _ _
   | exact mat_Apply.mono _ _ _ _ _
   | exact mat_Check.mono _ _ _ _
   | exact mat_Row.mono _ _ _ _ _
   | exact mat_Turn.mono _ _ _ _
   | exact tillerlaw04_awake.mono _
   | exact tillerref03_Same.mono _ _ _
   | exact tillerref04_Apply.mono _ _ _ _ _
   | exact tillerref04_Check.mono _ _ _ _
   | exact tillerref04_Column.mono _ _ _ _ _
   | exact tillerref04_Row.mono _ _ _ _ _
   | exact tillerref04_Same.mono _ _ _ _ _ _ _
   | exact LeO.none _
   | refine LeO.ite ?_ ?_
   | refine LeO.bind ?_ (fun _ => ?_)
  ·intro y0 y1 y2 y3 y4 y5 y6 y7 y8
   unfold tillerlaw04_MatRows.j2
   repeat' first
   | (with_reducible exact ih0 _ _ _ _ _ _ _ _ _ _ _ _ _ _)
   | (with_reducible exact ih1 _ _ _ _ _ _ _ _ _ _ _ _ _)
   | (with_reducible exact ih2 _ _ _ _ _ _ _ _ _)
   | (with_reducible exact ih3 _ _ _ _ _ _)
   | (with_reducible exact ih4 _ _ _ _ _ _ _)
   | (with_reducible exact ih5 _ _ _ _ _ _ _)
   | (with_reducible exact mat_Apply.mono _ _ _ _ _)
   | (with_reducible exact mat_Check.mono _ _ _ _)
   | (with_reducible exact mat_Row.mono _ _ _ _ _)
   | (with_reducible exact mat_Turn.mono _ _ _ _)
   | (with_reducible exact tillerlaw04_awake.mono _)
   | (with_reducible exact tillerref03_Same.mono _ _ _)
   | (with_reducible exact tillerref04_Apply.mono _ _ _ _ _)
   | (with_reducible exact tillerref04_Check.mono _ _ _ _)
   | (with_reducible exact tillerref04_Column.mono _ _ _ _ _)
   | (with_reducible exact tillerref04_Row.mono _ _ _ _ _)
   | (with_reducible exact tillerref04_Same.mono _ _ _ _ _ _ _)
   | (with_reducible exact LeO.refl _)
   | (with_reducible exact LeO.none _)
   | (with_reducible refine LeO.ite ?_ ?_)
   | (with_reducible refine LeO.bind ?_ (fun _ => ?_))
   | exact ih0 _ _ _ _ _ _ _ _ _ _ _ _ _ _
   | exact ih1 _ _ _ _ _ _ _ _ _ _ _ _ _
   | exact ih2 _ _ _ _ _ _ _ _ _
   | exact ih3 _ _ _ _ _ _
   | exact ih4 _ _ _ _ _ _ _
   | exact ih5 _ _ _ _ _ _ _
   | exact mat_Apply.mono _ _ _ _ _
   | exact mat_Check.mono _ _ _ _
   | exact mat_Row.mono _ _ _ _ _
   | exact mat_Turn.mono _ _ _ _
   | exact tillerlaw04_awake.mono _
   | exact tillerref03_Same.mono _ _ _
   | exact tillerref04_Apply.mono _ _ _ _ _
   | exact tillerref04_Check.mono _ _ _ _
   | exact tillerref04_Column.mono _ _ _ _ _
   | exact tillerref04_Row.mono _ _ _ _ _
   | exact tillerref04_Same.mono _ _ _ _ _ _ _
   | exact LeO.none _
   | refine LeO.ite ?_ ?_
   | refine LeO.bind ?_ (fun _ => ?_)
  ·intro y0 y1 y2 y3 y4 y5
   unfold tillerlaw04_MatRows.j3
   repeat' first
   | (with_reducible exact ih0 _ _ _ _ _ _ _ _ _ _ _ _ _ _)
   | (with_reducible exact ih1 _ _ _ _ _ _ _ _ _ _ _ _ _)
   | (with_reducible exact ih2 _ _ _ _ _ _ _ _ _)
   | (with_reducible exact ih3 _ _ _ _ _ _)
   | (with_reducible exact ih4 _ _ _ _ _ _ _)
   | (with_reducible exact ih5 _ _ _ _ _ _ _)
   | (with_reducible exact mat_Apply.mono _ _ _ _ _)
   | (with_reducible exact mat_Check.mono _ _ _ _)
   | (with_reducible exact mat_Row.mono _ _ _ _ _)
   | (with_reducible exact mat_Turn.mono _ _ _ _)
   | (with_reducible exact tillerlaw04_awake.mono _)
   | (with_reducible exact tillerref03_Same.mono _ _ _)
   | (with_reducible exact tillerref04_Apply.mono _ _ _ _ _)
   | (with_reducible exact tillerref04_Check.mono _ _ _ _)
   | (with_reducible exact tillerref04_Column.mono _ _ _ _ _)
   | (with_reducible exact tillerref04_Row.mono _ _ _ _ _)
   | (with_reducible exact tillerref04_Same.mono _ _ _ _ _ _ _)
   | (with_reducible exact LeO.refl _)
   | (with_reducible exact LeO.none _)
   | (with_reducible refine LeO.ite ?_ ?_)
   | (with_reducible refine LeO.bind ?_ (fun _ => ?_))
   | exact ih0 _ _ _ _ _ _ _ _ _ _ _ _ _ _
   | exact ih1 _ _ _ _ _ _ _ _ _ _ _ _ _
   | exact ih2 _ _ _ _ _ _ _ _ _
   | exact ih3 _ _ _ _ _ _
   | exact ih4 _ _ _ _ _ _ _
   | exact ih5 _ _ _ _ _ _ _
   | exact mat_Apply.mono _ _ _ _ _
   | exact mat_Check.mono _ _ _ _
   | exact mat_Row.mono _ _ _ _ _
   | exact mat_Turn.mono _ _ _ _
   | exact tillerlaw04_awake.mono _
   | exact tillerref03_Same.mono _ _ _
   | exact tillerref04_Apply.mono _ _ _ _ _
   | exact tillerref04_Check.mono _ _ _ _
   | exact tillerref04_Column.mono _ _ _ _ _
   | exact tillerref04_Row.mono _ _ _ _ _
   | exact tillerref04_Same.mono _ _ _ _ _ _ _
   | exact LeO.none _
   | refine LeO.ite ?_ ?_
   | refine LeO.bind ?_ (fun _ => ?_)
  ·intro y0 y1 y2 y3 y4 y5 y6
   unfold tillerlaw04_MatRows.j4
   repeat' first
   | (with_reducible exact ih0 _ _ _ _ _ _ _ _ _ _ _ _ _ _)
   | (with_reducible exact ih1 _ _ _ _ _ _ _ _ _ _ _ _ _)
   | (with_reducible exact ih2 _ _ _ _ _ _ _ _ _)
   | (with_reducible exact ih3 _ _ _ _ _ _)
   | (with_reducible exact ih4 _ _ _ _ _ _ _)
   | (with_reducible exact ih5 _ _ _ _ _ _ _)
   | (with_reducible exact mat_Apply.mono _ _ _ _ _)
   | (with_reducible exact mat_Check.mono _ _ _ _)
   | (with_reducible exact mat_Row.mono _ _ _ _ _)
   | (with_reducible exact mat_Turn.mono _ _ _ _)
   | (with_reducible exact tillerlaw04_awake.mono _)
   | (with_reducible exact tillerref03_Same.mono _ _ _)
   | (with_reducible exact tillerref04_Apply.mono _ _ _ _ _)
   | (with_reducible exact tillerref04_Check.mono _ _ _ _)
   | (with_reducible exact tillerref04_Column.mono _ _ _ _ _)
   | (with_reducible exact tillerref04_Row.mono _ _ _ _ _)
   | (with_reducible exact tillerref04_Same.mono _ _ _ _ _ _ _)
   | (with_reducible exact LeO.refl _)
   | (with_reducible exact LeO.none _)
   | (with_reducible refine LeO.ite ?_ ?_)
   | (with_reducible refine LeO.bind ?_ (fun _ => ?_))
   | exact ih0 _ _ _ _ _ _ _ _ _ _ _ _ _ _
   | exact ih1 _ _ _ _ _ _ _ _ _ _ _ _ _
   | exact ih2 _ _ _ _ _ _ _ _ _
   | exact ih3 _ _ _ _ _ _
   | exact ih4 _ _ _ _ _ _ _
   | exact ih5 _ _ _ _ _ _ _
   | exact mat_Apply.mono _ _ _ _ _
   | exact mat_Check.mono _ _ _ _
   | exact mat_Row.mono _ _ _ _ _
   | exact mat_Turn.mono _ _ _ _
   | exact tillerlaw04_awake.mono _
   | exact tillerref03_Same.mono _ _ _
   | exact tillerref04_Apply.mono _ _ _ _ _
   | exact tillerref04_Check.mono _ _ _ _
   | exact tillerref04_Column.mono _ _ _ _ _
   | exact tillerref04_Row.mono _ _ _ _ _
   | exact tillerref04_Same.mono _ _ _ _ _ _ _
   | exact LeO.none _
   | refine LeO.ite ?_ ?_
   | refine LeO.bind ?_ (fun _ => ?_)
  ·intro y0 y1 y2 y3 y4 y5 y6
   unfold tillerlaw04_MatRows.l0
   repeat' first
   | (with_reducible exact ih0 _ _ _ _ _ _ _ _ _ _ _ _ _ _)
   | (with_reducible exact ih1 _ _ _ _ _ _ _ _ _ _ _ _ _)
   | (with_reducible exact ih2 _ _ _ _ _ _ _ _ _)
   | (with_reducible exact ih3 _ _ _ _ _ _)
   | (with_reducible exact ih4 _ _ _ _ _ _ _)
   | (with_reducible exact ih5 _ _ _ _ _ _ _)
   | (with_reducible exact mat_Apply.mono _ _ _ _ _)
   | (with_reducible exact mat_Check.mono _ _ _ _)
   | (with_reducible exact mat_Row.mono _ _ _ _ _)
   | (with_reducible exact mat_Turn.mono _ _ _ _)
   | (with_reducible exact tillerlaw04_awake.mono _)
   | (with_reducible exact tillerref03_Same.mono _ _ _)
   | (with_reducible exact tillerref04_Apply.mono _ _ _ _ _)
   | (with_reducible exact tillerref04_Check.mono _ _ _ _)
   | (with_reducible exact tillerref04_Column.mono _ _ _ _ _)
   | (with_reducible exact tillerref04_Row.mono _ _ _ _ _)
   | (with_reducible exact tillerref04_Same.mono _ _ _ _ _ _ _)
   | (with_reducible exact LeO.refl _)
   | (with_reducible exact LeO.none _)
   | (with_reducible refine LeO.ite ?_ ?_)
   | (with_reducible refine LeO.bind ?_ (fun _ => ?_))
   | exact ih0 _ _ _ _ _ _ _ _ _ _ _ _ _ _
   | exact ih1 _ _ _ _ _ _ _ _ _ _ _ _ _
   | exact ih2 _ _ _ _ _ _ _ _ _
   | exact ih3 _ _ _ _ _ _
   | exact ih4 _ _ _ _ _ _ _
   | exact ih5 _ _ _ _ _ _ _
   | exact mat_Apply.mono _ _ _ _ _
   | exact mat_Check.mono _ _ _ _
   | exact mat_Row.mono _ _ _ _ _
   | exact mat_Turn.mono _ _ _ _
   | exact tillerlaw04_awake.mono _
   | exact tillerref03_Same.mono _ _ _
   | exact tillerref04_Apply.mono _ _ _ _ _
   | exact tillerref04_Check.mono _ _ _ _
   | exact tillerref04_Column.mono _ _ _ _ _
   | exact tillerref04_Row.mono _ _ _ _ _
   | exact tillerref04_Same.mono _ _ _ _ _ _ _
   | exact LeO.none _
   | refine LeO.ite ?_ ?_
   | refine LeO.bind ?_ (fun _ => ?_)
theorem tillerlaw04_MatRows.mono : ∀ a0 a1 a2 a3 a4 k, LeO (tillerlaw04_MatRows.f k a0 a1 a2 a3 a4) (tillerlaw04_MatRows.f (k + 1) a0 a1 a2 a3 a4) := by
 intro a0 a1 a2 a3 a4 k
 obtain ⟨ih0, ih1, ih2, ih3, ih4, ih5⟩ := tillerlaw04_MatRows.mono_l k
 unfold tillerlaw04_MatRows.f
 repeat' first
   | (with_reducible exact ih0 _ _ _ _ _ _ _ _ _ _ _ _ _ _)
   | (with_reducible exact ih1 _ _ _ _ _ _ _ _ _ _ _ _ _)
   | (with_reducible exact ih2 _ _ _ _ _ _ _ _ _)
   | (with_reducible exact ih3 _ _ _ _ _ _)
   | (with_reducible exact ih4 _ _ _ _ _ _ _)
   | (with_reducible exact ih5 _ _ _ _ _ _ _)
   | (with_reducible exact mat_Apply.mono _ _ _ _ _)
   | (with_reducible exact mat_Check.mono _ _ _ _)
   | (with_reducible exact mat_Row.mono _ _ _ _ _)
   | (with_reducible exact mat_Turn.mono _ _ _ _)
   | (with_reducible exact tillerlaw04_awake.mono _)
   | (with_reducible exact tillerref03_Same.mono _ _ _)
   | (with_reducible exact tillerref04_Apply.mono _ _ _ _ _)
   | (with_reducible exact tillerref04_Check.mono _ _ _ _)
   | (with_reducible exact tillerref04_Column.mono _ _ _ _ _)
   | (with_reducible exact tillerref04_Row.mono _ _ _ _ _)
   | (with_reducible exact tillerref04_Same.mono _ _ _ _ _ _ _)
   | (with_reducible exact LeO.refl _)
   | (with_reducible exact LeO.none _)
   | (with_reducible refine LeO.ite ?_ ?_)
   | (with_reducible refine LeO.bind ?_ (fun _ => ?_))
   | exact ih0 _ _ _ _ _ _ _ _ _ _ _ _ _ _
   | exact ih1 _ _ _ _ _ _ _ _ _ _ _ _ _
   | exact ih2 _ _ _ _ _ _ _ _ _
   | exact ih3 _ _ _ _ _ _
   | exact ih4 _ _ _ _ _ _ _
   | exact ih5 _ _ _ _ _ _ _
   | exact mat_Apply.mono _ _ _ _ _
   | exact mat_Check.mono _ _ _ _
   | exact mat_Row.mono _ _ _ _ _
   | exact mat_Turn.mono _ _ _ _
   | exact tillerlaw04_awake.mono _
   | exact tillerref03_Same.mono _ _ _
   | exact tillerref04_Apply.mono _ _ _ _ _
   | exact tillerref04_Check.mono _ _ _ _
   | exact tillerref04_Column.mono _ _ _ _ _
   | exact tillerref04_Row.mono _ _ _ _ _
   | exact tillerref04_Same.mono _ _ _ _ _ _ _
   | exact LeO.none _
   | refine LeO.ite ?_ ?_
   | refine LeO.bind ?_ (fun _ => ?_)
def tillerlaw04_MatRows.T25 : Bool × List (List Nat × List Nat) := (true, [([], []), ([], []), ([0, 1], [0, 1]), ([], []), ([], []), ([3, 4, 2], [3, 4]), ([2, 5, 5], [2, 5]), ([6], [6])])
def tillerlaw04_MatRows.B25 : List Nat := [0, 0, 3, 0, 0, 31, 63, 127]
theorem tillerlaw04_MatRows.tab25 : rtab .any (opsOf Try.f8 25) = tillerlaw04_MatRows.T25 := by kernel_rfl
theorem tillerlaw04_MatRows.bits25 : waitsOk tillerlaw04_MatRows.T25.2 tillerlaw04_MatRows.B25 = true := by kernel_rfl
set_option maxHeartbeats 8000000 in
set_option maxRecDepth 100000 in
theorem tillerlaw04_MatRows.calls (k : Nat) (a0_0 : Int) (a0_1 : Int) (A0_2 : Option Addr) (c0_2 : Nat) (l0_2 : List Int) (a1 : Int) (A2 : Option Addr) (c2 : Nat) (l2 : List Int) (r : Bool) (w : World) (hr0_2 : Kd.C (Kd.int .i32) w A0_2 l0_2.length l0_2) (hc0_2 : l0_2.length ≤ c0_2) (hr2 : Kd.C (Kd.int .i32) w A2 l2.length l2) (hc2 : l2.length ≤ c2) (hr_ : Aside0 (r = true)) (h : tillerlaw04_MatRows.f k a0_0 a0_1 l0_2 a1 l2 = some r) :
  Calls Try.prog 8 #[.agg #[.int .i64 a0_0, .int .i64 a0_1, .slice A0_2 l0_2.length c0_2], .int .i64 a1, .slice A2 l2.length c2] w fun e w' => e = .returned (.bool r) ∧ Below w.heap.size w w' := by
 have hu46 := Try.underlying46
 have HR0_2 := Aside0.mk hr0_2
 have HC0_2 := Aside0.mk hc0_2
 clear hr0_2 hc0_2
 have HR2 := Aside0.mk hr2
 have HC2 := Aside0.mk hc2
 clear hr2 hc2
 have HB := Aside0.mk (Below.refl w.heap.size w)
 have H : ((tillerlaw04_Few.f a0_0 a0_1 l0_2).bind fun bt407 => ((tillerlaw03_Few.f l2 200).bind fun t412 => ((tillerref04_Check.f k bt407.1 bt407.2.1 bt407.2.2).bind fun t415 => ((mat_Row.f k bt407.1 bt407.2.1 bt407.2.2 a1).bind fun bt416 => ((mat_Turn.f k bt407.1 bt407.2.1 bt407.2.2).bind fun bt420 => ((mat_Apply.f k bt407.1 bt407.2.1 bt407.2.2 t412).bind fun bt427 => ((tillerlaw04_awake.f k).bind fun t431 => (if t431 = true then ((mat_Check.f k bt407.1 bt407.2.1 bt407.2.2).bind fun t432 => (if t432 = t415 then (tillerlaw04_MatRows.j0 k a1 t412 t415 bt416.1 bt416.2 bt427.1 bt427.2 (bt420.2.2.2 != t415) bt407.1 bt407.2.1 bt407.2.2 bt420.1 bt420.2.1 bt420.2.2.1) else (tillerlaw04_MatRows.j0 k a1 t412 t415 bt416.1 bt416.2 bt427.1 bt427.2 true bt407.1 bt407.2.1 bt407.2.2 bt420.1 bt420.2.1 bt420.2.2.1))) else (tillerlaw04_MatRows.j0 k a1 t412 t415 bt416.1 bt416.2 bt427.1 bt427.2 true bt407.1 bt407.2.1 bt407.2.2 bt420.1 bt420.2.1 bt420.2.2.1))))))))) = some r := h
 clear h
 replace H := Option.bind_eq_some_iff.mp H
 obtain ⟨⟨t407, t408, t409⟩, A40, H⟩ := H
 replace H : ((tillerlaw03_Few.f l2 200).bind fun t412 => ((tillerref04_Check.f k t407 t408 t409).bind fun t415 => ((mat_Row.f k t407 t408 t409 a1).bind fun bt416 => ((mat_Turn.f k t407 t408 t409).bind fun bt420 => ((mat_Apply.f k t407 t408 t409 t412).bind fun bt427 => ((tillerlaw04_awake.f k).bind fun t431 => (if t431 = true then ((mat_Check.f k t407 t408 t409).bind fun t432 => (if t432 = t415 then (tillerlaw04_MatRows.j0 k a1 t412 t415 bt416.1 bt416.2 bt427.1 bt427.2 (bt420.2.2.2 != t415) t407 t408 t409 bt420.1 bt420.2.1 bt420.2.2.1) else (tillerlaw04_MatRows.j0 k a1 t412 t415 bt416.1 bt416.2 bt427.1 bt427.2 true t407 t408 t409 bt420.1 bt420.2.1 bt420.2.2.1))) else (tillerlaw04_MatRows.j0 k a1 t412 t415 bt416.1 bt416.2 bt427.1 bt427.2 true t407 t408 t409 bt420.1 bt420.2.1 bt420.2.2.1)))))))) = some r := H
 have A4 := Aside0.mk A40
 clear A40
 replace H := Option.bind_eq_some_iff.mp H
 obtain ⟨t412, A50, H⟩ := H
 replace H : ((tillerref04_Check.f k t407 t408 t409).bind fun t415 => ((mat_Row.f k t407 t408 t409 a1).bind fun bt416 => ((mat_Turn.f k t407 t408 t409).bind fun bt420 => ((mat_Apply.f k t407 t408 t409 t412).bind fun bt427 => ((tillerlaw04_awake.f k).bind fun t431 => (if t431 = true then ((mat_Check.f k t407 t408 t409).bind fun t432 => (if t432 = t415 then (tillerlaw04_MatRows.j0 k a1 t412 t415 bt416.1 bt416.2 bt427.1 bt427.2 (bt420.2.2.2 != t415) t407 t408 t409 bt420.1 bt420.2.1 bt420.2.2.1) else (tillerlaw04_MatRows.j0 k a1 t412 t415 bt416.1 bt416.2 bt427.1 bt427.2 true t407 t408 t409 bt420.1 bt420.2.1 bt420.2.2.1))) else (tillerlaw04_MatRows.j0 k a1 t412 t415 bt416.1 bt416.2 bt427.1 bt427.2 true t407 t408 t409 bt420.1 bt420.2.1 bt420.2.2.1))))))) = some r := H
 have A5 := Aside0.mk A50
 clear A50
 replace H := Option.bind_eq_some_iff.mp H
 obtain ⟨t415, A60, H⟩ := H
 replace H : ((mat_Row.f k t407 t408 t409 a1).bind fun bt416 => ((mat_Turn.f k t407 t408 t409).bind fun bt420 => ((mat_Apply.f k t407 t408 t409 t412).bind fun bt427 => ((tillerlaw04_awake.f k).bind fun t431 => (if t431 = true then ((mat_Check.f k t407 t408 t409).bind fun t432 => (if t432 = t415 then (tillerlaw04_MatRows.j0 k a1 t412 t415 bt416.1 bt416.2 bt427.1 bt427.2 (bt420.2.2.2 != t415) t407 t408 t409 bt420.1 bt420.2.1 bt420.2.2.1) else (tillerlaw04_MatRows.j0 k a1 t412 t415 bt416.1 bt416.2 bt427.1 bt427.2 true t407 t408 t409 bt420.1 bt420.2.1 bt420.2.2.1))) else (tillerlaw04_MatRows.j0 k a1 t412 t415 bt416.1 bt416.2 bt427.1 bt427.2 true t407 t408 t409 bt420.1 bt420.2.1 bt420.2.2.1)))))) = some r := H
 have A6 := Aside0.mk A60
 clear A60
 replace H := Option.bind_eq_some_iff.mp H
 obtain ⟨⟨t416, t419⟩, A70, H⟩ := H
 replace H : ((mat_Turn.f k t407 t408 t409).bind fun bt420 => ((mat_Apply.f k t407 t408 t409 t412).bind fun bt427 => ((tillerlaw04_awake.f k).bind fun t431 => (if t431 = true then ((mat_Check.f k t407 t408 t409).bind fun t432 => (if t432 = t415 then (tillerlaw04_MatRows.j0 k a1 t412 t415 t416 t419 bt427.1 bt427.2 (bt420.2.2.2 != t415) t407 t408 t409 bt420.1 bt420.2.1 bt420.2.2.1) else (tillerlaw04_MatRows.j0 k a1 t412 t415 t416 t419 bt427.1 bt427.2 true t407 t408 t409 bt420.1 bt420.2.1 bt420.2.2.1))) else (tillerlaw04_MatRows.j0 k a1 t412 t415 t416 t419 bt427.1 bt427.2 true t407 t408 t409 bt420.1 bt420.2.1 bt420.2.2.1))))) = some r := H
 have A7 := Aside0.mk A70
 clear A70
 replace H := Option.bind_eq_some_iff.mp H
 obtain ⟨⟨t420, t421, t422, t425⟩, A80, H⟩ := H
 replace H : ((mat_Apply.f k t407 t408 t409 t412).bind fun bt427 => ((tillerlaw04_awake.f k).bind fun t431 => (if t431 = true then ((mat_Check.f k t407 t408 t409).bind fun t432 => (if t432 = t415 then (tillerlaw04_MatRows.j0 k a1 t412 t415 t416 t419 bt427.1 bt427.2 (t425 != t415) t407 t408 t409 t420 t421 t422) else (tillerlaw04_MatRows.j0 k a1 t412 t415 t416 t419 bt427.1 bt427.2 true t407 t408 t409 t420 t421 t422))) else (tillerlaw04_MatRows.j0 k a1 t412 t415 t416 t419 bt427.1 bt427.2 true t407 t408 t409 t420 t421 t422)))) = some r := H
 have A8 := Aside0.mk A80
 clear A80
 replace H := Option.bind_eq_some_iff.mp H
 obtain ⟨⟨t427, t430⟩, A90, H⟩ := H
 replace H : ((tillerlaw04_awake.f k).bind fun t431 => (if t431 = true then ((mat_Check.f k t407 t408 t409).bind fun t432 => (if t432 = t415 then (tillerlaw04_MatRows.j0 k a1 t412 t415 t416 t419 t427 t430 (t425 != t415) t407 t408 t409 t420 t421 t422) else (tillerlaw04_MatRows.j0 k a1 t412 t415 t416 t419 t427 t430 true t407 t408 t409 t420 t421 t422))) else (tillerlaw04_MatRows.j0 k a1 t412 t415 t416 t419 t427 t430 true t407 t408 t409 t420 t421 t422))) = some r := H
 have A9 := Aside0.mk A90
 clear A90
 have HC10 := Aside0.mk H
 clear H
 go_enter Try.func8, Try.ntmps8
 go_upto_region 6 with (first | ((with_reducible refine gate_dst (N := 3) rfl ?_); (try (refine gate_guard (by rfl) ?_; dsimp only)); refine box_event ?hg (N := 3) ?hd (cs := #[.int .i64 a0_0, .int .i64 a0_1, .slice A0_2 l0_2.length c0_2]) (t := 46) ?hr ?_; (case hd => rfl); (case hg => rfl); (case hr => first | (go_simp; done) | (go_simp; rfl)); intro gb406 hg w11 hbox hb; have n0_ := Aside0.mk (below_step (by repeat (first | (with_reducible first | exact HB.out | apply below_alloc | apply pw_below_drewN | apply below_drew1) | exact HB.out)) hb); have n1_ := Aside0.mk (hbox); have n2_ := Aside0.mk ((by rw [hg]; exact (below_size (by repeat (first | (with_reducible first | exact HB.out | apply below_alloc | apply pw_below_drewN | apply below_drew1) | exact HB.out))) : w.heap.size ≤ gb406)); have n3_ := Aside0.mk ((by rw [hg]; exact (below_size (by repeat (first | (with_reducible first | exact HB.out | apply below_alloc | apply pw_below_drewN | apply below_drew1) | exact HB.out))) : w.heap.size ≤ gb406)); clear HB; have HB := n0_; have BK406 := n1_; have GW406 := n2_; have GE406 := n3_; clear n0_ n1_ n2_ n3_; clear hb hbox hg; have hcz12_0 : w11.cell? ⟨gb406, 0, none⟩ = some (.int .i64 a0_0) := (blk_cell BK406.out 0).trans rfl; have hcz12_1 : w11.cell? ⟨gb406, 1, none⟩ = some (.int .i64 a0_1) := (blk_cell BK406.out 1).trans rfl; have hcz12_2 : w11.cell? ⟨gb406, 2, none⟩ = some (.slice A0_2 l0_2.length c0_2) := (blk_cell BK406.out 2).trans rfl; have hfz12_0 := blk_frozen BK406.out 0; have hfz12_1 := blk_frozen BK406.out 1; have hfz12_2 := blk_frozen BK406.out 2) | ((with_reducible refine gate_callee (f := 29) rfl ?_); refine goesL_ (some 16) rfl rfl Try.func29 (by kernel_rfl) rfl #[.agg #[.int .i64 a0_0, .int .i64 a0_1, .slice A0_2 l0_2.length c0_2]] rfl (by (try simp only [List.map_toArray, List.map_cons, List.map_nil]); first | done | rfl | (simp only [List.length_drop, List.length_take]; rfl)) ?_; (with_reducible refine (tillerlaw04_Few.calls a0_0 a0_1 _ _ l0_2 t407 t408 t409 _ ?side1 ?side2 A4.out).mono ?_); (case side1 => repeat (first | exact (Kd.C_below HR0_2.out HB.out) | (with_reducible refine Kd.C_alloc ?_ _) | (with_reducible refine Kd.C_drewN ?_ _) | (with_reducible refine Kd.C_drew ?_))); (case side2 => exact HC0_2.out); rintro e w13 ⟨v410, rfl, ho0, hb⟩; refine ⟨_, rfl, ?_⟩; have n0_ := Aside0.mk (Kd.R_lower ho0 (below_size (by repeat (first | (with_reducible first | exact HB.out | apply below_alloc | apply pw_below_drewN | apply below_drew1 | refine below_set ?_ GE406.out) | exact HB.out)))); have n1_ := Aside0.mk (blk_below (g := gb406) (o := .cells #[.int .i64 a0_0, .int .i64 a0_1, .slice A0_2 l0_2.length c0_2] 46 (0, 0)) (by (with_reducible repeat (first | refine blk_drewN ?_ _ | refine blk_drew ?_ | refine blk_alloc ?_ _)); exact BK406.out) hb); have n2_ := Aside0.mk (below_step (by repeat (first | (with_reducible first | exact HB.out | apply below_alloc | apply pw_below_drewN | apply below_drew1 | refine below_set ?_ GE406.out) | exact HB.out)) hb); clear BK406; clear HB; have HO411 := n0_; have BK406 := n1_; have HB := n2_; clear n0_ n1_ n2_; (try clear hb); (try clear hb2); (try clear hk); (try clear hi); (try clear ho0)) | ((with_reducible refine gate_callee (f := 13) rfl ?_); refine goesL_ (some 18) rfl rfl Try.func13 (by kernel_rfl) rfl #[.slice A2 l2.length c2, .int .i64 200] rfl (by (try simp only [List.map_toArray, List.map_cons, List.map_nil]); first | done | rfl | (simp only [List.length_drop, List.length_take]; rfl)) ?_; (with_reducible refine (tillerlaw03_Few.calls _ _ l2 200 t412 _ ?side1 ?side2 A5.out).mono ?_); (case side1 => repeat (first | exact (Kd.C_below HR2.out HB.out) | (with_reducible refine Kd.C_alloc ?_ _) | (with_reducible refine Kd.C_drewN ?_ _) | (with_reducible refine Kd.C_drew ?_))); (case side2 => exact HC2.out); rintro e w14 ⟨v413, rfl, ho0, hb⟩; refine ⟨_, rfl, ?_⟩; have n0_ := Aside0.mk (Kd.R_elder' (by (with_reducible repeat (first | apply Kd.R_alloc | apply Kd.R_drewN | apply Kd.R_drew)); exact HO411.out) (Kd.R_base ho0) hb); have n1_ := Aside0.mk (Kd.R_lower (Kd.R_new' ho0 (Kd.R_lt (by (with_reducible repeat (first | apply Kd.R_alloc | apply Kd.R_drewN | apply Kd.R_drew)); exact HO411.out))) (below_size (by repeat (first | (with_reducible first | exact HB.out | apply below_alloc | apply pw_below_drewN | apply below_drew1 | refine below_set ?_ GE406.out) | exact HB.out)))); have n2_ := Aside0.mk (blk_below (g := gb406) (o := .cells #[.int .i64 a0_0, .int .i64 a0_1, .slice A0_2 l0_2.length c0_2] 46 (0, 0)) (by (with_reducible repeat (first | refine blk_drewN ?_ _ | refine blk_drew ?_ | refine blk_alloc ?_ _)); exact BK406.out) hb); have n3_ := Aside0.mk (below_step (by repeat (first | (with_reducible first | exact HB.out | apply below_alloc | apply pw_below_drewN | apply below_drew1 | refine below_set ?_ GE406.out) | exact HB.out)) hb); clear HO411; clear BK406; clear HB; have HO411 := n0_; have HO414 := n1_; have BK406 := n2_; have HB := n3_; clear n0_ n1_ n2_ n3_; (try clear hb); (try clear hb2); (try clear hk); (try clear hi); (try clear ho0); have hcz15_0 : w14.cell? ⟨gb406, 0, none⟩ = some (.int .i64 a0_0) := (blk_cell BK406.out 0).trans rfl; have hcz15_1 : w14.cell? ⟨gb406, 1, none⟩ = some (.int .i64 a0_1) := (blk_cell BK406.out 1).trans rfl; have hcz15_2 : w14.cell? ⟨gb406, 2, none⟩ = some (.slice A0_2 l0_2.length c0_2) := (blk_cell BK406.out 2).trans rfl; have hfz15_0 := blk_frozen BK406.out 0; have hfz15_1 := blk_frozen BK406.out 1; have hfz15_2 := blk_frozen BK406.out 2; obtain ⟨Ao16, co16, eo16⟩ := Kd.R_slice HO411.out; subst eo16) | ((with_reducible refine gate_callee (f := 30) rfl ?_); refine goesL_ (some 20) rfl rfl Try.func30 (by kernel_rfl) rfl #[.agg #[.int .i64 t407, .int .i64 t408, .slice Ao16 t409.length co16]] rfl (by (try simp only [List.map_toArray, List.map_cons, List.map_nil]); first | done | rfl | (simp only [List.length_drop, List.length_take]; rfl)) ?_; (with_reducible refine (tillerref04_Check.calls k t407 t408 _ _ t409 t415 _ ?side1 ?side2 A6.out).mono ?_); (case side1 => refine (Kd.R_reads' (e := 24) (base := w.heap.size) (ok := fun k_ => (True ∧ some k_ ≠ (v413 : Value).ownBlock)) (n := t409.length) (c := co16) ?_).2.2; exact (by (with_reducible repeat (first | apply Kd.R_alloc | apply Kd.R_drewN | apply Kd.R_drew)); exact (Kd.R_mono (Kd.R_far (p := ⟨gb406, 2, none⟩) (Kd.R_far (p := ⟨gb406, 1, none⟩) (Kd.R_far (p := ⟨gb406, 0, none⟩) (Kd.R_types HO411.out BK406.out (by decide)) (fun _ hk => hk.2) (.int .i64 t407)) (fun _ hk => hk.2) (.int .i64 t408)) (fun _ hk => hk.2) (.slice Ao16 t409.length co16)) (fun _ h_ => h_.1)))); (case side2 => exact (Kd.R_reads' HO411.out).2.1); rintro e w17 ⟨rfl, hb⟩; refine ⟨_, rfl, ?_⟩; have n0_ := Aside0.mk (Kd.R_below (by (with_reducible repeat (first | apply Kd.R_alloc | apply Kd.R_drewN | apply Kd.R_drew)); exact (Kd.R_mono (Kd.R_far (p := ⟨gb406, 2, none⟩) (Kd.R_far (p := ⟨gb406, 1, none⟩) (Kd.R_far (p := ⟨gb406, 0, none⟩) (Kd.R_types HO411.out BK406.out (by decide)) (fun _ hk => hk.2) (.int .i64 t407)) (fun _ hk => hk.2) (.int .i64 t408)) (fun _ hk => hk.2) (.slice Ao16 t409.length co16)) (fun _ h_ => h_.1))) hb); have n1_ := Aside0.mk (Kd.R_below (by (with_reducible repeat (first | apply Kd.R_alloc | apply Kd.R_drewN | apply Kd.R_drew)); exact (Kd.R_mono (Kd.R_far (p := ⟨gb406, 2, none⟩) (Kd.R_far (p := ⟨gb406, 1, none⟩) (Kd.R_far (p := ⟨gb406, 0, none⟩) (Kd.R_types HO414.out BK406.out (by decide)) (fun _ hk => hk.2) (.int .i64 t407)) (fun _ hk => hk.2) (.int .i64 t408)) (fun _ hk => hk.2) (.slice Ao16 t409.length co16)) (fun _ h_ => h_.1))) hb); have n2_ := Aside0.mk (blk_below (g := gb406) (o := .cells #[.int .i64 t407, .int .i64 t408, .slice Ao16 t409.length co16] 46 (0, 0)) (by (with_reducible repeat (first | refine blk_drewN ?_ _ | refine blk_drew ?_ | refine blk_alloc ?_ _)); refine blk_put (cs := #[.int .i64 t407, .int .i64 t408, .slice A0_2 l0_2.length c0_2]) ?_ 2 _ rfl; (with_reducible repeat (first | refine blk_drewN ?_ _ | refine blk_drew ?_ | refine blk_alloc ?_ _)); refine blk_put (cs := #[.int .i64 t407, .int .i64 a0_1, .slice A0_2 l0_2.length c0_2]) ?_ 1 _ rfl; (with_reducible repeat (first | refine blk_drewN ?_ _ | refine blk_drew ?_ | refine blk_alloc ?_ _)); refine blk_put (cs := #[.int .i64 a0_0, .int .i64 a0_1, .slice A0_2 l0_2.length c0_2]) ?_ 0 _ rfl; (with_reducible repeat (first | refine blk_drewN ?_ _ | refine blk_drew ?_ | refine blk_alloc ?_ _)); exact BK406.out) hb); have n3_ := Aside0.mk (below_step (by repeat (first | (with_reducible first | exact HB.out | apply below_alloc | apply pw_below_drewN | apply below_drew1 | refine below_set ?_ GE406.out) | exact HB.out)) hb); clear HO411; clear HO414; clear BK406; clear HB; have HO411 := n0_; have HO414 := n1_; have BK406 := n2_; have HB := n3_; clear n0_ n1_ n2_ n3_; (try clear hb); (try clear hb2); (try clear hk); (try clear hi); have hcz18_0 : w17.cell? ⟨gb406, 0, none⟩ = some (.int .i64 t407) := (blk_cell BK406.out 0).trans rfl; have hcz18_1 : w17.cell? ⟨gb406, 1, none⟩ = some (.int .i64 t408) := (blk_cell BK406.out 1).trans rfl; have hcz18_2 : w17.cell? ⟨gb406, 2, none⟩ = some (.slice Ao16 t409.length co16) := (blk_cell BK406.out 2).trans rfl; have hfz18_0 := blk_frozen BK406.out 0; have hfz18_1 := blk_frozen BK406.out 1; have hfz18_2 := blk_frozen BK406.out 2) | ((with_reducible refine gate_callee (f := 31) rfl ?_); refine goesL_ (some 24) rfl rfl Try.func31 (by kernel_rfl) rfl #[.agg #[.int .i64 t407, .int .i64 t408, .slice Ao16 t409.length co16], .int .i64 a1] rfl (by (try simp only [List.map_toArray, List.map_cons, List.map_nil]); first | done | rfl | (simp only [List.length_drop, List.length_take]; rfl)) ?_; (with_reducible refine (mat_Row.calls k t407 t408 _ _ t409 a1 t416 t419 _ ?side1 ?side2 A7.out).mono ?_); (case side1 => repeat (first | exact (Kd.R_reads' HO411.out).2.2 | (with_reducible refine Kd.C_alloc ?_ _) | (with_reducible refine Kd.C_drewN ?_ _) | (with_reducible refine Kd.C_drew ?_))); (case side2 => exact (Kd.R_reads' HO411.out).2.1); rintro e w19 ⟨v417, rfl, ho0, hb⟩; refine ⟨_, rfl, ?_⟩; have n0_ := Aside0.mk (Kd.R_elder' (by (with_reducible repeat (first | apply Kd.R_alloc | apply Kd.R_drewN | apply Kd.R_drew)); exact HO411.out) (Kd.R_base ho0) hb); have n1_ := Aside0.mk (Kd.R_elder' (by (with_reducible repeat (first | apply Kd.R_alloc | apply Kd.R_drewN | apply Kd.R_drew)); exact HO414.out) (Kd.R_base ho0) hb); have n2_ := Aside0.mk (Kd.R_lower (Kd.R_new' (Kd.R_new' ho0 (Kd.R_lt (by (with_reducible repeat (first | apply Kd.R_alloc | apply Kd.R_drewN | apply Kd.R_drew)); exact HO411.out))) (Kd.R_lt (by (with_reducible repeat (first | apply Kd.R_alloc | apply Kd.R_drewN | apply Kd.R_drew)); exact HO414.out))) (below_size (by repeat (first | (with_reducible first | exact HB.out | apply below_alloc | apply pw_below_drewN | apply below_drew1 | refine below_set ?_ GE406.out) | exact HB.out)))); have n3_ := Aside0.mk (blk_below (g := gb406) (o := .cells #[.int .i64 t407, .int .i64 t408, .slice Ao16 t409.length co16] 46 (0, 0)) (by (with_reducible repeat (first | refine blk_drewN ?_ _ | refine blk_drew ?_ | refine blk_alloc ?_ _)); exact BK406.out) hb); have n4_ := Aside0.mk (below_step (by repeat (first | (with_reducible first | exact HB.out | apply below_alloc | apply pw_below_drewN | apply below_drew1 | refine below_set ?_ GE406.out) | exact HB.out)) hb); clear HO411; clear HO414; clear BK406; clear HB; have HO411 := n0_; have HO414 := n1_; have HO418 := n2_; have BK406 := n3_; have HB := n4_; clear n0_ n1_ n2_ n3_ n4_; (try clear hb); (try clear hb2); (try clear hk); (try clear hi); (try clear ho0); have hcz20_0 : w19.cell? ⟨gb406, 0, none⟩ = some (.int .i64 t407) := (blk_cell BK406.out 0).trans rfl; have hcz20_1 : w19.cell? ⟨gb406, 1, none⟩ = some (.int .i64 t408) := (blk_cell BK406.out 1).trans rfl; have hcz20_2 : w19.cell? ⟨gb406, 2, none⟩ = some (.slice Ao16 t409.length co16) := (blk_cell BK406.out 2).trans rfl; have hfz20_0 := blk_frozen BK406.out 0; have hfz20_1 := blk_frozen BK406.out 1; have hfz20_2 := blk_frozen BK406.out 2) | ((with_reducible refine gate_callee (f := 32) rfl ?_); refine goesL_ (some 29) rfl rfl Try.func32 (by kernel_rfl) rfl #[.agg #[.int .i64 t407, .int .i64 t408, .slice Ao16 t409.length co16]] rfl (by (try simp only [List.map_toArray, List.map_cons, List.map_nil]); first | done | rfl | (simp only [List.length_drop, List.length_take]; rfl)) ?_; (with_reducible refine (mat_Turn.calls k t407 t408 _ _ t409 t420 t421 t422 t425 _ ?side1 ?side2 A8.out).mono ?_); (case side1 => repeat (first | exact (Kd.R_reads' HO411.out).2.2 | (with_reducible refine Kd.C_alloc ?_ _) | (with_reducible refine Kd.C_drewN ?_ _) | (with_reducible refine Kd.C_drew ?_))); (case side2 => exact (Kd.R_reads' HO411.out).2.1); rintro e w21 ⟨v423, rfl, ho0, hb⟩; refine ⟨_, rfl, ?_⟩; have n0_ := Aside0.mk (Kd.R_elder' (by (with_reducible repeat (first | apply Kd.R_alloc | apply Kd.R_drewN | apply Kd.R_drew)); exact HO411.out) (Kd.R_base ho0) hb); have n1_ := Aside0.mk (Kd.R_elder' (by (with_reducible repeat (first | apply Kd.R_alloc | apply Kd.R_drewN | apply Kd.R_drew)); exact HO414.out) (Kd.R_base ho0) hb); have n2_ := Aside0.mk (Kd.R_elder' (by (with_reducible repeat (first | apply Kd.R_alloc | apply Kd.R_drewN | apply Kd.R_drew)); exact HO418.out) (Kd.R_base ho0) hb); have n3_ := Aside0.mk (Kd.R_lower (Kd.R_new' (Kd.R_new' (Kd.R_new' ho0 (Kd.R_lt (by (with_reducible repeat (first | apply Kd.R_alloc | apply Kd.R_drewN | apply Kd.R_drew)); exact HO411.out))) (Kd.R_lt (by (with_reducible repeat (first | apply Kd.R_alloc | apply Kd.R_drewN | apply Kd.R_drew)); exact HO414.out))) (Kd.R_lt (by (with_reducible repeat (first | apply Kd.R_alloc | apply Kd.R_drewN | apply Kd.R_drew)); exact HO418.out))) (below_size (by repeat (first | (with_reducible first | exact HB.out | apply below_alloc | apply pw_below_drewN | apply below_drew1 | refine below_set ?_ GE406.out) | exact HB.out)))); have n4_ := Aside0.mk (blk_below (g := gb406) (o := .cells #[.int .i64 t407, .int .i64 t408, .slice Ao16 t409.length co16] 46 (0, 0)) (by (with_reducible repeat (first | refine blk_drewN ?_ _ | refine blk_drew ?_ | refine blk_alloc ?_ _)); exact BK406.out) hb); have n5_ := Aside0.mk (below_step (by repeat (first | (with_reducible first | exact HB.out | apply below_alloc | apply pw_below_drewN | apply below_drew1 | refine below_set ?_ GE406.out) | exact HB.out)) hb); clear HO411; clear HO414; clear HO418; clear BK406; clear HB; have HO411 := n0_; have HO414 := n1_; have HO418 := n2_; have HO424 := n3_; have BK406 := n4_; have HB := n5_; clear n0_ n1_ n2_ n3_ n4_ n5_; (try clear hb); (try clear hb2); (try clear hk); (try clear hi); (try clear ho0)) | ((with_reducible refine gate_dst (N := 10) rfl ?_); (try (refine gate_guard (by rfl) ?_; dsimp only)); refine box_event ?hg (N := 10) ?hd (cs := #[.int .i64 0, .int .i64 0, .slice none 0 0]) (t := 46) ?hr ?_; (case hd => rfl); (case hg => rfl); (case hr => first | (go_simp; done) | (go_simp; rfl)); intro gb426 hg w22 hbox hb; have n0_ := Aside0.mk (Kd.R_below (by (with_reducible repeat (first | apply Kd.R_alloc | apply Kd.R_drewN | apply Kd.R_drew)); exact HO411.out) hb); have n1_ := Aside0.mk (Kd.R_below (by (with_reducible repeat (first | apply Kd.R_alloc | apply Kd.R_drewN | apply Kd.R_drew)); exact HO414.out) hb); have n2_ := Aside0.mk (Kd.R_below (by (with_reducible repeat (first | apply Kd.R_alloc | apply Kd.R_drewN | apply Kd.R_drew)); exact HO418.out) hb); have n3_ := Aside0.mk (Kd.R_below (by (with_reducible repeat (first | apply Kd.R_alloc | apply Kd.R_drewN | apply Kd.R_drew)); exact HO424.out) hb); have n4_ := Aside0.mk (blk_below (g := gb406) (o := .cells #[.int .i64 t407, .int .i64 t408, .slice Ao16 t409.length co16] 46 (0, 0)) (by (with_reducible repeat (first | refine blk_drewN ?_ _ | refine blk_drew ?_ | refine blk_alloc ?_ _)); exact BK406.out) hb); have n5_ := Aside0.mk (below_step (by repeat (first | (with_reducible first | exact HB.out | apply below_alloc | apply pw_below_drewN | apply below_drew1 | refine below_set ?_ GE406.out) | exact HB.out)) hb); have n6_ := Aside0.mk (hbox); have n7_ := Aside0.mk ((by rw [hg]; exact (below_size (by repeat (first | (with_reducible first | exact HB.out | apply below_alloc | apply pw_below_drewN | apply below_drew1 | refine below_set ?_ GE406.out) | exact HB.out))) : w.heap.size ≤ gb426)); have n8_ := Aside0.mk ((by rw [hg]; exact (below_size (by repeat (first | (with_reducible first | exact HB.out | apply below_alloc | apply pw_below_drewN | apply below_drew1 | refine below_set ?_ GE406.out) | exact HB.out))) : w.heap.size ≤ gb426)); have n9_ := Aside0.mk ((by rw [hg]; exact Nat.ne_of_lt (blk_lt (g := gb406) (o := .cells #[.int .i64 t407, .int .i64 t408, .slice Ao16 t409.length co16] 46 (0, 0)) (by (with_reducible repeat (first | refine blk_drewN ?_ _ | refine blk_drew ?_ | refine blk_alloc ?_ _)); exact BK406.out)) : gb406 ≠ gb426)); have n10_ := Aside0.mk ((by rw [hg]; exact Nat.ne_of_gt (blk_lt (g := gb406) (o := .cells #[.int .i64 t407, .int .i64 t408, .slice Ao16 t409.length co16] 46 (0, 0)) (by (with_reducible repeat (first | refine blk_drewN ?_ _ | refine blk_drew ?_ | refine blk_alloc ?_ _)); exact BK406.out)) : gb426 ≠ gb406)); clear HO411; clear HO414; clear HO418; clear HO424; clear BK406; clear HB; have HO411 := n0_; have HO414 := n1_; have HO418 := n2_; have HO424 := n3_; have BK406 := n4_; have HB := n5_; have BK426 := n6_; have GW426 := n7_; have GE426 := n8_; have NB406_426 := n9_; have NB426_406 := n10_; clear n0_ n1_ n2_ n3_ n4_ n5_ n6_ n7_ n8_ n9_ n10_; clear hb hbox hg; have hnb23 := NB426_406.out; have hnc23 := NB406_426.out; have hcz24_0 : w22.cell? ⟨gb426, 0, none⟩ = some (.int .i64 0) := (blk_cell BK426.out 0).trans rfl; have hcz24_1 : w22.cell? ⟨gb426, 1, none⟩ = some (.int .i64 0) := (blk_cell BK426.out 1).trans rfl; have hcz24_2 : w22.cell? ⟨gb426, 2, none⟩ = some (.slice none 0 0) := (blk_cell BK426.out 2).trans rfl; have hfz24_0 := blk_frozen BK426.out 0; have hfz24_1 := blk_frozen BK426.out 1; have hfz24_2 := blk_frozen BK426.out 2; obtain ⟨Ao25, co25, eo25⟩ := Kd.R_slice HO424.out; subst eo25; have hcz26_0 : w22.cell? ⟨gb406, 0, none⟩ = some (.int .i64 t407) := (blk_cell BK406.out 0).trans rfl; have hcz26_1 : w22.cell? ⟨gb406, 1, none⟩ = some (.int .i64 t408) := (blk_cell BK406.out 1).trans rfl; have hcz26_2 : w22.cell? ⟨gb406, 2, none⟩ = some (.slice Ao16 t409.length co16) := (blk_cell BK406.out 2).trans rfl; have hfz26_0 := blk_frozen BK406.out 0; have hfz26_1 := blk_frozen BK406.out 1; have hfz26_2 := blk_frozen BK406.out 2; obtain ⟨Ao27, co27, eo27⟩ := Kd.R_slice HO414.out; subst eo27) | ((with_reducible refine gate_callee (f := 33) rfl ?_); refine goesL_ (some 35) rfl rfl Try.func33 (by kernel_rfl) rfl #[.agg #[.int .i64 t407, .int .i64 t408, .slice Ao16 t409.length co16], .slice Ao27 t412.length co27] rfl (by (try simp only [List.map_toArray, List.map_cons, List.map_nil]); first | done | rfl | (simp only [List.length_drop, List.length_take]; rfl)) ?_; (with_reducible refine (mat_Apply.calls k t407 t408 _ _ t409 _ _ t412 t427 t430 _ ?side1 ?side2 ?side3 ?side4 A9.out).mono ?_); (case side1 => refine (Kd.R_reads' (e := 24) (base := w.heap.size) (ok := fun k_ => (((True ∧ some k_ ≠ (.slice Ao27 t412.length co27 : Value).ownBlock) ∧ some k_ ≠ (v417 : Value).ownBlock) ∧ some k_ ≠ (.slice Ao25 t422.length co25 : Value).ownBlock)) (n := t409.length) (c := co16) ?_).2.2; exact (by (with_reducible repeat (first | apply Kd.R_alloc | apply Kd.R_drewN | apply Kd.R_drew)); exact (Kd.R_mono (Kd.R_far (p := ⟨gb426, 2, none⟩) (Kd.R_far (p := ⟨gb426, 1, none⟩) (Kd.R_far (p := ⟨gb426, 0, none⟩) (Kd.R_types HO411.out BK426.out (by decide)) (fun _ hk => hk.2) (.int .i64 t420)) (fun _ hk => hk.2) (.int .i64 t421)) (fun _ hk => hk.2) (.slice Ao25 t422.length co25)) (fun _ h_ => h_.1)))); (case side2 => exact (Kd.R_reads' HO411.out).2.1); (case side3 => refine (Kd.R_reads' (e := 24) (base := w.heap.size) (ok := fun k_ => (((True ∧ some k_ ≠ (.slice Ao16 t409.length co16 : Value).ownBlock) ∧ some k_ ≠ (v417 : Value).ownBlock) ∧ some k_ ≠ (.slice Ao25 t422.length co25 : Value).ownBlock)) (n := t412.length) (c := co27) ?_).2.2; exact (by (with_reducible repeat (first | apply Kd.R_alloc | apply Kd.R_drewN | apply Kd.R_drew)); exact (Kd.R_mono (Kd.R_far (p := ⟨gb426, 2, none⟩) (Kd.R_far (p := ⟨gb426, 1, none⟩) (Kd.R_far (p := ⟨gb426, 0, none⟩) (Kd.R_types HO414.out BK426.out (by decide)) (fun _ hk => hk.2) (.int .i64 t420)) (fun _ hk => hk.2) (.int .i64 t421)) (fun _ hk => hk.2) (.slice Ao25 t422.length co25)) (fun _ h_ => h_.1)))); (case side4 => exact (Kd.R_reads' HO414.out).2.1); rintro e w28 ⟨v428, rfl, ho0, hb⟩; refine ⟨_, rfl, ?_⟩; have n0_ := Aside0.mk (Kd.R_elder' (by (with_reducible repeat (first | apply Kd.R_alloc | apply Kd.R_drewN | apply Kd.R_drew)); exact (Kd.R_mono (Kd.R_far (p := ⟨gb426, 2, none⟩) (Kd.R_far (p := ⟨gb426, 1, none⟩) (Kd.R_far (p := ⟨gb426, 0, none⟩) (Kd.R_types HO411.out BK426.out (by decide)) (fun _ hk => hk.2) (.int .i64 t420)) (fun _ hk => hk.2) (.int .i64 t421)) (fun _ hk => hk.2) (.slice Ao25 t422.length co25)) (fun _ h_ => h_.1))) (Kd.R_base ho0) hb); have n1_ := Aside0.mk (Kd.R_elder' (by (with_reducible repeat (first | apply Kd.R_alloc | apply Kd.R_drewN | apply Kd.R_drew)); exact (Kd.R_mono (Kd.R_far (p := ⟨gb426, 2, none⟩) (Kd.R_far (p := ⟨gb426, 1, none⟩) (Kd.R_far (p := ⟨gb426, 0, none⟩) (Kd.R_types HO414.out BK426.out (by decide)) (fun _ hk => hk.2) (.int .i64 t420)) (fun _ hk => hk.2) (.int .i64 t421)) (fun _ hk => hk.2) (.slice Ao25 t422.length co25)) (fun _ h_ => h_.1))) (Kd.R_base ho0) hb); have n2_ := Aside0.mk (Kd.R_elder' (by (with_reducible repeat (first | apply Kd.R_alloc | apply Kd.R_drewN | apply Kd.R_drew)); exact (Kd.R_mono (Kd.R_far (p := ⟨gb426, 2, none⟩) (Kd.R_far (p := ⟨gb426, 1, none⟩) (Kd.R_far (p := ⟨gb426, 0, none⟩) (Kd.R_types HO418.out BK426.out (by decide)) (fun _ hk => hk.2) (.int .i64 t420)) (fun _ hk => hk.2) (.int .i64 t421)) (fun _ hk => hk.2) (.slice Ao25 t422.length co25)) (fun _ h_ => h_.1))) (Kd.R_base ho0) hb); have n3_ := Aside0.mk (Kd.R_elder' (by (with_reducible repeat (first | apply Kd.R_alloc | apply Kd.R_drewN | apply Kd.R_drew)); exact (Kd.R_mono (Kd.R_far (p := ⟨gb426, 2, none⟩) (Kd.R_far (p := ⟨gb426, 1, none⟩) (Kd.R_far (p := ⟨gb426, 0, none⟩) (Kd.R_types HO424.out BK426.out (by decide)) (fun _ hk => hk.2) (.int .i64 t420)) (fun _ hk => hk.2) (.int .i64 t421)) (fun _ hk => hk.2) (.slice Ao25 t422.length co25)) (fun _ h_ => h_.1))) (Kd.R_base ho0) hb); have n4_ := Aside0.mk (Kd.R_lower (Kd.R_new' (Kd.R_new' (Kd.R_new' (Kd.R_new' ho0 (Kd.R_lt (by (with_reducible repeat (first | apply Kd.R_alloc | apply Kd.R_drewN | apply Kd.R_drew)); exact (Kd.R_mono (Kd.R_far (p := ⟨gb426, 2, none⟩) (Kd.R_far (p := ⟨gb426, 1, none⟩) (Kd.R_far (p := ⟨gb426, 0, none⟩) (Kd.R_types HO411.out BK426.out (by decide)) (fun _ hk => hk.2) (.int .i64 t420)) (fun _ hk => hk.2) (.int .i64 t421)) (fun _ hk => hk.2) (.slice Ao25 t422.length co25)) (fun _ h_ => h_.1))))) (Kd.R_lt (by (with_reducible repeat (first | apply Kd.R_alloc | apply Kd.R_drewN | apply Kd.R_drew)); exact (Kd.R_mono (Kd.R_far (p := ⟨gb426, 2, none⟩) (Kd.R_far (p := ⟨gb426, 1, none⟩) (Kd.R_far (p := ⟨gb426, 0, none⟩) (Kd.R_types HO414.out BK426.out (by decide)) (fun _ hk => hk.2) (.int .i64 t420)) (fun _ hk => hk.2) (.int .i64 t421)) (fun _ hk => hk.2) (.slice Ao25 t422.length co25)) (fun _ h_ => h_.1))))) (Kd.R_lt (by (with_reducible repeat (first | apply Kd.R_alloc | apply Kd.R_drewN | apply Kd.R_drew)); exact (Kd.R_mono (Kd.R_far (p := ⟨gb426, 2, none⟩) (Kd.R_far (p := ⟨gb426, 1, none⟩) (Kd.R_far (p := ⟨gb426, 0, none⟩) (Kd.R_types HO418.out BK426.out (by decide)) (fun _ hk => hk.2) (.int .i64 t420)) (fun _ hk => hk.2) (.int .i64 t421)) (fun _ hk => hk.2) (.slice Ao25 t422.length co25)) (fun _ h_ => h_.1))))) (Kd.R_lt (by (with_reducible repeat (first | apply Kd.R_alloc | apply Kd.R_drewN | apply Kd.R_drew)); exact (Kd.R_mono (Kd.R_far (p := ⟨gb426, 2, none⟩) (Kd.R_far (p := ⟨gb426, 1, none⟩) (Kd.R_far (p := ⟨gb426, 0, none⟩) (Kd.R_types HO424.out BK426.out (by decide)) (fun _ hk => hk.2) (.int .i64 t420)) (fun _ hk => hk.2) (.int .i64 t421)) (fun _ hk => hk.2) (.slice Ao25 t422.length co25)) (fun _ h_ => h_.1))))) (below_size (by repeat (first | (with_reducible first | exact HB.out | apply below_alloc | apply pw_below_drewN | apply below_drew1 | refine below_set ?_ GE406.out | refine below_set ?_ GE426.out) | exact HB.out)))); have n5_ := Aside0.mk (blk_below (g := gb406) (o := .cells #[.int .i64 t407, .int .i64 t408, .slice Ao16 t409.length co16] 46 (0, 0)) (by (with_reducible repeat (first | refine blk_drewN ?_ _ | refine blk_drew ?_ | refine blk_alloc ?_ _)); refine blk_far ?_ NB406_426.out _; (with_reducible repeat (first | refine blk_drewN ?_ _ | refine blk_drew ?_ | refine blk_alloc ?_ _)); refine blk_far ?_ NB406_426.out _; (with_reducible repeat (first | refine blk_drewN ?_ _ | refine blk_drew ?_ | refine blk_alloc ?_ _)); refine blk_far ?_ NB406_426.out _; (with_reducible repeat (first | refine blk_drewN ?_ _ | refine blk_drew ?_ | refine blk_alloc ?_ _)); exact BK406.out) hb); have n6_ := Aside0.mk (blk_below (g := gb426) (o := .cells #[.int .i64 t420, .int .i64 t421, .slice Ao25 t422.length co25] 46 (0, 0)) (by (with_reducible repeat (first | refine blk_drewN ?_ _ | refine blk_drew ?_ | refine blk_alloc ?_ _)); refine blk_put (cs := #[.int .i64 t420, .int .i64 t421, .slice none 0 0]) ?_ 2 _ rfl; (with_reducible repeat (first | refine blk_drewN ?_ _ | refine blk_drew ?_ | refine blk_alloc ?_ _)); refine blk_put (cs := #[.int .i64 t420, .int .i64 0, .slice none 0 0]) ?_ 1 _ rfl; (with_reducible repeat (first | refine blk_drewN ?_ _ | refine blk_drew ?_ | refine blk_alloc ?_ _)); refine blk_put (cs := #[.int .i64 0, .int .i64 0, .slice none 0 0]) ?_ 0 _ rfl; (with_reducible repeat (first | refine blk_drewN ?_ _ | refine blk_drew ?_ | refine blk_alloc ?_ _)); exact BK426.out) hb); have n7_ := Aside0.mk (below_step (by repeat (first | (with_reducible first | exact HB.out | apply below_alloc | apply pw_below_drewN | apply below_drew1 | refine below_set ?_ GE406.out | refine below_set ?_ GE426.out) | exact HB.out)) hb); clear HO411; clear HO414; clear HO418; clear HO424; clear BK406; clear BK426; clear HB; have HO411 := n0_; have HO414 := n1_; have HO418 := n2_; have HO424 := n3_; have HO429 := n4_; have BK406 := n5_; have BK426 := n6_; have HB := n7_; clear n0_ n1_ n2_ n3_ n4_ n5_ n6_ n7_; (try clear hb); (try clear hb2); (try clear hk); (try clear hi); (try clear ho0)))
 (try simp only [Act.put, List.setIfInBounds_toArray, List.set_cons_zero, List.set_cons_succ])
 go_cut [50] (fun v50 wc => ∃ (kq : Nat) (x50_9 : Bool), v50 = .bool x50_9 ∧ Aside0 (tillerlaw04_MatRows.j0 kq a1 t412 t415 t416 t419 t427 t430 x50_9 t407 t408 t409 t420 t421 t422 = some r) ∧ Aside0 (kq ≤ k) ∧ Aside0 (Kd.R (Kd.int .i32) 24 wc w.heap.size (fun k_ => some k_ ≠ (v417 : Value).ownBlock ∧ some k_ ≠ (v428 : Value).ownBlock ∧ some k_ ≠ ((.slice Ao16 t409.length co16) : Value).ownBlock ∧ some k_ ≠ ((.slice Ao25 t422.length co25) : Value).ownBlock) (.slice Ao27 t412.length co27) t412) ∧ Aside0 (Kd.R (Kd.int .i32) 24 wc w.heap.size (fun k_ => some k_ ≠ ((.slice Ao27 t412.length co27) : Value).ownBlock ∧ some k_ ≠ (v428 : Value).ownBlock ∧ some k_ ≠ ((.slice Ao16 t409.length co16) : Value).ownBlock ∧ some k_ ≠ ((.slice Ao25 t422.length co25) : Value).ownBlock) v417 t416) ∧ Aside0 (Kd.R (Kd.int .i32) 24 wc w.heap.size (fun k_ => some k_ ≠ ((.slice Ao27 t412.length co27) : Value).ownBlock ∧ some k_ ≠ (v417 : Value).ownBlock ∧ some k_ ≠ ((.slice Ao16 t409.length co16) : Value).ownBlock ∧ some k_ ≠ ((.slice Ao25 t422.length co25) : Value).ownBlock) v428 t427) ∧ Aside0 (Kd.R (Kd.int .i32) 24 wc w.heap.size (fun k_ => some k_ ≠ ((.slice Ao27 t412.length co27) : Value).ownBlock ∧ some k_ ≠ (v417 : Value).ownBlock ∧ some k_ ≠ (v428 : Value).ownBlock ∧ some k_ ≠ ((.slice Ao25 t422.length co25) : Value).ownBlock) (.slice Ao16 t409.length co16) t409) ∧ Aside0 (Kd.R (Kd.int .i32) 24 wc w.heap.size (fun k_ => some k_ ≠ ((.slice Ao27 t412.length co27) : Value).ownBlock ∧ some k_ ≠ (v417 : Value).ownBlock ∧ some k_ ≠ (v428 : Value).ownBlock ∧ some k_ ≠ ((.slice Ao16 t409.length co16) : Value).ownBlock) (.slice Ao25 t422.length co25) t422) ∧ Aside0 (wc.heap[gb406]? = some (.cells #[.int .i64 t407, .int .i64 t408, (.slice Ao16 t409.length co16)] 46 (0, 0))) ∧ Aside0 (wc.heap[gb426]? = some (.cells #[.int .i64 t420, .int .i64 t421, (.slice Ao25 t422.length co25)] 46 (0, 0))) ∧ Aside0 (Below w.heap.size w wc))
 case first =>
  have H := HC10.out
  clear HC10
  replace H := Option.bind_eq_some_iff.mp H
  obtain ⟨t431, A290, H⟩ := H
  replace H : (if t431 = true then ((mat_Check.f k t407 t408 t409).bind fun t432 => (if t432 = t415 then (tillerlaw04_MatRows.j0 k a1 t412 t415 t416 t419 t427 t430 (t425 != t415) t407 t408 t409 t420 t421 t422) else (tillerlaw04_MatRows.j0 k a1 t412 t415 t416 t419 t427 t430 true t407 t408 t409 t420 t421 t422))) else (tillerlaw04_MatRows.j0 k a1 t412 t415 t416 t419 t427 t430 true t407 t408 t409 t420 t421 t422)) = some r := H
  have A29 := Aside0.mk A290
  clear A290
  by_cases c30 : t431 = true
  ·subst c30
   have H1 : ((mat_Check.f k t407 t408 t409).bind fun t432 => (if t432 = t415 then (tillerlaw04_MatRows.j0 k a1 t412 t415 t416 t419 t427 t430 (t425 != t415) t407 t408 t409 t420 t421 t422) else (tillerlaw04_MatRows.j0 k a1 t412 t415 t416 t419 t427 t430 true t407 t408 t409 t420 t421 t422))) = some r := by rw [if_pos rfl] at H; exact H
   clear H
   have H := H1
   clear H1
   replace H := Option.bind_eq_some_iff.mp H
   obtain ⟨t432, A310, H⟩ := H
   replace H : (if t432 = t415 then (tillerlaw04_MatRows.j0 k a1 t412 t415 t416 t419 t427 t430 (t425 != t415) t407 t408 t409 t420 t421 t422) else (tillerlaw04_MatRows.j0 k a1 t412 t415 t416 t419 t427 t430 true t407 t408 t409 t420 t421 t422)) = some r := H
   have A31 := Aside0.mk A310
   clear A310
   by_cases c32 : t432 = t415
   ·rw [if_pos c32] at H
    have c32b0 : (t432 == t415) = true := beq_iff_eq.mpr c32
    have c32b1 : (t432 != t415) = false := bne_eq_false_iff_eq.mpr c32
    clear c32
    (first | rw [c32b0] | (simp only [i64_w, i32_w]; rw [c32b0]) | skip)
    have H' := Aside0.mk H
    clear H
    go_wp2_with (first | ((with_reducible refine gate_callee (f := 34) rfl ?_); refine goesL_ (some 38) rfl rfl Try.func34 (by kernel_rfl) rfl #[] rfl (by (try simp only [List.map_toArray, List.map_cons, List.map_nil]); first | done | rfl | (simp only [List.length_drop, List.length_take]; rfl)) ?_; (with_reducible refine (tillerlaw04_awake.calls k  true _ A29.out).mono ?_); rintro e w33 ⟨rfl, hb⟩; refine ⟨_, rfl, ?_⟩; have n0_ := Aside0.mk (Kd.R_below (by (with_reducible repeat (first | apply Kd.R_alloc | apply Kd.R_drewN | apply Kd.R_drew)); exact HO411.out) hb); have n1_ := Aside0.mk (Kd.R_below (by (with_reducible repeat (first | apply Kd.R_alloc | apply Kd.R_drewN | apply Kd.R_drew)); exact HO414.out) hb); have n2_ := Aside0.mk (Kd.R_below (by (with_reducible repeat (first | apply Kd.R_alloc | apply Kd.R_drewN | apply Kd.R_drew)); exact HO418.out) hb); have n3_ := Aside0.mk (Kd.R_below (by (with_reducible repeat (first | apply Kd.R_alloc | apply Kd.R_drewN | apply Kd.R_drew)); exact HO424.out) hb); have n4_ := Aside0.mk (Kd.R_below (by (with_reducible repeat (first | apply Kd.R_alloc | apply Kd.R_drewN | apply Kd.R_drew)); exact HO429.out) hb); have n5_ := Aside0.mk (blk_below (g := gb406) (o := .cells #[.int .i64 t407, .int .i64 t408, .slice Ao16 t409.length co16] 46 (0, 0)) (by (with_reducible repeat (first | refine blk_drewN ?_ _ | refine blk_drew ?_ | refine blk_alloc ?_ _)); exact BK406.out) hb); have n6_ := Aside0.mk (blk_below (g := gb426) (o := .cells #[.int .i64 t420, .int .i64 t421, .slice Ao25 t422.length co25] 46 (0, 0)) (by (with_reducible repeat (first | refine blk_drewN ?_ _ | refine blk_drew ?_ | refine blk_alloc ?_ _)); exact BK426.out) hb); have n7_ := Aside0.mk (below_step (by repeat (first | (with_reducible first | exact HB.out | apply below_alloc | apply pw_below_drewN | apply below_drew1 | refine below_set ?_ GE406.out | refine below_set ?_ GE426.out) | exact HB.out)) hb); clear HO411; clear HO414; clear HO418; clear HO424; clear HO429; clear BK406; clear BK426; clear HB; have HO411 := n0_; have HO414 := n1_; have HO418 := n2_; have HO424 := n3_; have HO429 := n4_; have BK406 := n5_; have BK426 := n6_; have HB := n7_; clear n0_ n1_ n2_ n3_ n4_ n5_ n6_ n7_; (try clear hb); (try clear hb2); (try clear hk); (try clear hi); have hnb34 := NB406_426.out; have hnc34 := NB426_406.out; have hcz35_0 : w33.cell? ⟨gb406, 0, none⟩ = some (.int .i64 t407) := (blk_cell BK406.out 0).trans rfl; have hcz35_1 : w33.cell? ⟨gb406, 1, none⟩ = some (.int .i64 t408) := (blk_cell BK406.out 1).trans rfl; have hcz35_2 : w33.cell? ⟨gb406, 2, none⟩ = some (.slice Ao16 t409.length co16) := (blk_cell BK406.out 2).trans rfl; have hfz35_0 := blk_frozen BK406.out 0; have hfz35_1 := blk_frozen BK406.out 1; have hfz35_2 := blk_frozen BK406.out 2) | (go_at_call 35; (with_reducible refine (mat_Check.calls k t407 t408 _ _ t409 t432 _ ?side1 ?side2 A31.out).mono ?_); (case side1 => repeat (first | exact (Kd.R_reads' HO411.out).2.2 | (with_reducible refine Kd.C_alloc ?_ _) | (with_reducible refine Kd.C_drewN ?_ _) | (with_reducible refine Kd.C_drew ?_))); (case side2 => exact (Kd.R_reads' HO411.out).2.1); rintro e w36 ⟨rfl, hb⟩; have n0_ := Aside0.mk (Kd.R_below (by (with_reducible repeat (first | apply Kd.R_alloc | apply Kd.R_drewN | apply Kd.R_drew)); exact HO411.out) hb); have n1_ := Aside0.mk (Kd.R_below (by (with_reducible repeat (first | apply Kd.R_alloc | apply Kd.R_drewN | apply Kd.R_drew)); exact HO414.out) hb); have n2_ := Aside0.mk (Kd.R_below (by (with_reducible repeat (first | apply Kd.R_alloc | apply Kd.R_drewN | apply Kd.R_drew)); exact HO418.out) hb); have n3_ := Aside0.mk (Kd.R_below (by (with_reducible repeat (first | apply Kd.R_alloc | apply Kd.R_drewN | apply Kd.R_drew)); exact HO424.out) hb); have n4_ := Aside0.mk (Kd.R_below (by (with_reducible repeat (first | apply Kd.R_alloc | apply Kd.R_drewN | apply Kd.R_drew)); exact HO429.out) hb); have n5_ := Aside0.mk (blk_below (g := gb406) (o := .cells #[.int .i64 t407, .int .i64 t408, .slice Ao16 t409.length co16] 46 (0, 0)) (by (with_reducible repeat (first | refine blk_drewN ?_ _ | refine blk_drew ?_ | refine blk_alloc ?_ _)); exact BK406.out) hb); have n6_ := Aside0.mk (blk_below (g := gb426) (o := .cells #[.int .i64 t420, .int .i64 t421, .slice Ao25 t422.length co25] 46 (0, 0)) (by (with_reducible repeat (first | refine blk_drewN ?_ _ | refine blk_drew ?_ | refine blk_alloc ?_ _)); exact BK426.out) hb); have n7_ := Aside0.mk (below_step (by repeat (first | (with_reducible first | exact HB.out | apply below_alloc | apply pw_below_drewN | apply below_drew1 | refine below_set ?_ GE406.out | refine below_set ?_ GE426.out) | exact HB.out)) hb); clear HO411; clear HO414; clear HO418; clear HO424; clear HO429; clear BK406; clear BK426; clear HB; have HO411 := n0_; have HO414 := n1_; have HO418 := n2_; have HO424 := n3_; have HO429 := n4_; have BK406 := n5_; have BK426 := n6_; have HB := n7_; clear n0_ n1_ n2_ n3_ n4_ n5_ n6_ n7_; (try clear hb); (try clear hb2); (try clear hk); (try clear hi)))
    go_meet
    case rel => exact ⟨_, ((t425 != t415)), (by first | rfl | (simp; done) | (simp [*]; done)), H', ⟨by first | omega | exact Nat.le_refl _⟩, ⟨by (with_reducible repeat (first | apply Kd.R_alloc | apply Kd.R_drewN | apply Kd.R_drew)); exact Kd.R_mono HO414.out (fun _ hk => ⟨hk.1.1.2, ⟨hk.2, ⟨hk.1.1.1.2, hk.1.2⟩⟩⟩)⟩, ⟨by (with_reducible repeat (first | apply Kd.R_alloc | apply Kd.R_drewN | apply Kd.R_drew)); exact Kd.R_mono HO418.out (fun _ hk => ⟨hk.1.1.2, ⟨hk.2, ⟨hk.1.1.1.2, hk.1.2⟩⟩⟩)⟩, ⟨by (with_reducible repeat (first | apply Kd.R_alloc | apply Kd.R_drewN | apply Kd.R_drew)); exact Kd.R_mono HO429.out (fun _ hk => ⟨hk.1.1.2, ⟨hk.1.2, ⟨hk.1.1.1.2, hk.2⟩⟩⟩)⟩, ⟨by (with_reducible repeat (first | apply Kd.R_alloc | apply Kd.R_drewN | apply Kd.R_drew)); exact Kd.R_mono HO411.out (fun _ hk => ⟨hk.1.1.1.2, ⟨hk.1.1.2, ⟨hk.2, hk.1.2⟩⟩⟩)⟩, ⟨by (with_reducible repeat (first | apply Kd.R_alloc | apply Kd.R_drewN | apply Kd.R_drew)); exact Kd.R_mono HO424.out (fun _ hk => ⟨hk.1.1.2, ⟨hk.1.2, ⟨hk.2, hk.1.1.1.2⟩⟩⟩)⟩, ⟨by (with_reducible repeat (first | refine blk_drewN ?_ _ | refine blk_drew ?_ | refine blk_alloc ?_ _)); exact BK406.out⟩, ⟨by (with_reducible repeat (first | refine blk_drewN ?_ _ | refine blk_drew ?_ | refine blk_alloc ?_ _)); exact BK426.out⟩, ⟨by repeat (first | (with_reducible first | exact HB.out | apply below_alloc | apply pw_below_drewN | apply below_drew1 | refine below_set ?_ GE406.out | refine below_set ?_ GE426.out) | exact HB.out)⟩⟩
   ·rw [if_neg c32] at H
    have c32b0 : (t432 == t415) = false := beq_eq_false_iff_ne.mpr c32
    have c32b1 : (t432 != t415) = true := bne_iff_ne.mpr c32
    (first | rw [c32b0] | (simp only [i64_w, i32_w]; rw [c32b0]) | skip)
    have H' := Aside0.mk H
    clear H
    go_wp2_with (first | ((with_reducible refine gate_callee (f := 34) rfl ?_); refine goesL_ (some 38) rfl rfl Try.func34 (by kernel_rfl) rfl #[] rfl (by (try simp only [List.map_toArray, List.map_cons, List.map_nil]); first | done | rfl | (simp only [List.length_drop, List.length_take]; rfl)) ?_; (with_reducible refine (tillerlaw04_awake.calls k  true _ A29.out).mono ?_); rintro e w37 ⟨rfl, hb⟩; refine ⟨_, rfl, ?_⟩; have n0_ := Aside0.mk (Kd.R_below (by (with_reducible repeat (first | apply Kd.R_alloc | apply Kd.R_drewN | apply Kd.R_drew)); exact HO411.out) hb); have n1_ := Aside0.mk (Kd.R_below (by (with_reducible repeat (first | apply Kd.R_alloc | apply Kd.R_drewN | apply Kd.R_drew)); exact HO414.out) hb); have n2_ := Aside0.mk (Kd.R_below (by (with_reducible repeat (first | apply Kd.R_alloc | apply Kd.R_drewN | apply Kd.R_drew)); exact HO418.out) hb); have n3_ := Aside0.mk (Kd.R_below (by (with_reducible repeat (first | apply Kd.R_alloc | apply Kd.R_drewN | apply Kd.R_drew)); exact HO424.out) hb); have n4_ := Aside0.mk (Kd.R_below (by (with_reducible repeat (first | apply Kd.R_alloc | apply Kd.R_drewN | apply Kd.R_drew)); exact HO429.out) hb); have n5_ := Aside0.mk (blk_below (g := gb406) (o := .cells #[.int .i64 t407, .int .i64 t408, .slice Ao16 t409.length co16] 46 (0, 0)) (by (with_reducible repeat (first | refine blk_drewN ?_ _ | refine blk_drew ?_ | refine blk_alloc ?_ _)); exact BK406.out) hb); have n6_ := Aside0.mk (blk_below (g := gb426) (o := .cells #[.int .i64 t420, .int .i64 t421, .slice Ao25 t422.length co25] 46 (0, 0)) (by (with_reducible repeat (first | refine blk_drewN ?_ _ | refine blk_drew ?_ | refine blk_alloc ?_ _)); exact BK426.out) hb); have n7_ := Aside0.mk (below_step (by repeat (first | (with_reducible first | exact HB.out | apply below_alloc | apply pw_below_drewN | apply below_drew1 | refine below_set ?_ GE406.out | refine below_set ?_ GE426.out) | exact HB.out)) hb); clear HO411; clear HO414; clear HO418; clear HO424; clear HO429; clear BK406; clear BK426; clear HB; have HO411 := n0_; have HO414 := n1_; have HO418 := n2_; have HO424 := n3_; have HO429 := n4_; have BK406 := n5_; have BK426 := n6_; have HB := n7_; clear n0_ n1_ n2_ n3_ n4_ n5_ n6_ n7_; (try clear hb); (try clear hb2); (try clear hk); (try clear hi); have hnb38 := NB406_426.out; have hnc38 := NB426_406.out; have hcz39_0 : w37.cell? ⟨gb406, 0, none⟩ = some (.int .i64 t407) := (blk_cell BK406.out 0).trans rfl; have hcz39_1 : w37.cell? ⟨gb406, 1, none⟩ = some (.int .i64 t408) := (blk_cell BK406.out 1).trans rfl; have hcz39_2 : w37.cell? ⟨gb406, 2, none⟩ = some (.slice Ao16 t409.length co16) := (blk_cell BK406.out 2).trans rfl; have hfz39_0 := blk_frozen BK406.out 0; have hfz39_1 := blk_frozen BK406.out 1; have hfz39_2 := blk_frozen BK406.out 2) | (go_at_call 35; (with_reducible refine (mat_Check.calls k t407 t408 _ _ t409 t432 _ ?side1 ?side2 A31.out).mono ?_); (case side1 => repeat (first | exact (Kd.R_reads' HO411.out).2.2 | (with_reducible refine Kd.C_alloc ?_ _) | (with_reducible refine Kd.C_drewN ?_ _) | (with_reducible refine Kd.C_drew ?_))); (case side2 => exact (Kd.R_reads' HO411.out).2.1); rintro e w40 ⟨rfl, hb⟩; have n0_ := Aside0.mk (Kd.R_below (by (with_reducible repeat (first | apply Kd.R_alloc | apply Kd.R_drewN | apply Kd.R_drew)); exact HO411.out) hb); have n1_ := Aside0.mk (Kd.R_below (by (with_reducible repeat (first | apply Kd.R_alloc | apply Kd.R_drewN | apply Kd.R_drew)); exact HO414.out) hb); have n2_ := Aside0.mk (Kd.R_below (by (with_reducible repeat (first | apply Kd.R_alloc | apply Kd.R_drewN | apply Kd.R_drew)); exact HO418.out) hb); have n3_ := Aside0.mk (Kd.R_below (by (with_reducible repeat (first | apply Kd.R_alloc | apply Kd.R_drewN | apply Kd.R_drew)); exact HO424.out) hb); have n4_ := Aside0.mk (Kd.R_below (by (with_reducible repeat (first | apply Kd.R_alloc | apply Kd.R_drewN | apply Kd.R_drew)); exact HO429.out) hb); have n5_ := Aside0.mk (blk_below (g := gb406) (o := .cells #[.int .i64 t407, .int .i64 t408, .slice Ao16 t409.length co16] 46 (0, 0)) (by (with_reducible repeat (first | refine blk_drewN ?_ _ | refine blk_drew ?_ | refine blk_alloc ?_ _)); exact BK406.out) hb); have n6_ := Aside0.mk (blk_below (g := gb426) (o := .cells #[.int .i64 t420, .int .i64 t421, .slice Ao25 t422.length co25] 46 (0, 0)) (by (with_reducible repeat (first | refine blk_drewN ?_ _ | refine blk_drew ?_ | refine blk_alloc ?_ _)); exact BK426.out) hb); have n7_ := Aside0.mk (below_step (by repeat (first | (with_reducible first | exact HB.out | apply below_alloc | apply pw_below_drewN | apply below_drew1 | refine below_set ?_ GE406.out | refine below_set ?_ GE426.out) | exact HB.out)) hb); clear HO411; clear HO414; clear HO418; clear HO424; clear HO429; clear BK406; clear BK426; clear HB; have HO411 := n0_; have HO414 := n1_; have HO418 := n2_; have HO424 := n3_; have HO429 := n4_; have BK406 := n5_; have BK426 := n6_; have HB := n7_; clear n0_ n1_ n2_ n3_ n4_ n5_ n6_ n7_; (try clear hb); (try clear hb2); (try clear hk); (try clear hi)))
    go_meet
    case rel => exact ⟨_, (true), (by first | rfl | (simp; done) | (simp [*]; done)), H', ⟨by first | omega | exact Nat.le_refl _⟩, ⟨by (with_reducible repeat (first | apply Kd.R_alloc | apply Kd.R_drewN | apply Kd.R_drew)); exact Kd.R_mono HO414.out (fun _ hk => ⟨hk.1.1.2, ⟨hk.2, ⟨hk.1.1.1.2, hk.1.2⟩⟩⟩)⟩, ⟨by (with_reducible repeat (first | apply Kd.R_alloc | apply Kd.R_drewN | apply Kd.R_drew)); exact Kd.R_mono HO418.out (fun _ hk => ⟨hk.1.1.2, ⟨hk.2, ⟨hk.1.1.1.2, hk.1.2⟩⟩⟩)⟩, ⟨by (with_reducible repeat (first | apply Kd.R_alloc | apply Kd.R_drewN | apply Kd.R_drew)); exact Kd.R_mono HO429.out (fun _ hk => ⟨hk.1.1.2, ⟨hk.1.2, ⟨hk.1.1.1.2, hk.2⟩⟩⟩)⟩, ⟨by (with_reducible repeat (first | apply Kd.R_alloc | apply Kd.R_drewN | apply Kd.R_drew)); exact Kd.R_mono HO411.out (fun _ hk => ⟨hk.1.1.1.2, ⟨hk.1.1.2, ⟨hk.2, hk.1.2⟩⟩⟩)⟩, ⟨by (with_reducible repeat (first | apply Kd.R_alloc | apply Kd.R_drewN | apply Kd.R_drew)); exact Kd.R_mono HO424.out (fun _ hk => ⟨hk.1.1.2, ⟨hk.1.2, ⟨hk.2, hk.1.1.1.2⟩⟩⟩)⟩, ⟨by (with_reducible repeat (first | refine blk_drewN ?_ _ | refine blk_drew ?_ | refine blk_alloc ?_ _)); exact BK406.out⟩, ⟨by (with_reducible repeat (first | refine blk_drewN ?_ _ | refine blk_drew ?_ | refine blk_alloc ?_ _)); exact BK426.out⟩, ⟨by repeat (first | (with_reducible first | exact HB.out | apply below_alloc | apply pw_below_drewN | apply below_drew1 | refine below_set ?_ GE406.out | refine below_set ?_ GE426.out) | exact HB.out)⟩⟩
  ·replace c30 := Bool.eq_false_iff.mpr c30
   subst c30
   have H1 : (tillerlaw04_MatRows.j0 k a1 t412 t415 t416 t419 t427 t430 true t407 t408 t409 t420 t421 t422) = some r := by rw [if_neg (show ¬ (false = true) by decide)] at H; exact H
   clear H
   have H := H1
   clear H1
   have H' := Aside0.mk H
   clear H
   go_wp2_with (first | ((with_reducible refine gate_callee (f := 34) rfl ?_); refine goesL_ (some 38) rfl rfl Try.func34 (by kernel_rfl) rfl #[] rfl (by (try simp only [List.map_toArray, List.map_cons, List.map_nil]); first | done | rfl | (simp only [List.length_drop, List.length_take]; rfl)) ?_; (with_reducible refine (tillerlaw04_awake.calls k  false _ A29.out).mono ?_); rintro e w41 ⟨rfl, hb⟩; refine ⟨_, rfl, ?_⟩; have n0_ := Aside0.mk (Kd.R_below (by (with_reducible repeat (first | apply Kd.R_alloc | apply Kd.R_drewN | apply Kd.R_drew)); exact HO411.out) hb); have n1_ := Aside0.mk (Kd.R_below (by (with_reducible repeat (first | apply Kd.R_alloc | apply Kd.R_drewN | apply Kd.R_drew)); exact HO414.out) hb); have n2_ := Aside0.mk (Kd.R_below (by (with_reducible repeat (first | apply Kd.R_alloc | apply Kd.R_drewN | apply Kd.R_drew)); exact HO418.out) hb); have n3_ := Aside0.mk (Kd.R_below (by (with_reducible repeat (first | apply Kd.R_alloc | apply Kd.R_drewN | apply Kd.R_drew)); exact HO424.out) hb); have n4_ := Aside0.mk (Kd.R_below (by (with_reducible repeat (first | apply Kd.R_alloc | apply Kd.R_drewN | apply Kd.R_drew)); exact HO429.out) hb); have n5_ := Aside0.mk (blk_below (g := gb406) (o := .cells #[.int .i64 t407, .int .i64 t408, .slice Ao16 t409.length co16] 46 (0, 0)) (by (with_reducible repeat (first | refine blk_drewN ?_ _ | refine blk_drew ?_ | refine blk_alloc ?_ _)); exact BK406.out) hb); have n6_ := Aside0.mk (blk_below (g := gb426) (o := .cells #[.int .i64 t420, .int .i64 t421, .slice Ao25 t422.length co25] 46 (0, 0)) (by (with_reducible repeat (first | refine blk_drewN ?_ _ | refine blk_drew ?_ | refine blk_alloc ?_ _)); exact BK426.out) hb); have n7_ := Aside0.mk (below_step (by repeat (first | (with_reducible first | exact HB.out | apply below_alloc | apply pw_below_drewN | apply below_drew1 | refine below_set ?_ GE406.out | refine below_set ?_ GE426.out) | exact HB.out)) hb); clear HO411; clear HO414; clear HO418; clear HO424; clear HO429; clear BK406; clear BK426; clear HB; have HO411 := n0_; have HO414 := n1_; have HO418 := n2_; have HO424 := n3_; have HO429 := n4_; have BK406 := n5_; have BK426 := n6_; have HB := n7_; clear n0_ n1_ n2_ n3_ n4_ n5_ n6_ n7_; (try clear hb); (try clear hb2); (try clear hk); (try clear hi)))
   go_meet
   case rel => exact ⟨_, (true), (by first | rfl | (simp; done) | (simp [*]; done)), H', ⟨by first | omega | exact Nat.le_refl _⟩, ⟨by (with_reducible repeat (first | apply Kd.R_alloc | apply Kd.R_drewN | apply Kd.R_drew)); exact Kd.R_mono HO414.out (fun _ hk => ⟨hk.1.1.2, ⟨hk.2, ⟨hk.1.1.1.2, hk.1.2⟩⟩⟩)⟩, ⟨by (with_reducible repeat (first | apply Kd.R_alloc | apply Kd.R_drewN | apply Kd.R_drew)); exact Kd.R_mono HO418.out (fun _ hk => ⟨hk.1.1.2, ⟨hk.2, ⟨hk.1.1.1.2, hk.1.2⟩⟩⟩)⟩, ⟨by (with_reducible repeat (first | apply Kd.R_alloc | apply Kd.R_drewN | apply Kd.R_drew)); exact Kd.R_mono HO429.out (fun _ hk => ⟨hk.1.1.2, ⟨hk.1.2, ⟨hk.1.1.1.2, hk.2⟩⟩⟩)⟩, ⟨by (with_reducible repeat (first | apply Kd.R_alloc | apply Kd.R_drewN | apply Kd.R_drew)); exact Kd.R_mono HO411.out (fun _ hk => ⟨hk.1.1.1.2, ⟨hk.1.1.2, ⟨hk.2, hk.1.2⟩⟩⟩)⟩, ⟨by (with_reducible repeat (first | apply Kd.R_alloc | apply Kd.R_drewN | apply Kd.R_drew)); exact Kd.R_mono HO424.out (fun _ hk => ⟨hk.1.1.2, ⟨hk.1.2, ⟨hk.2, hk.1.1.1.2⟩⟩⟩)⟩, ⟨by (with_reducible repeat (first | refine blk_drewN ?_ _ | refine blk_drew ?_ | refine blk_alloc ?_ _)); exact BK406.out⟩, ⟨by (with_reducible repeat (first | refine blk_drewN ?_ _ | refine blk_drew ?_ | refine blk_alloc ?_ _)); exact BK426.out⟩, ⟨by repeat (first | (with_reducible first | exact HB.out | apply below_alloc | apply pw_below_drewN | apply below_drew1 | refine below_set ?_ GE406.out | refine below_set ?_ GE426.out) | exact HB.out)⟩⟩
 case rest =>
  clear HC10
  try clear c1
  try clear c2
  try clear p2
  try clear c3
  try clear c8
  try clear c13
  try clear c23
  try clear c29
  try clear c30
  try clear c31
  try clear c32
  try clear c32b0
  try clear c32b1
  try clear c33
  try clear c34
  try clear c38
  try clear hcz12_0
  try clear hcz12_1
  try clear hcz12_2
  try clear hcz15_0
  try clear hcz15_1
  try clear hcz15_2
  try clear hcz18_0
  try clear hcz18_1
  try clear hcz18_2
  try clear hcz20_0
  try clear hcz20_1
  try clear hcz20_2
  try clear hcz24_0
  try clear hcz24_1
  try clear hcz24_2
  try clear hcz26_0
  try clear hcz26_1
  try clear hcz26_2
  try clear hcz35_0
  try clear hcz35_1
  try clear hcz35_2
  try clear hcz39_0
  try clear hcz39_1
  try clear hcz39_2
  try clear hfz12_0
  try clear hfz12_1
  try clear hfz12_2
  try clear hfz15_0
  try clear hfz15_1
  try clear hfz15_2
  try clear hfz18_0
  try clear hfz18_1
  try clear hfz18_2
  try clear hfz20_0
  try clear hfz20_1
  try clear hfz20_2
  try clear hfz24_0
  try clear hfz24_1
  try clear hfz24_2
  try clear hfz26_0
  try clear hfz26_1
  try clear hfz26_2
  try clear hfz35_0
  try clear hfz35_1
  try clear hfz35_2
  try clear hfz39_0
  try clear hfz39_1
  try clear hfz39_2
  obtain ⟨kq, x50_9, rfl, HA, HJ9, HO_2, HO_8, HO_12, HO_407002, HO_427002, BK406, BK426, HB⟩ := hcut
  cases kq with
  | zero => exact absurd HA.out (by simp [tillerlaw04_MatRows.j0])
  | succ kj9 =>
   have H := HA.out
   clear HA
   simp only [tillerlaw04_MatRows.j0] at H
   by_cases c42 : x50_9 = true
   ·subst c42
    have H1 : (some false) = some r := by rw [if_pos rfl] at H; exact H
    clear H
    have H := H1
    clear H1
    exact absurd (Option.some.inj H) (by rw [hr_.out]; decide)
   ·replace c42 := Bool.eq_false_iff.mpr c42
    subst c42
    have H1 : (if t415 = 0 then (if a1 < 0 then (tillerlaw04_MatRows.j1 kj9 a1 t412 t416 t419 t427 t430 true t407 t408 t409 t420 t421 t422) else (tillerlaw04_MatRows.j1 kj9 a1 t412 t416 t419 t427 t430 (decide (a1 ≥ t407)) t407 t408 t409 t420 t421 t422)) else (if t419 = t415 then (if t430 = t415 then (if (t416.length : Int) = 0 then (if (t427.length : Int) = 0 then ((tillerref04_Same.f kj9 t420 t421 t422 0 0 ([] : List Int)).bind fun t433 => (some t433)) else (some false)) else (some false)) else (some false)) else (some false))) = some r := by rw [if_neg (show ¬ (false = true) by decide)] at H; exact H
    clear H
    have H := H1
    clear H1
    by_cases c43 : t415 = 0
    ·rw [if_pos c43] at H
     have c43b0 : (t415 == 0) = true := beq_iff_eq.mpr c43
     have c43b1 : (t415 != 0) = false := bne_eq_false_iff_eq.mpr c43
     clear c43
     have HC44 := Aside0.mk H
     clear H
     go_upto_region 10 with (fail)
     go_cut [83] (fun v83 wc => ∃ (kq : Nat) (x83_43 : Bool), v83 = .bool x83_43 ∧ Aside0 (tillerlaw04_MatRows.j1 kq a1 t412 t416 t419 t427 t430 x83_43 t407 t408 t409 t420 t421 t422 = some r) ∧ Aside0 (kq ≤ kj9) ∧ Aside0 (Kd.R (Kd.int .i32) 24 wc w.heap.size (fun k_ => some k_ ≠ (v417 : Value).ownBlock ∧ some k_ ≠ (v428 : Value).ownBlock ∧ some k_ ≠ ((.slice Ao16 t409.length co16) : Value).ownBlock ∧ some k_ ≠ ((.slice Ao25 t422.length co25) : Value).ownBlock) (.slice Ao27 t412.length co27) t412) ∧ Aside0 (Kd.R (Kd.int .i32) 24 wc w.heap.size (fun k_ => some k_ ≠ ((.slice Ao27 t412.length co27) : Value).ownBlock ∧ some k_ ≠ (v428 : Value).ownBlock ∧ some k_ ≠ ((.slice Ao16 t409.length co16) : Value).ownBlock ∧ some k_ ≠ ((.slice Ao25 t422.length co25) : Value).ownBlock) v417 t416) ∧ Aside0 (Kd.R (Kd.int .i32) 24 wc w.heap.size (fun k_ => some k_ ≠ ((.slice Ao27 t412.length co27) : Value).ownBlock ∧ some k_ ≠ (v417 : Value).ownBlock ∧ some k_ ≠ ((.slice Ao16 t409.length co16) : Value).ownBlock ∧ some k_ ≠ ((.slice Ao25 t422.length co25) : Value).ownBlock) v428 t427) ∧ Aside0 (Kd.R (Kd.int .i32) 24 wc w.heap.size (fun k_ => some k_ ≠ ((.slice Ao27 t412.length co27) : Value).ownBlock ∧ some k_ ≠ (v417 : Value).ownBlock ∧ some k_ ≠ (v428 : Value).ownBlock ∧ some k_ ≠ ((.slice Ao25 t422.length co25) : Value).ownBlock) (.slice Ao16 t409.length co16) t409) ∧ Aside0 (Kd.R (Kd.int .i32) 24 wc w.heap.size (fun k_ => some k_ ≠ ((.slice Ao27 t412.length co27) : Value).ownBlock ∧ some k_ ≠ (v417 : Value).ownBlock ∧ some k_ ≠ (v428 : Value).ownBlock ∧ some k_ ≠ ((.slice Ao16 t409.length co16) : Value).ownBlock) (.slice Ao25 t422.length co25) t422) ∧ Aside0 (wc.heap[gb406]? = some (.cells #[.int .i64 t407, .int .i64 t408, (.slice Ao16 t409.length co16)] 46 (0, 0))) ∧ Aside0 (wc.heap[gb426]? = some (.cells #[.int .i64 t420, .int .i64 t421, (.slice Ao25 t422.length co25)] 46 (0, 0))) ∧ Aside0 (Below w.heap.size w wc))
     case first =>
      have H := HC44.out
      clear HC44
      by_cases c45 : a1 < 0
      ·rw [if_pos c45] at H
       have c45b0 : decide (a1 < 0) = true := decide_eq_true c45
       clear c45
       (first | rw [c45b0] | (simp only [i64_w, i32_w]; rw [c45b0]) | skip)
       have H' := Aside0.mk H
       clear H
       go_wp2
       go_meet
       case rel => exact ⟨_, (true), (by first | rfl | (simp; done) | (simp [*]; done)), H', ⟨by have := HJ9.out; first | omega | exact Nat.le_refl _⟩, ⟨by (with_reducible repeat (first | apply Kd.R_alloc | apply Kd.R_drewN | apply Kd.R_drew)); exact HO_2.out⟩, ⟨by (with_reducible repeat (first | apply Kd.R_alloc | apply Kd.R_drewN | apply Kd.R_drew)); exact HO_8.out⟩, ⟨by (with_reducible repeat (first | apply Kd.R_alloc | apply Kd.R_drewN | apply Kd.R_drew)); exact HO_12.out⟩, ⟨by (with_reducible repeat (first | apply Kd.R_alloc | apply Kd.R_drewN | apply Kd.R_drew)); exact HO_407002.out⟩, ⟨by (with_reducible repeat (first | apply Kd.R_alloc | apply Kd.R_drewN | apply Kd.R_drew)); exact HO_427002.out⟩, ⟨by (with_reducible repeat (first | refine blk_drewN ?_ _ | refine blk_drew ?_ | refine blk_alloc ?_ _)); exact BK406.out⟩, ⟨by (with_reducible repeat (first | refine blk_drewN ?_ _ | refine blk_drew ?_ | refine blk_alloc ?_ _)); exact BK426.out⟩, ⟨by repeat (first | (with_reducible first | exact HB.out | apply below_alloc | apply pw_below_drewN | apply below_drew1 | refine below_set ?_ GE406.out | refine below_set ?_ GE426.out) | exact HB.out)⟩⟩
      ·rw [if_neg c45] at H
       have c45b0 : decide (a1 < 0) = false := decide_eq_false c45
       clear c45
       (first | rw [c45b0] | (simp only [i64_w, i32_w]; rw [c45b0]) | skip)
       have H' := Aside0.mk H
       clear H
       have hnb46 := NB406_426.out
       have hnc46 := NB426_406.out
       have hcz47_0 : wc.cell? ⟨gb406, 0, none⟩ = some (.int .i64 t407) := (blk_cell BK406.out 0).trans rfl
       have hcz47_1 : wc.cell? ⟨gb406, 1, none⟩ = some (.int .i64 t408) := (blk_cell BK406.out 1).trans rfl
       have hcz47_2 : wc.cell? ⟨gb406, 2, none⟩ = some (.slice Ao16 t409.length co16) := (blk_cell BK406.out 2).trans rfl
       have hfz47_0 := blk_frozen BK406.out 0
       have hfz47_1 := blk_frozen BK406.out 1
       have hfz47_2 := blk_frozen BK406.out 2
       go_wp2
       go_meet
       case rel => exact ⟨_, (decide (a1 ≥ t407)), (by first | rfl | (simp; done) | (simp [*]; done)), H', ⟨by have := HJ9.out; first | omega | exact Nat.le_refl _⟩, ⟨by (with_reducible repeat (first | apply Kd.R_alloc | apply Kd.R_drewN | apply Kd.R_drew)); exact HO_2.out⟩, ⟨by (with_reducible repeat (first | apply Kd.R_alloc | apply Kd.R_drewN | apply Kd.R_drew)); exact HO_8.out⟩, ⟨by (with_reducible repeat (first | apply Kd.R_alloc | apply Kd.R_drewN | apply Kd.R_drew)); exact HO_12.out⟩, ⟨by (with_reducible repeat (first | apply Kd.R_alloc | apply Kd.R_drewN | apply Kd.R_drew)); exact HO_407002.out⟩, ⟨by (with_reducible repeat (first | apply Kd.R_alloc | apply Kd.R_drewN | apply Kd.R_drew)); exact HO_427002.out⟩, ⟨by (with_reducible repeat (first | refine blk_drewN ?_ _ | refine blk_drew ?_ | refine blk_alloc ?_ _)); exact BK406.out⟩, ⟨by (with_reducible repeat (first | refine blk_drewN ?_ _ | refine blk_drew ?_ | refine blk_alloc ?_ _)); exact BK426.out⟩, ⟨by repeat (first | (with_reducible first | exact HB.out | apply below_alloc | apply pw_below_drewN | apply below_drew1 | refine below_set ?_ GE406.out | refine below_set ?_ GE426.out) | exact HB.out)⟩⟩
     case rest =>
      clear HC44
      try clear c1
      try clear c2
      try clear p2
      try clear c3
      try clear c4
      try clear c8
      try clear c13
      try clear c23
      try clear c29
      try clear c30
      try clear c31
      try clear c32
      try clear c32b0
      try clear c32b1
      try clear c33
      try clear c34
      try clear c38
      try clear c42
      try clear c43
      try clear c43b0
      try clear c43b1
      try clear c45
      try clear c45b0
      try clear c46
      try clear hcz12_0
      try clear hcz12_1
      try clear hcz12_2
      try clear hcz15_0
      try clear hcz15_1
      try clear hcz15_2
      try clear hcz18_0
      try clear hcz18_1
      try clear hcz18_2
      try clear hcz20_0
      try clear hcz20_1
      try clear hcz20_2
      try clear hcz24_0
      try clear hcz24_1
      try clear hcz24_2
      try clear hcz26_0
      try clear hcz26_1
      try clear hcz26_2
      try clear hcz35_0
      try clear hcz35_1
      try clear hcz35_2
      try clear hcz39_0
      try clear hcz39_1
      try clear hcz39_2
      try clear hcz47_0
      try clear hcz47_1
      try clear hcz47_2
      try clear hfz12_0
      try clear hfz12_1
      try clear hfz12_2
      try clear hfz15_0
      try clear hfz15_1
      try clear hfz15_2
      try clear hfz18_0
      try clear hfz18_1
      try clear hfz18_2
      try clear hfz20_0
      try clear hfz20_1
      try clear hfz20_2
      try clear hfz24_0
      try clear hfz24_1
      try clear hfz24_2
      try clear hfz26_0
      try clear hfz26_1
      try clear hfz26_2
      try clear hfz35_0
      try clear hfz35_1
      try clear hfz35_2
      try clear hfz39_0
      try clear hfz39_1
      try clear hfz39_2
      try clear hfz47_0
      try clear hfz47_1
      try clear hfz47_2
      try clear p2
      obtain ⟨kq, x83_43, rfl, HA, HJ43, HO_2, HO_8, HO_12, HO_407002, HO_427002, BK406, BK426, HB⟩ := hcut
      cases kq with
      | zero => exact absurd HA.out (by simp [tillerlaw04_MatRows.j1])
      | succ kj43 =>
       have H := HA.out
       clear HA
       simp only [tillerlaw04_MatRows.j1] at H
       have HC48 := Aside0.mk H
       clear H
       go_upto_if 83 with (fail)
       go_cut [] (fun wc => ∃ (kq : Nat), Aside0 (tillerlaw04_MatRows.j2 kq t412 t427 t430 t407 t408 t409 t420 t421 t422 = some r) ∧ Aside0 (kq ≤ kj43) ∧ Aside0 (Kd.R (Kd.int .i32) 24 wc w.heap.size (fun k_ => some k_ ≠ (v428 : Value).ownBlock ∧ some k_ ≠ ((.slice Ao16 t409.length co16) : Value).ownBlock ∧ some k_ ≠ ((.slice Ao25 t422.length co25) : Value).ownBlock) (.slice Ao27 t412.length co27) t412) ∧ Aside0 (Kd.R (Kd.int .i32) 24 wc w.heap.size (fun k_ => some k_ ≠ ((.slice Ao27 t412.length co27) : Value).ownBlock ∧ some k_ ≠ ((.slice Ao16 t409.length co16) : Value).ownBlock ∧ some k_ ≠ ((.slice Ao25 t422.length co25) : Value).ownBlock) v428 t427) ∧ Aside0 (Kd.R (Kd.int .i32) 24 wc w.heap.size (fun k_ => some k_ ≠ ((.slice Ao27 t412.length co27) : Value).ownBlock ∧ some k_ ≠ (v428 : Value).ownBlock ∧ some k_ ≠ ((.slice Ao25 t422.length co25) : Value).ownBlock) (.slice Ao16 t409.length co16) t409) ∧ Aside0 (Kd.R (Kd.int .i32) 24 wc w.heap.size (fun k_ => some k_ ≠ ((.slice Ao27 t412.length co27) : Value).ownBlock ∧ some k_ ≠ (v428 : Value).ownBlock ∧ some k_ ≠ ((.slice Ao16 t409.length co16) : Value).ownBlock) (.slice Ao25 t422.length co25) t422) ∧ Aside0 (wc.heap[gb406]? = some (.cells #[.int .i64 t407, .int .i64 t408, (.slice Ao16 t409.length co16)] 46 (0, 0))) ∧ Aside0 (wc.heap[gb426]? = some (.cells #[.int .i64 t420, .int .i64 t421, (.slice Ao25 t422.length co25)] 46 (0, 0))) ∧ Aside0 (Below w.heap.size w wc))
       case first =>
        have H := HC48.out
        clear HC48
        by_cases c49 : x83_43 = true
        ·subst c49
         have H1 : (if t419 = 8 then (if (t416.length : Int) = 0 then (tillerlaw04_MatRows.j2 kj43 t412 t427 t430 t407 t408 t409 t420 t421 t422) else (some false)) else (some false)) = some r := by rw [if_pos rfl] at H; exact H
         clear H
         have H := H1
         clear H1
         by_cases c50 : t419 = 8
         ·rw [if_pos c50] at H
          have c50b0 : (t419 == 8) = true := beq_iff_eq.mpr c50
          have c50b1 : (t419 != 8) = false := bne_eq_false_iff_eq.mpr c50
          clear c50
          (first | rw [c50b0] | (simp only [i64_w, i32_w]; rw [c50b0]) | skip)
          by_cases c51 : (t416.length : Int) = 0
          ·rw [if_pos c51] at H
           have c51b0 : ((t416.length : Int) == 0) = true := beq_iff_eq.mpr c51
           have c51b1 : ((t416.length : Int) != 0) = false := bne_eq_false_iff_eq.mpr c51
           clear c51
           have H' := Aside0.mk H
           clear H
           obtain ⟨Ao52, co52, eo52⟩ := Kd.R_slice HO_8.out
           subst eo52
           go_wp2
           go_meet
           case rel => exact ⟨_, H', ⟨by have := HJ9.out; have := HJ43.out; first | omega | exact Nat.le_refl _⟩, ⟨by (with_reducible repeat (first | apply Kd.R_alloc | apply Kd.R_drewN | apply Kd.R_drew)); exact Kd.R_mono HO_2.out (fun _ hk => ⟨hk.2.1, ⟨hk.2.2.1, hk.2.2.2⟩⟩)⟩, ⟨by (with_reducible repeat (first | apply Kd.R_alloc | apply Kd.R_drewN | apply Kd.R_drew)); exact Kd.R_mono HO_12.out (fun _ hk => ⟨hk.1, ⟨hk.2.2.1, hk.2.2.2⟩⟩)⟩, ⟨by (with_reducible repeat (first | apply Kd.R_alloc | apply Kd.R_drewN | apply Kd.R_drew)); exact Kd.R_mono HO_407002.out (fun _ hk => ⟨hk.1, ⟨hk.2.2.1, hk.2.2.2⟩⟩)⟩, ⟨by (with_reducible repeat (first | apply Kd.R_alloc | apply Kd.R_drewN | apply Kd.R_drew)); exact Kd.R_mono HO_427002.out (fun _ hk => ⟨hk.1, ⟨hk.2.2.1, hk.2.2.2⟩⟩)⟩, ⟨by (with_reducible repeat (first | refine blk_drewN ?_ _ | refine blk_drew ?_ | refine blk_alloc ?_ _)); exact BK406.out⟩, ⟨by (with_reducible repeat (first | refine blk_drewN ?_ _ | refine blk_drew ?_ | refine blk_alloc ?_ _)); exact BK426.out⟩, ⟨by repeat (first | (with_reducible first | exact HB.out | apply below_alloc | apply pw_below_drewN | apply below_drew1 | refine below_set ?_ GE406.out | refine below_set ?_ GE426.out) | exact HB.out)⟩⟩
          ·rw [if_neg c51] at H
           exact absurd (Option.some.inj H) (by rw [hr_.out]; decide)
         ·rw [if_neg c50] at H
          exact absurd (Option.some.inj H) (by rw [hr_.out]; decide)
        ·replace c49 := Bool.eq_false_iff.mpr c49
         subst c49
         have H1 : (if t419 = 0 then ((tillerref04_Row.f kj43 t407 t408 t409 a1).bind fun t434 => ((tillerref03_Same.f kj43 t416 t434).bind fun t437 => (if t437 = true then (tillerlaw04_MatRows.j2 kj43 t412 t427 t430 t407 t408 t409 t420 t421 t422) else (some false)))) else (some false)) = some r := by rw [if_neg (show ¬ (false = true) by decide)] at H; exact H
         clear H
         have H := H1
         clear H1
         by_cases c53 : t419 = 0
         ·rw [if_pos c53] at H
          have c53b0 : (t419 == 0) = true := beq_iff_eq.mpr c53
          have c53b1 : (t419 != 0) = false := bne_eq_false_iff_eq.mpr c53
          clear c53
          replace H := Option.bind_eq_some_iff.mp H
          obtain ⟨t434, A540, H⟩ := H
          replace H : ((tillerref03_Same.f kj43 t416 t434).bind fun t437 => (if t437 = true then (tillerlaw04_MatRows.j2 kj43 t412 t427 t430 t407 t408 t409 t420 t421 t422) else (some false))) = some r := H
          have A54 := Aside0.mk A540
          clear A540
          replace H := Option.bind_eq_some_iff.mp H
          obtain ⟨t437, A550, H⟩ := H
          replace H : (if t437 = true then (tillerlaw04_MatRows.j2 kj43 t412 t427 t430 t407 t408 t409 t420 t421 t422) else (some false)) = some r := H
          have A55 := Aside0.mk A550
          clear A550
          by_cases c56 : t437 = true
          ·subst c56
           have H1 : (tillerlaw04_MatRows.j2 kj43 t412 t427 t430 t407 t408 t409 t420 t421 t422) = some r := by rw [if_pos rfl] at H; exact H
           clear H
           have H := H1
           clear H1
           have H' := Aside0.mk H
           clear H
           have hnb57 := NB406_426.out
           have hnc57 := NB426_406.out
           have hcz58_0 : wc.cell? ⟨gb406, 0, none⟩ = some (.int .i64 t407) := (blk_cell BK406.out 0).trans rfl
           have hcz58_1 : wc.cell? ⟨gb406, 1, none⟩ = some (.int .i64 t408) := (blk_cell BK406.out 1).trans rfl
           have hcz58_2 : wc.cell? ⟨gb406, 2, none⟩ = some (.slice Ao16 t409.length co16) := (blk_cell BK406.out 2).trans rfl
           have hfz58_0 := blk_frozen BK406.out 0
           have hfz58_1 := blk_frozen BK406.out 1
           have hfz58_2 := blk_frozen BK406.out 2
           go_wp2_with (first | (go_at_call 37; (with_reducible refine (tillerref04_Row.calls kj43 t407 t408 _ _ t409 a1 t434 _ ?side1 ?side2 A54.out).mono ?_); (case side1 => repeat (first | exact (Kd.R_reads' HO_407002.out).2.2 | (with_reducible refine Kd.C_alloc ?_ _) | (with_reducible refine Kd.C_drewN ?_ _) | (with_reducible refine Kd.C_drew ?_))); (case side2 => exact (Kd.R_reads' HO_407002.out).2.1); rintro e w59 ⟨v435, rfl, ho0, hb⟩; have n0_ := Aside0.mk (Kd.R_elder' (by (with_reducible repeat (first | apply Kd.R_alloc | apply Kd.R_drewN | apply Kd.R_drew)); exact HO_2.out) (Kd.R_base ho0) hb); have n1_ := Aside0.mk (Kd.R_elder' (by (with_reducible repeat (first | apply Kd.R_alloc | apply Kd.R_drewN | apply Kd.R_drew)); exact HO_8.out) (Kd.R_base ho0) hb); have n2_ := Aside0.mk (Kd.R_elder' (by (with_reducible repeat (first | apply Kd.R_alloc | apply Kd.R_drewN | apply Kd.R_drew)); exact HO_12.out) (Kd.R_base ho0) hb); have n3_ := Aside0.mk (Kd.R_elder' (by (with_reducible repeat (first | apply Kd.R_alloc | apply Kd.R_drewN | apply Kd.R_drew)); exact HO_407002.out) (Kd.R_base ho0) hb); have n4_ := Aside0.mk (Kd.R_elder' (by (with_reducible repeat (first | apply Kd.R_alloc | apply Kd.R_drewN | apply Kd.R_drew)); exact HO_427002.out) (Kd.R_base ho0) hb); have n5_ := Aside0.mk (Kd.R_lower (Kd.R_new' (Kd.R_new' (Kd.R_new' (Kd.R_new' (Kd.R_new' ho0 (Kd.R_lt (by (with_reducible repeat (first | apply Kd.R_alloc | apply Kd.R_drewN | apply Kd.R_drew)); exact HO_2.out))) (Kd.R_lt (by (with_reducible repeat (first | apply Kd.R_alloc | apply Kd.R_drewN | apply Kd.R_drew)); exact HO_8.out))) (Kd.R_lt (by (with_reducible repeat (first | apply Kd.R_alloc | apply Kd.R_drewN | apply Kd.R_drew)); exact HO_12.out))) (Kd.R_lt (by (with_reducible repeat (first | apply Kd.R_alloc | apply Kd.R_drewN | apply Kd.R_drew)); exact HO_407002.out))) (Kd.R_lt (by (with_reducible repeat (first | apply Kd.R_alloc | apply Kd.R_drewN | apply Kd.R_drew)); exact HO_427002.out))) (below_size (by repeat (first | (with_reducible first | exact HB.out | apply below_alloc | apply pw_below_drewN | apply below_drew1 | refine below_set ?_ GE406.out | refine below_set ?_ GE426.out) | exact HB.out)))); have n6_ := Aside0.mk (blk_below (g := gb406) (o := .cells #[.int .i64 t407, .int .i64 t408, .slice Ao16 t409.length co16] 46 (0, 0)) (by (with_reducible repeat (first | refine blk_drewN ?_ _ | refine blk_drew ?_ | refine blk_alloc ?_ _)); exact BK406.out) hb); have n7_ := Aside0.mk (blk_below (g := gb426) (o := .cells #[.int .i64 t420, .int .i64 t421, .slice Ao25 t422.length co25] 46 (0, 0)) (by (with_reducible repeat (first | refine blk_drewN ?_ _ | refine blk_drew ?_ | refine blk_alloc ?_ _)); exact BK426.out) hb); have n8_ := Aside0.mk (below_step (by repeat (first | (with_reducible first | exact HB.out | apply below_alloc | apply pw_below_drewN | apply below_drew1 | refine below_set ?_ GE406.out | refine below_set ?_ GE426.out) | exact HB.out)) hb); clear HO_2; clear HO_8; clear HO_12; clear HO_407002; clear HO_427002; clear BK406; clear BK426; clear HB; have HO_2 := n0_; have HO_8 := n1_; have HO_12 := n2_; have HO_407002 := n3_; have HO_427002 := n4_; have HO436 := n5_; have BK406 := n6_; have BK426 := n7_; have HB := n8_; clear n0_ n1_ n2_ n3_ n4_ n5_ n6_ n7_ n8_; (try clear hb); (try clear hb2); (try clear hk); (try clear hi); (try clear ho0); obtain ⟨Ao60, co60, eo60⟩ := Kd.R_slice HO_8.out; subst eo60; obtain ⟨Ao61, co61, eo61⟩ := Kd.R_slice HO436.out; subst eo61) | (go_at_call 28; (with_reducible refine (tillerref03_Same.calls kj43 _ _ t416 _ _ t434 true _ ?side1 ?side2 ?side3 ?side4 A55.out).mono ?_); (case side1 => repeat (first | exact (Kd.R_reads' HO_8.out).2.2 | (with_reducible refine Kd.C_alloc ?_ _) | (with_reducible refine Kd.C_drewN ?_ _) | (with_reducible refine Kd.C_drew ?_))); (case side2 => exact (Kd.R_reads' HO_8.out).2.1); (case side3 => repeat (first | exact (Kd.R_reads' HO436.out).2.2 | (with_reducible refine Kd.C_alloc ?_ _) | (with_reducible refine Kd.C_drewN ?_ _) | (with_reducible refine Kd.C_drew ?_))); (case side4 => exact (Kd.R_reads' HO436.out).2.1); rintro e w' ⟨rfl, ⟨nd, rfl⟩⟩))
           go_meet
           case rel => exact ⟨_, H', ⟨by have := HJ9.out; have := HJ43.out; first | omega | exact Nat.le_refl _⟩, ⟨by (with_reducible repeat (first | apply Kd.R_alloc | apply Kd.R_drewN | apply Kd.R_drew)); exact Kd.R_mono HO_2.out (fun _ hk => ⟨hk.1.2.1, ⟨hk.1.2.2.1, hk.1.2.2.2⟩⟩)⟩, ⟨by (with_reducible repeat (first | apply Kd.R_alloc | apply Kd.R_drewN | apply Kd.R_drew)); exact Kd.R_mono HO_12.out (fun _ hk => ⟨hk.1.1, ⟨hk.1.2.2.1, hk.1.2.2.2⟩⟩)⟩, ⟨by (with_reducible repeat (first | apply Kd.R_alloc | apply Kd.R_drewN | apply Kd.R_drew)); exact Kd.R_mono HO_407002.out (fun _ hk => ⟨hk.1.1, ⟨hk.1.2.2.1, hk.1.2.2.2⟩⟩)⟩, ⟨by (with_reducible repeat (first | apply Kd.R_alloc | apply Kd.R_drewN | apply Kd.R_drew)); exact Kd.R_mono HO_427002.out (fun _ hk => ⟨hk.1.1, ⟨hk.1.2.2.1, hk.1.2.2.2⟩⟩)⟩, ⟨by (with_reducible repeat (first | refine blk_drewN ?_ _ | refine blk_drew ?_ | refine blk_alloc ?_ _)); exact BK406.out⟩, ⟨by (with_reducible repeat (first | refine blk_drewN ?_ _ | refine blk_drew ?_ | refine blk_alloc ?_ _)); exact BK426.out⟩, ⟨by repeat (first | (with_reducible first | exact HB.out | apply below_alloc | apply pw_below_drewN | apply below_drew1 | refine below_set ?_ GE406.out | refine below_set ?_ GE426.out) | exact HB.out)⟩⟩
          ·replace c56 := Bool.eq_false_iff.mpr c56
           subst c56
           have H1 : (some false) = some r := by rw [if_neg (show ¬ (false = true) by decide)] at H; exact H
           clear H
           have H := H1
           clear H1
           exact absurd (Option.some.inj H) (by rw [hr_.out]; decide)
         ·rw [if_neg c53] at H
          exact absurd (Option.some.inj H) (by rw [hr_.out]; decide)
       case rest =>
        clear HC48
        try clear c1
        try clear c2
        try clear p2
        try clear c3
        try clear c4
        try clear c5
        try clear c8
        try clear c13
        try clear c23
        try clear c29
        try clear c30
        try clear c31
        try clear c32
        try clear c32b0
        try clear c32b1
        try clear c33
        try clear c34
        try clear c38
        try clear c42
        try clear c43
        try clear c43b0
        try clear c43b1
        try clear c45
        try clear c45b0
        try clear c46
        try clear c49
        try clear c50
        try clear c50b0
        try clear c50b1
        try clear c51
        try clear c51b0
        try clear c51b1
        try clear c53
        try clear c53b0
        try clear c53b1
        try clear c56
        try clear c57
        try clear hcz12_0
        try clear hcz12_1
        try clear hcz12_2
        try clear hcz15_0
        try clear hcz15_1
        try clear hcz15_2
        try clear hcz18_0
        try clear hcz18_1
        try clear hcz18_2
        try clear hcz20_0
        try clear hcz20_1
        try clear hcz20_2
        try clear hcz24_0
        try clear hcz24_1
        try clear hcz24_2
        try clear hcz26_0
        try clear hcz26_1
        try clear hcz26_2
        try clear hcz35_0
        try clear hcz35_1
        try clear hcz35_2
        try clear hcz39_0
        try clear hcz39_1
        try clear hcz39_2
        try clear hcz47_0
        try clear hcz47_1
        try clear hcz47_2
        try clear hcz58_0
        try clear hcz58_1
        try clear hcz58_2
        try clear hfz12_0
        try clear hfz12_1
        try clear hfz12_2
        try clear hfz15_0
        try clear hfz15_1
        try clear hfz15_2
        try clear hfz18_0
        try clear hfz18_1
        try clear hfz18_2
        try clear hfz20_0
        try clear hfz20_1
        try clear hfz20_2
        try clear hfz24_0
        try clear hfz24_1
        try clear hfz24_2
        try clear hfz26_0
        try clear hfz26_1
        try clear hfz26_2
        try clear hfz35_0
        try clear hfz35_1
        try clear hfz35_2
        try clear hfz39_0
        try clear hfz39_1
        try clear hfz39_2
        try clear hfz47_0
        try clear hfz47_1
        try clear hfz47_2
        try clear hfz58_0
        try clear hfz58_1
        try clear hfz58_2
        try clear p2
        obtain ⟨kq, HA, HJ47, HO_2, HO_12, HO_407002, HO_427002, BK406, BK426, HB⟩ := hcut
        cases kq with
        | zero => exact absurd HA.out (by simp [tillerlaw04_MatRows.j2])
        | succ kj47 =>
         have H := HA.out
         clear HA
         simp only [tillerlaw04_MatRows.j2] at H
         have HC62 := Aside0.mk H
         clear H
         have hnb63 := NB406_426.out
         have hnc63 := NB426_406.out
         have hcz64_0 : wc.cell? ⟨gb406, 0, none⟩ = some (.int .i64 t407) := (blk_cell BK406.out 0).trans rfl
         have hcz64_1 : wc.cell? ⟨gb406, 1, none⟩ = some (.int .i64 t408) := (blk_cell BK406.out 1).trans rfl
         have hcz64_2 : wc.cell? ⟨gb406, 2, none⟩ = some (.slice Ao16 t409.length co16) := (blk_cell BK406.out 2).trans rfl
         have hfz64_0 := blk_frozen BK406.out 0
         have hfz64_1 := blk_frozen BK406.out 1
         have hfz64_2 := blk_frozen BK406.out 2
         go_upto_if 105 with (fail)
         go_cut [] (fun wc => ∃ (kq : Nat), Aside0 (tillerlaw04_MatRows.j3 kq t407 t408 t409 t420 t421 t422 = some r) ∧ Aside0 (kq ≤ kj47) ∧ Aside0 (Kd.R (Kd.int .i32) 24 wc w.heap.size (fun k_ => some k_ ≠ ((.slice Ao25 t422.length co25) : Value).ownBlock) (.slice Ao16 t409.length co16) t409) ∧ Aside0 (Kd.R (Kd.int .i32) 24 wc w.heap.size (fun k_ => some k_ ≠ ((.slice Ao16 t409.length co16) : Value).ownBlock) (.slice Ao25 t422.length co25) t422) ∧ Aside0 (wc.heap[gb406]? = some (.cells #[.int .i64 t407, .int .i64 t408, (.slice Ao16 t409.length co16)] 46 (0, 0))) ∧ Aside0 (wc.heap[gb426]? = some (.cells #[.int .i64 t420, .int .i64 t421, (.slice Ao25 t422.length co25)] 46 (0, 0))) ∧ Aside0 (Below w.heap.size w wc))
         case first =>
          have H := HC62.out
          clear HC62
          by_cases c65 : (t412.length : Int) = t408
          ·rw [if_pos c65] at H
           have c65b0 : ((t412.length : Int) == t408) = true := beq_iff_eq.mpr c65
           have c65b1 : ((t412.length : Int) != t408) = false := bne_eq_false_iff_eq.mpr c65
           clear c65
           (first | rw [c65b0] | (simp only [i64_w, i32_w]; rw [c65b0]) | skip)
           by_cases c66 : t430 = 0
           ·rw [if_pos c66] at H
            have c66b0 : (t430 == 0) = true := beq_iff_eq.mpr c66
            have c66b1 : (t430 != 0) = false := bne_eq_false_iff_eq.mpr c66
            clear c66
            replace H := Option.bind_eq_some_iff.mp H
            obtain ⟨t438, A670, H⟩ := H
            replace H : ((tillerref03_Same.f kj47 t427 t438).bind fun t441 => (if t441 = true then (tillerlaw04_MatRows.j3 kj47 t407 t408 t409 t420 t421 t422) else (some false))) = some r := H
            have A67 := Aside0.mk A670
            clear A670
            replace H := Option.bind_eq_some_iff.mp H
            obtain ⟨t441, A680, H⟩ := H
            replace H : (if t441 = true then (tillerlaw04_MatRows.j3 kj47 t407 t408 t409 t420 t421 t422) else (some false)) = some r := H
            have A68 := Aside0.mk A680
            clear A680
            by_cases c69 : t441 = true
            ·subst c69
             have H1 : (tillerlaw04_MatRows.j3 kj47 t407 t408 t409 t420 t421 t422) = some r := by rw [if_pos rfl] at H; exact H
             clear H
             have H := H1
             clear H1
             have H' := Aside0.mk H
             clear H
             have hnb70 := NB406_426.out
             have hnc70 := NB426_406.out
             have hcz71_0 : wc.cell? ⟨gb406, 0, none⟩ = some (.int .i64 t407) := (blk_cell BK406.out 0).trans rfl
             have hcz71_1 : wc.cell? ⟨gb406, 1, none⟩ = some (.int .i64 t408) := (blk_cell BK406.out 1).trans rfl
             have hcz71_2 : wc.cell? ⟨gb406, 2, none⟩ = some (.slice Ao16 t409.length co16) := (blk_cell BK406.out 2).trans rfl
             have hfz71_0 := blk_frozen BK406.out 0
             have hfz71_1 := blk_frozen BK406.out 1
             have hfz71_2 := blk_frozen BK406.out 2
             go_wp2_with (first | (go_at_call 38; (with_reducible refine (tillerref04_Apply.calls kj47 t407 t408 _ _ t409 _ _ t412 t438 _ ?side1 ?side2 ?side3 ?side4 A67.out).mono ?_); (case side1 => repeat (first | exact (Kd.R_reads' HO_407002.out).2.2 | (with_reducible refine Kd.C_alloc ?_ _) | (with_reducible refine Kd.C_drewN ?_ _) | (with_reducible refine Kd.C_drew ?_))); (case side2 => exact (Kd.R_reads' HO_407002.out).2.1); (case side3 => repeat (first | exact (Kd.R_reads' HO_2.out).2.2 | (with_reducible refine Kd.C_alloc ?_ _) | (with_reducible refine Kd.C_drewN ?_ _) | (with_reducible refine Kd.C_drew ?_))); (case side4 => exact (Kd.R_reads' HO_2.out).2.1); rintro e w72 ⟨v439, rfl, ho0, hb⟩; have n0_ := Aside0.mk (Kd.R_elder' (by (with_reducible repeat (first | apply Kd.R_alloc | apply Kd.R_drewN | apply Kd.R_drew)); exact HO_2.out) (Kd.R_base ho0) hb); have n1_ := Aside0.mk (Kd.R_elder' (by (with_reducible repeat (first | apply Kd.R_alloc | apply Kd.R_drewN | apply Kd.R_drew)); exact HO_12.out) (Kd.R_base ho0) hb); have n2_ := Aside0.mk (Kd.R_elder' (by (with_reducible repeat (first | apply Kd.R_alloc | apply Kd.R_drewN | apply Kd.R_drew)); exact HO_407002.out) (Kd.R_base ho0) hb); have n3_ := Aside0.mk (Kd.R_elder' (by (with_reducible repeat (first | apply Kd.R_alloc | apply Kd.R_drewN | apply Kd.R_drew)); exact HO_427002.out) (Kd.R_base ho0) hb); have n4_ := Aside0.mk (Kd.R_lower (Kd.R_new' (Kd.R_new' (Kd.R_new' (Kd.R_new' ho0 (Kd.R_lt (by (with_reducible repeat (first | apply Kd.R_alloc | apply Kd.R_drewN | apply Kd.R_drew)); exact HO_2.out))) (Kd.R_lt (by (with_reducible repeat (first | apply Kd.R_alloc | apply Kd.R_drewN | apply Kd.R_drew)); exact HO_12.out))) (Kd.R_lt (by (with_reducible repeat (first | apply Kd.R_alloc | apply Kd.R_drewN | apply Kd.R_drew)); exact HO_407002.out))) (Kd.R_lt (by (with_reducible repeat (first | apply Kd.R_alloc | apply Kd.R_drewN | apply Kd.R_drew)); exact HO_427002.out))) (below_size (by repeat (first | (with_reducible first | exact HB.out | apply below_alloc | apply pw_below_drewN | apply below_drew1 | refine below_set ?_ GE406.out | refine below_set ?_ GE426.out) | exact HB.out)))); have n5_ := Aside0.mk (blk_below (g := gb406) (o := .cells #[.int .i64 t407, .int .i64 t408, .slice Ao16 t409.length co16] 46 (0, 0)) (by (with_reducible repeat (first | refine blk_drewN ?_ _ | refine blk_drew ?_ | refine blk_alloc ?_ _)); exact BK406.out) hb); have n6_ := Aside0.mk (blk_below (g := gb426) (o := .cells #[.int .i64 t420, .int .i64 t421, .slice Ao25 t422.length co25] 46 (0, 0)) (by (with_reducible repeat (first | refine blk_drewN ?_ _ | refine blk_drew ?_ | refine blk_alloc ?_ _)); exact BK426.out) hb); have n7_ := Aside0.mk (below_step (by repeat (first | (with_reducible first | exact HB.out | apply below_alloc | apply pw_below_drewN | apply below_drew1 | refine below_set ?_ GE406.out | refine below_set ?_ GE426.out) | exact HB.out)) hb); clear HO_2; clear HO_12; clear HO_407002; clear HO_427002; clear BK406; clear BK426; clear HB; have HO_2 := n0_; have HO_12 := n1_; have HO_407002 := n2_; have HO_427002 := n3_; have HO440 := n4_; have BK406 := n5_; have BK426 := n6_; have HB := n7_; clear n0_ n1_ n2_ n3_ n4_ n5_ n6_ n7_; (try clear hb); (try clear hb2); (try clear hk); (try clear hi); (try clear ho0); obtain ⟨Ao73, co73, eo73⟩ := Kd.R_slice HO_12.out; subst eo73; obtain ⟨Ao74, co74, eo74⟩ := Kd.R_slice HO440.out; subst eo74) | (go_at_call 28; (with_reducible refine (tillerref03_Same.calls kj47 _ _ t427 _ _ t438 true _ ?side1 ?side2 ?side3 ?side4 A68.out).mono ?_); (case side1 => repeat (first | exact (Kd.R_reads' HO_12.out).2.2 | (with_reducible refine Kd.C_alloc ?_ _) | (with_reducible refine Kd.C_drewN ?_ _) | (with_reducible refine Kd.C_drew ?_))); (case side2 => exact (Kd.R_reads' HO_12.out).2.1); (case side3 => repeat (first | exact (Kd.R_reads' HO440.out).2.2 | (with_reducible refine Kd.C_alloc ?_ _) | (with_reducible refine Kd.C_drewN ?_ _) | (with_reducible refine Kd.C_drew ?_))); (case side4 => exact (Kd.R_reads' HO440.out).2.1); rintro e w' ⟨rfl, ⟨nd, rfl⟩⟩))
             go_meet
             case rel => exact ⟨_, H', ⟨by have := HJ9.out; have := HJ43.out; have := HJ47.out; first | omega | exact Nat.le_refl _⟩, ⟨by (with_reducible repeat (first | apply Kd.R_alloc | apply Kd.R_drewN | apply Kd.R_drew)); exact Kd.R_mono HO_407002.out (fun _ hk => hk.1.2.2)⟩, ⟨by (with_reducible repeat (first | apply Kd.R_alloc | apply Kd.R_drewN | apply Kd.R_drew)); exact Kd.R_mono HO_427002.out (fun _ hk => hk.1.2.2)⟩, ⟨by (with_reducible repeat (first | refine blk_drewN ?_ _ | refine blk_drew ?_ | refine blk_alloc ?_ _)); exact BK406.out⟩, ⟨by (with_reducible repeat (first | refine blk_drewN ?_ _ | refine blk_drew ?_ | refine blk_alloc ?_ _)); exact BK426.out⟩, ⟨by repeat (first | (with_reducible first | exact HB.out | apply below_alloc | apply pw_below_drewN | apply below_drew1 | refine below_set ?_ GE406.out | refine below_set ?_ GE426.out) | exact HB.out)⟩⟩
            ·replace c69 := Bool.eq_false_iff.mpr c69
             subst c69
             have H1 : (some false) = some r := by rw [if_neg (show ¬ (false = true) by decide)] at H; exact H
             clear H
             have H := H1
             clear H1
             exact absurd (Option.some.inj H) (by rw [hr_.out]; decide)
           ·rw [if_neg c66] at H
            exact absurd (Option.some.inj H) (by rw [hr_.out]; decide)
          ·rw [if_neg c65] at H
           have c65b0 : ((t412.length : Int) == t408) = false := beq_eq_false_iff_ne.mpr c65
           have c65b1 : ((t412.length : Int) != t408) = true := bne_iff_ne.mpr c65
           (first | rw [c65b0] | (simp only [i64_w, i32_w]; rw [c65b0]) | skip)
           by_cases c75 : t430 = 6
           ·rw [if_pos c75] at H
            have c75b0 : (t430 == 6) = true := beq_iff_eq.mpr c75
            have c75b1 : (t430 != 6) = false := bne_eq_false_iff_eq.mpr c75
            clear c75
            by_cases c76 : (t427.length : Int) = 0
            ·rw [if_pos c76] at H
             have c76b0 : ((t427.length : Int) == 0) = true := beq_iff_eq.mpr c76
             have c76b1 : ((t427.length : Int) != 0) = false := bne_eq_false_iff_eq.mpr c76
             clear c76
             have H' := Aside0.mk H
             clear H
             obtain ⟨Ao77, co77, eo77⟩ := Kd.R_slice HO_12.out
             subst eo77
             go_wp2
             go_meet
             case rel => exact ⟨_, H', ⟨by have := HJ9.out; have := HJ43.out; have := HJ47.out; first | omega | exact Nat.le_refl _⟩, ⟨by (with_reducible repeat (first | apply Kd.R_alloc | apply Kd.R_drewN | apply Kd.R_drew)); exact Kd.R_mono HO_407002.out (fun _ hk => hk.2.2)⟩, ⟨by (with_reducible repeat (first | apply Kd.R_alloc | apply Kd.R_drewN | apply Kd.R_drew)); exact Kd.R_mono HO_427002.out (fun _ hk => hk.2.2)⟩, ⟨by (with_reducible repeat (first | refine blk_drewN ?_ _ | refine blk_drew ?_ | refine blk_alloc ?_ _)); exact BK406.out⟩, ⟨by (with_reducible repeat (first | refine blk_drewN ?_ _ | refine blk_drew ?_ | refine blk_alloc ?_ _)); exact BK426.out⟩, ⟨by repeat (first | (with_reducible first | exact HB.out | apply below_alloc | apply pw_below_drewN | apply below_drew1 | refine below_set ?_ GE406.out | refine below_set ?_ GE426.out) | exact HB.out)⟩⟩
            ·rw [if_neg c76] at H
             exact absurd (Option.some.inj H) (by rw [hr_.out]; decide)
           ·rw [if_neg c75] at H
            exact absurd (Option.some.inj H) (by rw [hr_.out]; decide)
         case rest =>
          clear HC62
          try clear c1
          try clear c2
          try clear p2
          try clear c3
          try clear c4
          try clear c5
          try clear c6
          try clear c7
          try clear c8
          try clear c13
          try clear c23
          try clear c29
          try clear c30
          try clear c31
          try clear c32
          try clear c32b0
          try clear c32b1
          try clear c33
          try clear c34
          try clear c38
          try clear c42
          try clear c43
          try clear c43b0
          try clear c43b1
          try clear c45
          try clear c45b0
          try clear c46
          try clear c49
          try clear c50
          try clear c50b0
          try clear c50b1
          try clear c51
          try clear c51b0
          try clear c51b1
          try clear c53
          try clear c53b0
          try clear c53b1
          try clear c56
          try clear c57
          try clear c63
          try clear c65
          try clear c65b0
          try clear c65b1
          try clear c66
          try clear c66b0
          try clear c66b1
          try clear c69
          try clear c70
          try clear c75
          try clear c75b0
          try clear c75b1
          try clear c76
          try clear c76b0
          try clear c76b1
          try clear hcz12_0
          try clear hcz12_1
          try clear hcz12_2
          try clear hcz15_0
          try clear hcz15_1
          try clear hcz15_2
          try clear hcz18_0
          try clear hcz18_1
          try clear hcz18_2
          try clear hcz20_0
          try clear hcz20_1
          try clear hcz20_2
          try clear hcz24_0
          try clear hcz24_1
          try clear hcz24_2
          try clear hcz26_0
          try clear hcz26_1
          try clear hcz26_2
          try clear hcz35_0
          try clear hcz35_1
          try clear hcz35_2
          try clear hcz39_0
          try clear hcz39_1
          try clear hcz39_2
          try clear hcz47_0
          try clear hcz47_1
          try clear hcz47_2
          try clear hcz58_0
          try clear hcz58_1
          try clear hcz58_2
          try clear hcz64_0
          try clear hcz64_1
          try clear hcz64_2
          try clear hcz71_0
          try clear hcz71_1
          try clear hcz71_2
          try clear hfz12_0
          try clear hfz12_1
          try clear hfz12_2
          try clear hfz15_0
          try clear hfz15_1
          try clear hfz15_2
          try clear hfz18_0
          try clear hfz18_1
          try clear hfz18_2
          try clear hfz20_0
          try clear hfz20_1
          try clear hfz20_2
          try clear hfz24_0
          try clear hfz24_1
          try clear hfz24_2
          try clear hfz26_0
          try clear hfz26_1
          try clear hfz26_2
          try clear hfz35_0
          try clear hfz35_1
          try clear hfz35_2
          try clear hfz39_0
          try clear hfz39_1
          try clear hfz39_2
          try clear hfz47_0
          try clear hfz47_1
          try clear hfz47_2
          try clear hfz58_0
          try clear hfz58_1
          try clear hfz58_2
          try clear hfz64_0
          try clear hfz64_1
          try clear hfz64_2
          try clear hfz71_0
          try clear hfz71_1
          try clear hfz71_2
          try clear p2
          obtain ⟨kq, HA, HJ61, HO_407002, HO_427002, BK406, BK426, HB⟩ := hcut
          cases kq with
          | zero => exact absurd HA.out (by simp [tillerlaw04_MatRows.j3])
          | succ kj61 =>
           have H := HA.out
           clear HA
           simp only [tillerlaw04_MatRows.j3] at H
           have HC78 := Aside0.mk H
           clear H
           go_upto_region 20 with (fail)
           go_cut [139] (fun v139 wc => ∃ (kq : Nat) (x139_77 : Bool), v139 = .bool x139_77 ∧ Aside0 (tillerlaw04_MatRows.j4 kq x139_77 t407 t408 t409 t420 t421 t422 = some r) ∧ Aside0 (kq ≤ kj61) ∧ Aside0 (Kd.R (Kd.int .i32) 24 wc w.heap.size (fun k_ => some k_ ≠ ((.slice Ao25 t422.length co25) : Value).ownBlock) (.slice Ao16 t409.length co16) t409) ∧ Aside0 (Kd.R (Kd.int .i32) 24 wc w.heap.size (fun k_ => some k_ ≠ ((.slice Ao16 t409.length co16) : Value).ownBlock) (.slice Ao25 t422.length co25) t422) ∧ Aside0 (wc.heap[gb406]? = some (.cells #[.int .i64 t407, .int .i64 t408, (.slice Ao16 t409.length co16)] 46 (0, 0))) ∧ Aside0 (wc.heap[gb426]? = some (.cells #[.int .i64 t420, .int .i64 t421, (.slice Ao25 t422.length co25)] 46 (0, 0))) ∧ Aside0 (Below w.heap.size w wc))
           case first =>
            have H := HC78.out
            clear HC78
            replace H := Option.bind_eq_some_iff.mp H
            obtain ⟨t442, A790, H⟩ := H
            replace H : (if t442 = 0 then (if t420 = t408 then (tillerlaw04_MatRows.j4 kj61 (t421 != t407) t407 t408 t409 t420 t421 t422) else (tillerlaw04_MatRows.j4 kj61 true t407 t408 t409 t420 t421 t422)) else (tillerlaw04_MatRows.j4 kj61 true t407 t408 t409 t420 t421 t422)) = some r := H
            have A79 := Aside0.mk A790
            clear A790
            by_cases c80 : t442 = 0
            ·rw [if_pos c80] at H
             have c80b0 : (t442 == 0) = true := beq_iff_eq.mpr c80
             have c80b1 : (t442 != 0) = false := bne_eq_false_iff_eq.mpr c80
             clear c80
             (first | rw [c80b0] | (simp only [i64_w, i32_w]; rw [c80b0]) | skip)
             by_cases c81 : t420 = t408
             ·rw [if_pos c81] at H
              have c81b0 : (t420 == t408) = true := beq_iff_eq.mpr c81
              have c81b1 : (t420 != t408) = false := bne_eq_false_iff_eq.mpr c81
              clear c81
              have H' := Aside0.mk H
              clear H
              have hnb82 := NB426_406.out
              have hnc82 := NB406_426.out
              have hcz83_0 : wc.cell? ⟨gb426, 0, none⟩ = some (.int .i64 t420) := (blk_cell BK426.out 0).trans rfl
              have hcz83_1 : wc.cell? ⟨gb426, 1, none⟩ = some (.int .i64 t421) := (blk_cell BK426.out 1).trans rfl
              have hcz83_2 : wc.cell? ⟨gb426, 2, none⟩ = some (.slice Ao25 t422.length co25) := (blk_cell BK426.out 2).trans rfl
              have hfz83_0 := blk_frozen BK426.out 0
              have hfz83_1 := blk_frozen BK426.out 1
              have hfz83_2 := blk_frozen BK426.out 2
              go_wp2_with (first | ((with_reducible refine gate_callee (f := 30) rfl ?_); refine goesL_ (some 124) rfl rfl Try.func30 (by kernel_rfl) rfl #[.agg #[.int .i64 t420, .int .i64 t421, .slice Ao25 t422.length co25]] rfl (by (try simp only [List.map_toArray, List.map_cons, List.map_nil]); first | done | rfl | (simp only [List.length_drop, List.length_take]; rfl)) ?_; (with_reducible refine (tillerref04_Check.calls kj61 t420 t421 _ _ t422 t442 _ ?side1 ?side2 A79.out).mono ?_); (case side1 => repeat (first | exact (Kd.R_reads' HO_427002.out).2.2 | (with_reducible refine Kd.C_alloc ?_ _) | (with_reducible refine Kd.C_drewN ?_ _) | (with_reducible refine Kd.C_drew ?_))); (case side2 => exact (Kd.R_reads' HO_427002.out).2.1); rintro e w84 ⟨rfl, hb⟩; refine ⟨_, rfl, ?_⟩; have n0_ := Aside0.mk (Kd.R_below (by (with_reducible repeat (first | apply Kd.R_alloc | apply Kd.R_drewN | apply Kd.R_drew)); exact HO_407002.out) hb); have n1_ := Aside0.mk (Kd.R_below (by (with_reducible repeat (first | apply Kd.R_alloc | apply Kd.R_drewN | apply Kd.R_drew)); exact HO_427002.out) hb); have n2_ := Aside0.mk (blk_below (g := gb406) (o := .cells #[.int .i64 t407, .int .i64 t408, .slice Ao16 t409.length co16] 46 (0, 0)) (by (with_reducible repeat (first | refine blk_drewN ?_ _ | refine blk_drew ?_ | refine blk_alloc ?_ _)); exact BK406.out) hb); have n3_ := Aside0.mk (blk_below (g := gb426) (o := .cells #[.int .i64 t420, .int .i64 t421, .slice Ao25 t422.length co25] 46 (0, 0)) (by (with_reducible repeat (first | refine blk_drewN ?_ _ | refine blk_drew ?_ | refine blk_alloc ?_ _)); exact BK426.out) hb); have n4_ := Aside0.mk (below_step (by repeat (first | (with_reducible first | exact HB.out | apply below_alloc | apply pw_below_drewN | apply below_drew1 | refine below_set ?_ GE406.out | refine below_set ?_ GE426.out) | exact HB.out)) hb); clear HO_407002; clear HO_427002; clear BK406; clear BK426; clear HB; have HO_407002 := n0_; have HO_427002 := n1_; have BK406 := n2_; have BK426 := n3_; have HB := n4_; clear n0_ n1_ n2_ n3_ n4_; (try clear hb); (try clear hb2); (try clear hk); (try clear hi); have hcz85_0 : w84.cell? ⟨gb426, 0, none⟩ = some (.int .i64 t420) := (blk_cell BK426.out 0).trans rfl; have hcz85_1 : w84.cell? ⟨gb426, 1, none⟩ = some (.int .i64 t421) := (blk_cell BK426.out 1).trans rfl; have hcz85_2 : w84.cell? ⟨gb426, 2, none⟩ = some (.slice Ao25 t422.length co25) := (blk_cell BK426.out 2).trans rfl; have hfz85_0 := blk_frozen BK426.out 0; have hfz85_1 := blk_frozen BK426.out 1; have hfz85_2 := blk_frozen BK426.out 2; have hcz86_0 : w84.cell? ⟨gb406, 0, none⟩ = some (.int .i64 t407) := (blk_cell BK406.out 0).trans rfl; have hcz86_1 : w84.cell? ⟨gb406, 1, none⟩ = some (.int .i64 t408) := (blk_cell BK406.out 1).trans rfl; have hcz86_2 : w84.cell? ⟨gb406, 2, none⟩ = some (.slice Ao16 t409.length co16) := (blk_cell BK406.out 2).trans rfl; have hfz86_0 := blk_frozen BK406.out 0; have hfz86_1 := blk_frozen BK406.out 1; have hfz86_2 := blk_frozen BK406.out 2))
              go_meet
              case rel => exact ⟨_, ((t421 != t407)), (by first | rfl | (simp; done) | (simp [*]; done)), H', ⟨by have := HJ9.out; have := HJ43.out; have := HJ47.out; have := HJ61.out; first | omega | exact Nat.le_refl _⟩, ⟨by (with_reducible repeat (first | apply Kd.R_alloc | apply Kd.R_drewN | apply Kd.R_drew)); exact HO_407002.out⟩, ⟨by (with_reducible repeat (first | apply Kd.R_alloc | apply Kd.R_drewN | apply Kd.R_drew)); exact HO_427002.out⟩, ⟨by (with_reducible repeat (first | refine blk_drewN ?_ _ | refine blk_drew ?_ | refine blk_alloc ?_ _)); exact BK406.out⟩, ⟨by (with_reducible repeat (first | refine blk_drewN ?_ _ | refine blk_drew ?_ | refine blk_alloc ?_ _)); exact BK426.out⟩, ⟨by repeat (first | (with_reducible first | exact HB.out | apply below_alloc | apply pw_below_drewN | apply below_drew1 | refine below_set ?_ GE406.out | refine below_set ?_ GE426.out) | exact HB.out)⟩⟩
             ·rw [if_neg c81] at H
              have c81b0 : (t420 == t408) = false := beq_eq_false_iff_ne.mpr c81
              have c81b1 : (t420 != t408) = true := bne_iff_ne.mpr c81
              have H' := Aside0.mk H
              clear H
              have hnb87 := NB426_406.out
              have hnc87 := NB406_426.out
              have hcz88_0 : wc.cell? ⟨gb426, 0, none⟩ = some (.int .i64 t420) := (blk_cell BK426.out 0).trans rfl
              have hcz88_1 : wc.cell? ⟨gb426, 1, none⟩ = some (.int .i64 t421) := (blk_cell BK426.out 1).trans rfl
              have hcz88_2 : wc.cell? ⟨gb426, 2, none⟩ = some (.slice Ao25 t422.length co25) := (blk_cell BK426.out 2).trans rfl
              have hfz88_0 := blk_frozen BK426.out 0
              have hfz88_1 := blk_frozen BK426.out 1
              have hfz88_2 := blk_frozen BK426.out 2
              go_wp2_with (first | ((with_reducible refine gate_callee (f := 30) rfl ?_); refine goesL_ (some 124) rfl rfl Try.func30 (by kernel_rfl) rfl #[.agg #[.int .i64 t420, .int .i64 t421, .slice Ao25 t422.length co25]] rfl (by (try simp only [List.map_toArray, List.map_cons, List.map_nil]); first | done | rfl | (simp only [List.length_drop, List.length_take]; rfl)) ?_; (with_reducible refine (tillerref04_Check.calls kj61 t420 t421 _ _ t422 t442 _ ?side1 ?side2 A79.out).mono ?_); (case side1 => repeat (first | exact (Kd.R_reads' HO_427002.out).2.2 | (with_reducible refine Kd.C_alloc ?_ _) | (with_reducible refine Kd.C_drewN ?_ _) | (with_reducible refine Kd.C_drew ?_))); (case side2 => exact (Kd.R_reads' HO_427002.out).2.1); rintro e w89 ⟨rfl, hb⟩; refine ⟨_, rfl, ?_⟩; have n0_ := Aside0.mk (Kd.R_below (by (with_reducible repeat (first | apply Kd.R_alloc | apply Kd.R_drewN | apply Kd.R_drew)); exact HO_407002.out) hb); have n1_ := Aside0.mk (Kd.R_below (by (with_reducible repeat (first | apply Kd.R_alloc | apply Kd.R_drewN | apply Kd.R_drew)); exact HO_427002.out) hb); have n2_ := Aside0.mk (blk_below (g := gb406) (o := .cells #[.int .i64 t407, .int .i64 t408, .slice Ao16 t409.length co16] 46 (0, 0)) (by (with_reducible repeat (first | refine blk_drewN ?_ _ | refine blk_drew ?_ | refine blk_alloc ?_ _)); exact BK406.out) hb); have n3_ := Aside0.mk (blk_below (g := gb426) (o := .cells #[.int .i64 t420, .int .i64 t421, .slice Ao25 t422.length co25] 46 (0, 0)) (by (with_reducible repeat (first | refine blk_drewN ?_ _ | refine blk_drew ?_ | refine blk_alloc ?_ _)); exact BK426.out) hb); have n4_ := Aside0.mk (below_step (by repeat (first | (with_reducible first | exact HB.out | apply below_alloc | apply pw_below_drewN | apply below_drew1 | refine below_set ?_ GE406.out | refine below_set ?_ GE426.out) | exact HB.out)) hb); clear HO_407002; clear HO_427002; clear BK406; clear BK426; clear HB; have HO_407002 := n0_; have HO_427002 := n1_; have BK406 := n2_; have BK426 := n3_; have HB := n4_; clear n0_ n1_ n2_ n3_ n4_; (try clear hb); (try clear hb2); (try clear hk); (try clear hi); have hcz90_0 : w89.cell? ⟨gb426, 0, none⟩ = some (.int .i64 t420) := (blk_cell BK426.out 0).trans rfl; have hcz90_1 : w89.cell? ⟨gb426, 1, none⟩ = some (.int .i64 t421) := (blk_cell BK426.out 1).trans rfl; have hcz90_2 : w89.cell? ⟨gb426, 2, none⟩ = some (.slice Ao25 t422.length co25) := (blk_cell BK426.out 2).trans rfl; have hfz90_0 := blk_frozen BK426.out 0; have hfz90_1 := blk_frozen BK426.out 1; have hfz90_2 := blk_frozen BK426.out 2; have hcz91_0 : w89.cell? ⟨gb406, 0, none⟩ = some (.int .i64 t407) := (blk_cell BK406.out 0).trans rfl; have hcz91_1 : w89.cell? ⟨gb406, 1, none⟩ = some (.int .i64 t408) := (blk_cell BK406.out 1).trans rfl; have hcz91_2 : w89.cell? ⟨gb406, 2, none⟩ = some (.slice Ao16 t409.length co16) := (blk_cell BK406.out 2).trans rfl; have hfz91_0 := blk_frozen BK406.out 0; have hfz91_1 := blk_frozen BK406.out 1; have hfz91_2 := blk_frozen BK406.out 2))
              go_meet
              case rel => exact ⟨_, (true), (by first | rfl | (simp; done) | (simp [*]; done)), H', ⟨by have := HJ9.out; have := HJ43.out; have := HJ47.out; have := HJ61.out; first | omega | exact Nat.le_refl _⟩, ⟨by (with_reducible repeat (first | apply Kd.R_alloc | apply Kd.R_drewN | apply Kd.R_drew)); exact HO_407002.out⟩, ⟨by (with_reducible repeat (first | apply Kd.R_alloc | apply Kd.R_drewN | apply Kd.R_drew)); exact HO_427002.out⟩, ⟨by (with_reducible repeat (first | refine blk_drewN ?_ _ | refine blk_drew ?_ | refine blk_alloc ?_ _)); exact BK406.out⟩, ⟨by (with_reducible repeat (first | refine blk_drewN ?_ _ | refine blk_drew ?_ | refine blk_alloc ?_ _)); exact BK426.out⟩, ⟨by repeat (first | (with_reducible first | exact HB.out | apply below_alloc | apply pw_below_drewN | apply below_drew1 | refine below_set ?_ GE406.out | refine below_set ?_ GE426.out) | exact HB.out)⟩⟩
            ·rw [if_neg c80] at H
             have c80b0 : (t442 == 0) = false := beq_eq_false_iff_ne.mpr c80
             have c80b1 : (t442 != 0) = true := bne_iff_ne.mpr c80
             (first | rw [c80b0] | (simp only [i64_w, i32_w]; rw [c80b0]) | skip)
             have H' := Aside0.mk H
             clear H
             have hnb92 := NB426_406.out
             have hnc92 := NB406_426.out
             have hcz93_0 : wc.cell? ⟨gb426, 0, none⟩ = some (.int .i64 t420) := (blk_cell BK426.out 0).trans rfl
             have hcz93_1 : wc.cell? ⟨gb426, 1, none⟩ = some (.int .i64 t421) := (blk_cell BK426.out 1).trans rfl
             have hcz93_2 : wc.cell? ⟨gb426, 2, none⟩ = some (.slice Ao25 t422.length co25) := (blk_cell BK426.out 2).trans rfl
             have hfz93_0 := blk_frozen BK426.out 0
             have hfz93_1 := blk_frozen BK426.out 1
             have hfz93_2 := blk_frozen BK426.out 2
             go_wp2_with (first | ((with_reducible refine gate_callee (f := 30) rfl ?_); refine goesL_ (some 124) rfl rfl Try.func30 (by kernel_rfl) rfl #[.agg #[.int .i64 t420, .int .i64 t421, .slice Ao25 t422.length co25]] rfl (by (try simp only [List.map_toArray, List.map_cons, List.map_nil]); first | done | rfl | (simp only [List.length_drop, List.length_take]; rfl)) ?_; (with_reducible refine (tillerref04_Check.calls kj61 t420 t421 _ _ t422 t442 _ ?side1 ?side2 A79.out).mono ?_); (case side1 => repeat (first | exact (Kd.R_reads' HO_427002.out).2.2 | (with_reducible refine Kd.C_alloc ?_ _) | (with_reducible refine Kd.C_drewN ?_ _) | (with_reducible refine Kd.C_drew ?_))); (case side2 => exact (Kd.R_reads' HO_427002.out).2.1); rintro e w94 ⟨rfl, hb⟩; refine ⟨_, rfl, ?_⟩; have n0_ := Aside0.mk (Kd.R_below (by (with_reducible repeat (first | apply Kd.R_alloc | apply Kd.R_drewN | apply Kd.R_drew)); exact HO_407002.out) hb); have n1_ := Aside0.mk (Kd.R_below (by (with_reducible repeat (first | apply Kd.R_alloc | apply Kd.R_drewN | apply Kd.R_drew)); exact HO_427002.out) hb); have n2_ := Aside0.mk (blk_below (g := gb406) (o := .cells #[.int .i64 t407, .int .i64 t408, .slice Ao16 t409.length co16] 46 (0, 0)) (by (with_reducible repeat (first | refine blk_drewN ?_ _ | refine blk_drew ?_ | refine blk_alloc ?_ _)); exact BK406.out) hb); have n3_ := Aside0.mk (blk_below (g := gb426) (o := .cells #[.int .i64 t420, .int .i64 t421, .slice Ao25 t422.length co25] 46 (0, 0)) (by (with_reducible repeat (first | refine blk_drewN ?_ _ | refine blk_drew ?_ | refine blk_alloc ?_ _)); exact BK426.out) hb); have n4_ := Aside0.mk (below_step (by repeat (first | (with_reducible first | exact HB.out | apply below_alloc | apply pw_below_drewN | apply below_drew1 | refine below_set ?_ GE406.out | refine below_set ?_ GE426.out) | exact HB.out)) hb); clear HO_407002; clear HO_427002; clear BK406; clear BK426; clear HB; have HO_407002 := n0_; have HO_427002 := n1_; have BK406 := n2_; have BK426 := n3_; have HB := n4_; clear n0_ n1_ n2_ n3_ n4_; (try clear hb); (try clear hb2); (try clear hk); (try clear hi)))
             go_meet
             case rel => exact ⟨_, (true), (by first | rfl | (simp; done) | (simp [*]; done)), H', ⟨by have := HJ9.out; have := HJ43.out; have := HJ47.out; have := HJ61.out; first | omega | exact Nat.le_refl _⟩, ⟨by (with_reducible repeat (first | apply Kd.R_alloc | apply Kd.R_drewN | apply Kd.R_drew)); exact HO_407002.out⟩, ⟨by (with_reducible repeat (first | apply Kd.R_alloc | apply Kd.R_drewN | apply Kd.R_drew)); exact HO_427002.out⟩, ⟨by (with_reducible repeat (first | refine blk_drewN ?_ _ | refine blk_drew ?_ | refine blk_alloc ?_ _)); exact BK406.out⟩, ⟨by (with_reducible repeat (first | refine blk_drewN ?_ _ | refine blk_drew ?_ | refine blk_alloc ?_ _)); exact BK426.out⟩, ⟨by repeat (first | (with_reducible first | exact HB.out | apply below_alloc | apply pw_below_drewN | apply below_drew1 | refine below_set ?_ GE406.out | refine below_set ?_ GE426.out) | exact HB.out)⟩⟩
           case rest =>
            clear HC78
            try clear c1
            try clear c2
            try clear p2
            try clear c3
            try clear c4
            try clear c5
            try clear c6
            try clear c7
            try clear c8
            try clear c9
            try clear c13
            try clear c23
            try clear c29
            try clear c30
            try clear c31
            try clear c32
            try clear c32b0
            try clear c32b1
            try clear c33
            try clear c34
            try clear c38
            try clear c42
            try clear c43
            try clear c43b0
            try clear c43b1
            try clear c45
            try clear c45b0
            try clear c46
            try clear c49
            try clear c50
            try clear c50b0
            try clear c50b1
            try clear c51
            try clear c51b0
            try clear c51b1
            try clear c53
            try clear c53b0
            try clear c53b1
            try clear c56
            try clear c57
            try clear c63
            try clear c65
            try clear c65b0
            try clear c65b1
            try clear c66
            try clear c66b0
            try clear c66b1
            try clear c69
            try clear c70
            try clear c75
            try clear c75b0
            try clear c75b1
            try clear c76
            try clear c76b0
            try clear c76b1
            try clear c80
            try clear c80b0
            try clear c80b1
            try clear c81
            try clear c81b0
            try clear c81b1
            try clear c82
            try clear c87
            try clear c92
            try clear hcz12_0
            try clear hcz12_1
            try clear hcz12_2
            try clear hcz15_0
            try clear hcz15_1
            try clear hcz15_2
            try clear hcz18_0
            try clear hcz18_1
            try clear hcz18_2
            try clear hcz20_0
            try clear hcz20_1
            try clear hcz20_2
            try clear hcz24_0
            try clear hcz24_1
            try clear hcz24_2
            try clear hcz26_0
            try clear hcz26_1
            try clear hcz26_2
            try clear hcz35_0
            try clear hcz35_1
            try clear hcz35_2
            try clear hcz39_0
            try clear hcz39_1
            try clear hcz39_2
            try clear hcz47_0
            try clear hcz47_1
            try clear hcz47_2
            try clear hcz58_0
            try clear hcz58_1
            try clear hcz58_2
            try clear hcz64_0
            try clear hcz64_1
            try clear hcz64_2
            try clear hcz71_0
            try clear hcz71_1
            try clear hcz71_2
            try clear hcz83_0
            try clear hcz83_1
            try clear hcz83_2
            try clear hcz85_0
            try clear hcz85_1
            try clear hcz85_2
            try clear hcz86_0
            try clear hcz86_1
            try clear hcz86_2
            try clear hcz88_0
            try clear hcz88_1
            try clear hcz88_2
            try clear hcz90_0
            try clear hcz90_1
            try clear hcz90_2
            try clear hcz91_0
            try clear hcz91_1
            try clear hcz91_2
            try clear hcz93_0
            try clear hcz93_1
            try clear hcz93_2
            try clear hfz12_0
            try clear hfz12_1
            try clear hfz12_2
            try clear hfz15_0
            try clear hfz15_1
            try clear hfz15_2
            try clear hfz18_0
            try clear hfz18_1
            try clear hfz18_2
            try clear hfz20_0
            try clear hfz20_1
            try clear hfz20_2
            try clear hfz24_0
            try clear hfz24_1
            try clear hfz24_2
            try clear hfz26_0
            try clear hfz26_1
            try clear hfz26_2
            try clear hfz35_0
            try clear hfz35_1
            try clear hfz35_2
            try clear hfz39_0
            try clear hfz39_1
            try clear hfz39_2
            try clear hfz47_0
            try clear hfz47_1
            try clear hfz47_2
            try clear hfz58_0
            try clear hfz58_1
            try clear hfz58_2
            try clear hfz64_0
            try clear hfz64_1
            try clear hfz64_2
            try clear hfz71_0
            try clear hfz71_1
            try clear hfz71_2
            try clear hfz83_0
            try clear hfz83_1
            try clear hfz83_2
            try clear hfz85_0
            try clear hfz85_1
            try clear hfz85_2
            try clear hfz86_0
            try clear hfz86_1
            try clear hfz86_2
            try clear hfz88_0
            try clear hfz88_1
            try clear hfz88_2
            try clear hfz90_0
            try clear hfz90_1
            try clear hfz90_2
            try clear hfz91_0
            try clear hfz91_1
            try clear hfz91_2
            try clear hfz93_0
            try clear hfz93_1
            try clear hfz93_2
            try clear p2
            obtain ⟨kq, x139_77, rfl, HA, HJ77, HO_407002, HO_427002, BK406, BK426, HB⟩ := hcut
            cases kq with
            | zero => exact absurd HA.out (by simp [tillerlaw04_MatRows.j4])
            | succ kj77 =>
             have H := HA.out
             clear HA
             simp only [tillerlaw04_MatRows.j4] at H
             by_cases c95 : x139_77 = true
             ·subst c95
              have H1 : (some false) = some r := by rw [if_pos rfl] at H; exact H
              clear H
              have H := H1
              clear H1
              exact absurd (Option.some.inj H) (by rw [hr_.out]; decide)
             ·replace c95 := Bool.eq_false_iff.mpr c95
              subst c95
              have H1 : (tillerlaw04_MatRows.l0 kj77 0 t407 t408 t409 t420 t421 t422) = some r := by rw [if_neg (show ¬ (false = true) by decide)] at H; exact H
              clear H
              have H := H1
              clear H1
              have H' := Aside0.mk H
              clear H
              go_wp2
              go_loopg [14] kj77 (fun kq v14 w' => ∃ (x14_6 : Int), v14 = .int .i64 x14_6 ∧ Aside0 (tillerlaw04_MatRows.l0 kq x14_6 t407 t408 t409 t420 t421 t422 = some r) ∧ Aside0 (kq ≤ kj77) ∧ Aside0 (Kd.R (Kd.int .i32) 24 w' w.heap.size (fun k_ => some k_ ≠ ((.slice Ao25 t422.length co25) : Value).ownBlock) (.slice Ao16 t409.length co16) t409) ∧ Aside0 (Kd.R (Kd.int .i32) 24 w' w.heap.size (fun k_ => some k_ ≠ ((.slice Ao16 t409.length co16) : Value).ownBlock) (.slice Ao25 t422.length co25) t422) ∧ Aside0 (w'.heap[gb406]? = some (.cells #[.int .i64 t407, .int .i64 t408, (.slice Ao16 t409.length co16)] 46 (0, 0))) ∧ Aside0 (w'.heap[gb426]? = some (.cells #[.int .i64 t420, .int .i64 t421, (.slice Ao25 t422.length co25)] 46 (0, 0))) ∧ Aside0 (Below w.heap.size w w'))
              case atStart => exact ⟨(0), (by first | rfl | (simp; done) | (simp [*]; done)), H', ⟨Nat.le_refl _⟩, ⟨by (with_reducible repeat (first | apply Kd.R_alloc | apply Kd.R_drewN | apply Kd.R_drew)); exact HO_407002.out⟩, ⟨by (with_reducible repeat (first | apply Kd.R_alloc | apply Kd.R_drewN | apply Kd.R_drew)); exact HO_427002.out⟩, ⟨by (with_reducible repeat (first | refine blk_drewN ?_ _ | refine blk_drew ?_ | refine blk_alloc ?_ _)); exact BK406.out⟩, ⟨by (with_reducible repeat (first | refine blk_drewN ?_ _ | refine blk_drew ?_ | refine blk_alloc ?_ _)); exact BK426.out⟩, ⟨by repeat (first | (with_reducible first | exact HB.out | apply below_alloc | apply pw_below_drewN | apply below_drew1 | refine below_set ?_ GE406.out | refine below_set ?_ GE426.out) | exact HB.out)⟩⟩
              case round =>
               clear H'
               try clear c1
               try clear c2
               try clear p2
               try clear c3
               try clear c4
               try clear c5
               try clear c6
               try clear c7
               try clear c8
               try clear c9
               try clear c13
               try clear c23
               try clear c29
               try clear c30
               try clear c31
               try clear c32
               try clear c32b0
               try clear c32b1
               try clear c33
               try clear c34
               try clear c38
               try clear c42
               try clear c43
               try clear c43b0
               try clear c43b1
               try clear c45
               try clear c45b0
               try clear c46
               try clear c49
               try clear c50
               try clear c50b0
               try clear c50b1
               try clear c51
               try clear c51b0
               try clear c51b1
               try clear c53
               try clear c53b0
               try clear c53b1
               try clear c56
               try clear c57
               try clear c63
               try clear c65
               try clear c65b0
               try clear c65b1
               try clear c66
               try clear c66b0
               try clear c66b1
               try clear c69
               try clear c70
               try clear c75
               try clear c75b0
               try clear c75b1
               try clear c76
               try clear c76b0
               try clear c76b1
               try clear c80
               try clear c80b0
               try clear c80b1
               try clear c81
               try clear c81b0
               try clear c81b1
               try clear c82
               try clear c87
               try clear c92
               try clear c95
               try clear hcz12_0
               try clear hcz12_1
               try clear hcz12_2
               try clear hcz15_0
               try clear hcz15_1
               try clear hcz15_2
               try clear hcz18_0
               try clear hcz18_1
               try clear hcz18_2
               try clear hcz20_0
               try clear hcz20_1
               try clear hcz20_2
               try clear hcz24_0
               try clear hcz24_1
               try clear hcz24_2
               try clear hcz26_0
               try clear hcz26_1
               try clear hcz26_2
               try clear hcz35_0
               try clear hcz35_1
               try clear hcz35_2
               try clear hcz39_0
               try clear hcz39_1
               try clear hcz39_2
               try clear hcz47_0
               try clear hcz47_1
               try clear hcz47_2
               try clear hcz58_0
               try clear hcz58_1
               try clear hcz58_2
               try clear hcz64_0
               try clear hcz64_1
               try clear hcz64_2
               try clear hcz71_0
               try clear hcz71_1
               try clear hcz71_2
               try clear hcz83_0
               try clear hcz83_1
               try clear hcz83_2
               try clear hcz85_0
               try clear hcz85_1
               try clear hcz85_2
               try clear hcz86_0
               try clear hcz86_1
               try clear hcz86_2
               try clear hcz88_0
               try clear hcz88_1
               try clear hcz88_2
               try clear hcz90_0
               try clear hcz90_1
               try clear hcz90_2
               try clear hcz91_0
               try clear hcz91_1
               try clear hcz91_2
               try clear hcz93_0
               try clear hcz93_1
               try clear hcz93_2
               try clear hfz12_0
               try clear hfz12_1
               try clear hfz12_2
               try clear hfz15_0
               try clear hfz15_1
               try clear hfz15_2
               try clear hfz18_0
               try clear hfz18_1
               try clear hfz18_2
               try clear hfz20_0
               try clear hfz20_1
               try clear hfz20_2
               try clear hfz24_0
               try clear hfz24_1
               try clear hfz24_2
               try clear hfz26_0
               try clear hfz26_1
               try clear hfz26_2
               try clear hfz35_0
               try clear hfz35_1
               try clear hfz35_2
               try clear hfz39_0
               try clear hfz39_1
               try clear hfz39_2
               try clear hfz47_0
               try clear hfz47_1
               try clear hfz47_2
               try clear hfz58_0
               try clear hfz58_1
               try clear hfz58_2
               try clear hfz64_0
               try clear hfz64_1
               try clear hfz64_2
               try clear hfz71_0
               try clear hfz71_1
               try clear hfz71_2
               try clear hfz83_0
               try clear hfz83_1
               try clear hfz83_2
               try clear hfz85_0
               try clear hfz85_1
               try clear hfz85_2
               try clear hfz86_0
               try clear hfz86_1
               try clear hfz86_2
               try clear hfz88_0
               try clear hfz88_1
               try clear hfz88_2
               try clear hfz90_0
               try clear hfz90_1
               try clear hfz90_2
               try clear hfz91_0
               try clear hfz91_1
               try clear hfz91_2
               try clear hfz93_0
               try clear hfz93_1
               try clear hfz93_2
               try clear p2
               obtain ⟨x14_6, rfl, HA, HK6, HO_407002, HO_427002, BK406, BK426, HB⟩ := hrel
               cases gk with
               | zero => exact absurd HA.out (by simp [tillerlaw04_MatRows.l0])
               | succ k6 =>
                have H := HA.out
                clear HA
                simp only [tillerlaw04_MatRows.l0] at H
                by_cases c96 : x14_6 < t408
                ·rw [if_pos c96] at H
                 have c96b0 : decide (x14_6 < t408) = true := decide_eq_true c96
                 clear c96
                 replace H := Option.bind_eq_some_iff.mp H
                 obtain ⟨t443, A970, H⟩ := H
                 replace H : ((tillerref04_Column.f k6 t407 t408 t409 x14_6).bind fun t446 => ((tillerref03_Same.f k6 t443 t446).bind fun t449 => (if t449 = true then (tillerlaw04_MatRows.l0 k6 (wrap64 (x14_6 + 1)) t407 t408 t409 t420 t421 t422) else (some false)))) = some r := H
                 have A97 := Aside0.mk A970
                 clear A970
                 replace H := Option.bind_eq_some_iff.mp H
                 obtain ⟨t446, A980, H⟩ := H
                 replace H : ((tillerref03_Same.f k6 t443 t446).bind fun t449 => (if t449 = true then (tillerlaw04_MatRows.l0 k6 (wrap64 (x14_6 + 1)) t407 t408 t409 t420 t421 t422) else (some false))) = some r := H
                 have A98 := Aside0.mk A980
                 clear A980
                 replace H := Option.bind_eq_some_iff.mp H
                 obtain ⟨t449, A990, H⟩ := H
                 replace H : (if t449 = true then (tillerlaw04_MatRows.l0 k6 (wrap64 (x14_6 + 1)) t407 t408 t409 t420 t421 t422) else (some false)) = some r := H
                 have A99 := Aside0.mk A990
                 clear A990
                 by_cases c100 : t449 = true
                 ·subst c100
                  have H1 : (tillerlaw04_MatRows.l0 k6 (wrap64 (x14_6 + 1)) t407 t408 t409 t420 t421 t422) = some r := by rw [if_pos rfl] at H; exact H
                  clear H
                  have H := H1
                  clear H1
                  have H' := Aside0.mk H
                  clear H
                  have hnb101 := NB406_426.out
                  have hnc101 := NB426_406.out
                  have hcz102_0 : wr.cell? ⟨gb406, 0, none⟩ = some (.int .i64 t407) := (blk_cell BK406.out 0).trans rfl
                  have hcz102_1 : wr.cell? ⟨gb406, 1, none⟩ = some (.int .i64 t408) := (blk_cell BK406.out 1).trans rfl
                  have hcz102_2 : wr.cell? ⟨gb406, 2, none⟩ = some (.slice Ao16 t409.length co16) := (blk_cell BK406.out 2).trans rfl
                  have hfz102_0 := blk_frozen BK406.out 0
                  have hfz102_1 := blk_frozen BK406.out 1
                  have hfz102_2 := blk_frozen BK406.out 2
                  try go_wp2
                  have n0_ := Aside0.mk (Kd.R_drew HO_407002.out)
                  have n1_ := Aside0.mk (Kd.R_drew HO_427002.out)
                  have n2_ := Aside0.mk (blk_drew BK406.out)
                  have n3_ := Aside0.mk (blk_drew BK426.out)
                  have n4_ := Aside0.mk (below_drew1 HB.out)
                  clear HO_407002
                  clear HO_427002
                  clear BK406
                  clear BK426
                  clear HB
                  have HO_407002 := n0_
                  have HO_427002 := n1_
                  have BK406 := n2_
                  have BK426 := n3_
                  have HB := n4_
                  clear n0_ n1_ n2_ n3_ n4_
                  refine start_ (n := 8) (S := fun w' => w'.cell? ⟨gb426, 0, none⟩ = some (.int .i64 t420) ∧ w'.cell? ⟨gb426, 1, none⟩ = some (.int .i64 t421) ∧ w'.cell? ⟨gb426, 2, none⟩ = some (.slice Ao25 t422.length co25) ∧ w'.cell? ⟨gb406, 0, none⟩ = some (.int .i64 t407) ∧ w'.cell? ⟨gb406, 1, none⟩ = some (.int .i64 t408) ∧ w'.cell? ⟨gb406, 2, none⟩ = some (.slice Ao16 t409.length co16)) (ds := []) T92141_0 (by kernel_rfl) rfl rfl ⟨(blk_cell BK426.out 0).trans rfl, (blk_cell BK426.out 1).trans rfl, (blk_cell BK426.out 2).trans rfl, (blk_cell BK406.out 0).trans rfl, (blk_cell BK406.out 1).trans rfl, (blk_cell BK406.out 2).trans rfl⟩ (fun hHeld => ?_); refine with_tabW tillerlaw04_MatRows.tab25 tillerlaw04_MatRows.bits25 (fun HT_ HW_ => ?_)
                  generalize wr.drew = w103 at HO_407002 HO_427002 BK406 BK426 HB hHeld ⊢
                  refine pure_ (i := 1) (N := some 147) (v := ?_) (a' := ?_) T92141_1 rfl rfl (any_of HT_.out (by kernel_rfl)) idq (.inl ⟨by rfl, ?_⟩) ?_ ?_
                  rotate_left; ·intro w'; go_simp; with_reducible rfl
                  rotate_left; ·simp only [Act.put, sqA, sqB, sqC, i64_w, i32_w]; rfl
                  refine pure_ (i := 4) (N := some 150) (v := ?_) (a' := ?_) T92141_2 rfl rfl (any_of HT_.out (by kernel_rfl)) idq (.inl ⟨by rfl, ?_⟩) ?_ ?_
                  rotate_left; ·intro w'; go_simp; with_reducible rfl
                  rotate_left; ·simp only [Act.put, sqA, sqB, sqC, i64_w, i32_w]; rfl
                  refine take_ (i := 0) (N := some 146) (v := ?_) (a' := ?_) T92141_3 rfl rfl (take_ofW HT_.out HW_.out (by kernel_rfl)) idq (.inl ⟨by rfl, ?_⟩) hHeld ?_ ?_
                  rotate_left
                  ·rintro w' ⟨s0, s1, s2, s3, s4, s5⟩
                   go_simp
                   with_reducible rfl
                  rotate_left; ·simp only [Act.put, sqA, sqB, sqC, i64_w, i32_w]; rfl
                  refine take_ (i := 3) (N := some 149) (v := ?_) (a' := ?_) T92141_4 rfl rfl (take_ofW HT_.out HW_.out (by kernel_rfl)) idq (.inl ⟨by rfl, ?_⟩) hHeld ?_ ?_
                  rotate_left
                  ·rintro w' ⟨s0, s1, s2, s3, s4, s5⟩
                   go_simp
                   with_reducible rfl
                  rotate_left; ·simp only [Act.put, sqA, sqB, sqC, i64_w, i32_w]; rfl
                  refine one_ (i := 2) (N := some 148) T92141_5 rfl rfl (one_of HT_.out (by kernel_rfl)) (by decide) (fun K hK => ?_)
                  refine goes_ Try.func37 (by kernel_rfl) rfl #[.agg #[.int .i64 t420, .int .i64 t421, .slice Ao25 t422.length co25], .int .i64 x14_6] (by rfl) rfl rfl (by (try simp only [List.map_toArray, List.map_cons, List.map_nil]); first | done | rfl | (simp only [List.length_drop, List.length_take]; rfl)) ?_
                  with_reducible refine (tillerref04_Row.calls k6 t420 t421 _ _ t422 x14_6 t443 _ ?side1 ?side2 A97.out).mono ?_
                  (case side1 => repeat (first | exact (Kd.R_reads' HO_427002.out).2.2 | (with_reducible refine Kd.C_alloc ?_ _) | (with_reducible refine Kd.C_drewN ?_ _) | (with_reducible refine Kd.C_drew ?_)))
                  (case side2 => exact (Kd.R_reads' HO_427002.out).2.1)
                  rintro e w104 ⟨v444, rfl, ho0, hb⟩
                  refine ⟨_, rfl, ?_⟩
                  have n0_ := Aside0.mk (Kd.R_elder' (by (with_reducible repeat (first | apply Kd.R_alloc | apply Kd.R_drewN | apply Kd.R_drew)); exact HO_407002.out) (Kd.R_base ho0) hb)
                  have n1_ := Aside0.mk (Kd.R_elder' (by (with_reducible repeat (first | apply Kd.R_alloc | apply Kd.R_drewN | apply Kd.R_drew)); exact HO_427002.out) (Kd.R_base ho0) hb)
                  have n2_ := Aside0.mk (Kd.R_lower (Kd.R_new' (Kd.R_new' ho0 (Kd.R_lt (by (with_reducible repeat (first | apply Kd.R_alloc | apply Kd.R_drewN | apply Kd.R_drew)); exact HO_407002.out))) (Kd.R_lt (by (with_reducible repeat (first | apply Kd.R_alloc | apply Kd.R_drewN | apply Kd.R_drew)); exact HO_427002.out))) (below_size (by repeat (first | (with_reducible first | exact HB.out | apply below_alloc | apply pw_below_drewN | apply below_drew1 | refine below_set ?_ GE406.out | refine below_set ?_ GE426.out) | exact HB.out))))
                  have n3_ := Aside0.mk (blk_below (g := gb406) (o := .cells #[.int .i64 t407, .int .i64 t408, .slice Ao16 t409.length co16] 46 (0, 0)) (by (with_reducible repeat (first | refine blk_drewN ?_ _ | refine blk_drew ?_ | refine blk_alloc ?_ _)); exact BK406.out) hb)
                  have n4_ := Aside0.mk (blk_below (g := gb426) (o := .cells #[.int .i64 t420, .int .i64 t421, .slice Ao25 t422.length co25] 46 (0, 0)) (by (with_reducible repeat (first | refine blk_drewN ?_ _ | refine blk_drew ?_ | refine blk_alloc ?_ _)); exact BK426.out) hb)
                  have n5_ := Aside0.mk (below_step (by repeat (first | (with_reducible first | exact HB.out | apply below_alloc | apply pw_below_drewN | apply below_drew1 | refine below_set ?_ GE406.out | refine below_set ?_ GE426.out) | exact HB.out)) hb)
                  clear HO_407002
                  clear HO_427002
                  clear BK406
                  clear BK426
                  clear HB
                  have HO_407002 := n0_
                  have HO_427002 := n1_
                  have HO445 := n2_
                  have BK406 := n3_
                  have BK426 := n4_
                  have HB := n5_
                  clear n0_ n1_ n2_ n3_ n4_ n5_
                  (try clear hb)
                  (try clear hb2)
                  (try clear hk)
                  (try clear hi)
                  (try clear ho0)
                  refine hK.out _ _ ⟨(blk_cell BK426.out 0).trans rfl, (blk_cell BK426.out 1).trans rfl, (blk_cell BK426.out 2).trans rfl, (blk_cell BK406.out 0).trans rfl, (blk_cell BK406.out 1).trans rfl, (blk_cell BK406.out 2).trans rfl⟩ (fun hHeld => ?_)
                  clear hK K
                  refine norm_ (a' := ?_) ?_ ?_
                  rotate_left
                  ·show Act.put _ (some 148) _ = _
                   simp only [Act.put, sqA, sqB, sqC, i64_w, i32_w]
                   rfl
                  refine one_ (i := 5) (N := some 151) T92141_6 rfl rfl (one_of HT_.out (by kernel_rfl)) (by decide) (fun K hK => ?_)
                  refine goes_ Try.func39 (by kernel_rfl) rfl #[.agg #[.int .i64 t407, .int .i64 t408, .slice Ao16 t409.length co16], .int .i64 x14_6] (by rfl) rfl rfl (by (try simp only [List.map_toArray, List.map_cons, List.map_nil]); first | done | rfl | (simp only [List.length_drop, List.length_take]; rfl)) ?_
                  with_reducible refine (tillerref04_Column.calls k6 t407 t408 _ _ t409 x14_6 t446 _ ?side1 ?side2 A98.out).mono ?_
                  (case side1 => repeat (first | exact (Kd.R_reads' HO_407002.out).2.2 | (with_reducible refine Kd.C_alloc ?_ _) | (with_reducible refine Kd.C_drewN ?_ _) | (with_reducible refine Kd.C_drew ?_)))
                  (case side2 => exact (Kd.R_reads' HO_407002.out).2.1)
                  rintro e w105 ⟨v447, rfl, ho0, hb⟩
                  refine ⟨_, rfl, ?_⟩
                  have n0_ := Aside0.mk (Kd.R_elder' (by (with_reducible repeat (first | apply Kd.R_alloc | apply Kd.R_drewN | apply Kd.R_drew)); exact HO_407002.out) (Kd.R_base ho0) hb)
                  have n1_ := Aside0.mk (Kd.R_elder' (by (with_reducible repeat (first | apply Kd.R_alloc | apply Kd.R_drewN | apply Kd.R_drew)); exact HO_427002.out) (Kd.R_base ho0) hb)
                  have n2_ := Aside0.mk (Kd.R_elder' (by (with_reducible repeat (first | apply Kd.R_alloc | apply Kd.R_drewN | apply Kd.R_drew)); exact HO445.out) (Kd.R_base ho0) hb)
                  have n3_ := Aside0.mk (Kd.R_lower (Kd.R_new' (Kd.R_new' (Kd.R_new' ho0 (Kd.R_lt (by (with_reducible repeat (first | apply Kd.R_alloc | apply Kd.R_drewN | apply Kd.R_drew)); exact HO_407002.out))) (Kd.R_lt (by (with_reducible repeat (first | apply Kd.R_alloc | apply Kd.R_drewN | apply Kd.R_drew)); exact HO_427002.out))) (Kd.R_lt (by (with_reducible repeat (first | apply Kd.R_alloc | apply Kd.R_drewN | apply Kd.R_drew)); exact HO445.out))) (below_size (by repeat (first | (with_reducible first | exact HB.out | apply below_alloc | apply pw_below_drewN | apply below_drew1 | refine below_set ?_ GE406.out | refine below_set ?_ GE426.out) | exact HB.out))))
                  have n4_ := Aside0.mk (blk_below (g := gb406) (o := .cells #[.int .i64 t407, .int .i64 t408, .slice Ao16 t409.length co16] 46 (0, 0)) (by (with_reducible repeat (first | refine blk_drewN ?_ _ | refine blk_drew ?_ | refine blk_alloc ?_ _)); exact BK406.out) hb)
                  have n5_ := Aside0.mk (blk_below (g := gb426) (o := .cells #[.int .i64 t420, .int .i64 t421, .slice Ao25 t422.length co25] 46 (0, 0)) (by (with_reducible repeat (first | refine blk_drewN ?_ _ | refine blk_drew ?_ | refine blk_alloc ?_ _)); exact BK426.out) hb)
                  have n6_ := Aside0.mk (below_step (by repeat (first | (with_reducible first | exact HB.out | apply below_alloc | apply pw_below_drewN | apply below_drew1 | refine below_set ?_ GE406.out | refine below_set ?_ GE426.out) | exact HB.out)) hb)
                  clear HO_407002
                  clear HO_427002
                  clear HO445
                  clear BK406
                  clear BK426
                  clear HB
                  have HO_407002 := n0_
                  have HO_427002 := n1_
                  have HO445 := n2_
                  have HO448 := n3_
                  have BK406 := n4_
                  have BK426 := n5_
                  have HB := n6_
                  clear n0_ n1_ n2_ n3_ n4_ n5_ n6_
                  (try clear hb)
                  (try clear hb2)
                  (try clear hk)
                  (try clear hi)
                  (try clear ho0)
                  obtain ⟨Ao106, co106, eo106⟩ := Kd.R_slice HO445.out
                  (first | subst eo106 | (injection eo106 with f1_ f2_ f3_; have f4_ := f1_.symm; have f5_ := f3_.symm; clear f1_ f2_ f3_; subst f4_; subst f5_))
                  obtain ⟨Ao107, co107, eo107⟩ := Kd.R_slice HO448.out
                  (first | subst eo107 | (injection eo107 with f1_ f2_ f3_; have f4_ := f1_.symm; have f5_ := f3_.symm; clear f1_ f2_ f3_; subst f4_; subst f5_))
                  refine hK.out _ _ ⟨(blk_cell BK426.out 0).trans rfl, (blk_cell BK426.out 1).trans rfl, (blk_cell BK426.out 2).trans rfl, (blk_cell BK406.out 0).trans rfl, (blk_cell BK406.out 1).trans rfl, (blk_cell BK406.out 2).trans rfl⟩ (fun hHeld => ?_)
                  clear hK K
                  refine norm_ (a' := ?_) ?_ ?_
                  rotate_left
                  ·show Act.put _ (some 151) _ = _
                   simp only [Act.put, sqA, sqB, sqC, i64_w, i32_w]
                   rfl
                  refine one_ (i := 6) (N := some 152) T92141_7 rfl rfl (one_of HT_.out (by kernel_rfl)) (by decide) (fun K hK => ?_)
                  refine goes_ Try.func28 (by kernel_rfl) rfl #[.slice Ao106 t443.length co106, .slice Ao107 t446.length co107] (by rfl) rfl rfl (by (try simp only [List.map_toArray, List.map_cons, List.map_nil]); first | done | rfl | (simp only [List.length_drop, List.length_take]; rfl)) ?_
                  with_reducible refine (tillerref03_Same.calls k6 _ _ t443 _ _ t446 true _ ?side1 ?side2 ?side3 ?side4 A99.out).mono ?_
                  (case side1 => repeat (first | exact (Kd.R_reads' HO445.out).2.2 | (with_reducible refine Kd.C_alloc ?_ _) | (with_reducible refine Kd.C_drewN ?_ _) | (with_reducible refine Kd.C_drew ?_)))
                  (case side2 => exact (Kd.R_reads' HO445.out).2.1)
                  (case side3 => repeat (first | exact (Kd.R_reads' HO448.out).2.2 | (with_reducible refine Kd.C_alloc ?_ _) | (with_reducible refine Kd.C_drewN ?_ _) | (with_reducible refine Kd.C_drew ?_)))
                  (case side4 => exact (Kd.R_reads' HO448.out).2.1)
                  rintro e w' ⟨rfl, ⟨nd, rfl⟩⟩
                  refine ⟨_, rfl, ?_⟩
                  refine hK.out _ _ ⟨(blk_cell BK426.out 0).trans rfl, (blk_cell BK426.out 1).trans rfl, (blk_cell BK426.out 2).trans rfl, (blk_cell BK406.out 0).trans rfl, (blk_cell BK406.out 1).trans rfl, (blk_cell BK406.out 2).trans rfl⟩ (fun hHeld => ?_)
                  clear hK K
                  refine norm_ (a' := ?_) ?_ ?_
                  rotate_left
                  ·show Act.put _ (some 152) _ = _
                   simp only [Act.put, sqA, sqB, sqC, i64_w, i32_w]
                   rfl
                  refine pure_ (i := 7) (N := some 153) (v := ?_) (a' := ?_) T92141_8 rfl rfl (any_of HT_.out (by kernel_rfl)) idq (.inl ⟨by rfl, ?_⟩) ?_ ?_
                  rotate_left; ·intro w'; go_simp; with_reducible rfl
                  rotate_left; ·simp only [Act.put, sqA, sqB, sqC, i64_w, i32_w]; rfl
                  refine done_ (done_of HT_.out (by kernel_rfl)) ?_
                  try go_wp2
                  go_roundg k6
                  case measure => have := HJ9.out; have := HJ43.out; have := HJ47.out; have := HJ61.out; have := HJ77.out; have := HK6.out; omega
                  case rel => exact ⟨(wrap64 (x14_6 + 1)), (by first | rfl | (simp; done) | (simp [*]; done)), H', ⟨by have := HJ9.out; have := HJ43.out; have := HJ47.out; have := HJ61.out; have := HJ77.out; have := HK6.out; omega⟩, ⟨by (with_reducible repeat (first | apply Kd.R_alloc | apply Kd.R_drewN | apply Kd.R_drew)); exact Kd.R_mono HO_407002.out (fun _ hk => hk.1.1)⟩, ⟨by (with_reducible repeat (first | apply Kd.R_alloc | apply Kd.R_drewN | apply Kd.R_drew)); exact Kd.R_mono HO_427002.out (fun _ hk => hk.1.1)⟩, ⟨by (with_reducible repeat (first | refine blk_drewN ?_ _ | refine blk_drew ?_ | refine blk_alloc ?_ _)); exact BK406.out⟩, ⟨by (with_reducible repeat (first | refine blk_drewN ?_ _ | refine blk_drew ?_ | refine blk_alloc ?_ _)); exact BK426.out⟩, ⟨by repeat (first | (with_reducible first | exact HB.out | apply below_alloc | apply pw_below_drewN | apply below_drew1 | refine below_set ?_ GE406.out | refine below_set ?_ GE426.out) | exact HB.out)⟩⟩
                 ·replace c100 := Bool.eq_false_iff.mpr c100
                  subst c100
                  have H1 : (some false) = some r := by rw [if_neg (show ¬ (false = true) by decide)] at H; exact H
                  clear H
                  have H := H1
                  clear H1
                  exact absurd (Option.some.inj H) (by rw [hr_.out]; decide)
                ·rw [if_neg c96] at H
                 have c96b0 : decide (x14_6 < t408) = false := decide_eq_false c96
                 clear c96
                 obtain rfl := Option.some.inj H
                 have hnb108 := NB406_426.out
                 have hnc108 := NB426_406.out
                 have hcz109_0 : wr.cell? ⟨gb406, 0, none⟩ = some (.int .i64 t407) := (blk_cell BK406.out 0).trans rfl
                 have hcz109_1 : wr.cell? ⟨gb406, 1, none⟩ = some (.int .i64 t408) := (blk_cell BK406.out 1).trans rfl
                 have hcz109_2 : wr.cell? ⟨gb406, 2, none⟩ = some (.slice Ao16 t409.length co16) := (blk_cell BK406.out 2).trans rfl
                 have hfz109_0 := blk_frozen BK406.out 0
                 have hfz109_1 := blk_frozen BK406.out 1
                 have hfz109_2 := blk_frozen BK406.out 2
                 go_wp2
                 go_ret
                 exact ⟨by first | rfl | (simp [errW_none, errW_some] <;> rfl) | (simp [*, errW_none, errW_some] <;> rfl), by repeat (first | (with_reducible first | exact HB.out | apply below_alloc | apply pw_below_drewN | apply below_drew1 | refine below_set ?_ GE406.out | refine below_set ?_ GE426.out) | exact HB.out)⟩
    ·rw [if_neg c43] at H
     have c43b0 : (t415 == 0) = false := beq_eq_false_iff_ne.mpr c43
     have c43b1 : (t415 != 0) = true := bne_iff_ne.mpr c43
     by_cases c110 : t419 = t415
     ·rw [if_pos c110] at H
      have c110b0 : (t419 == t415) = true := beq_iff_eq.mpr c110
      have c110b1 : (t419 != t415) = false := bne_eq_false_iff_eq.mpr c110
      clear c110
      by_cases c111 : t430 = t415
      ·rw [if_pos c111] at H
       have c111b0 : (t430 == t415) = true := beq_iff_eq.mpr c111
       have c111b1 : (t430 != t415) = false := bne_eq_false_iff_eq.mpr c111
       clear c111
       by_cases c112 : (t416.length : Int) = 0
       ·rw [if_pos c112] at H
        have c112b0 : ((t416.length : Int) == 0) = true := beq_iff_eq.mpr c112
        have c112b1 : ((t416.length : Int) != 0) = false := bne_eq_false_iff_eq.mpr c112
        clear c112
        by_cases c113 : (t427.length : Int) = 0
        ·rw [if_pos c113] at H
         have c113b0 : ((t427.length : Int) == 0) = true := beq_iff_eq.mpr c113
         have c113b1 : ((t427.length : Int) != 0) = false := bne_eq_false_iff_eq.mpr c113
         clear c113
         replace H := Option.bind_eq_some_iff.mp H
         obtain ⟨t433, A1140, H⟩ := H
         replace H : (some t433) = some r := H
         have A114 := Aside0.mk A1140
         clear A1140
         obtain rfl := Option.some.inj H
         obtain ⟨Ao115, co115, eo115⟩ := Kd.R_slice HO_8.out
         subst eo115
         obtain ⟨Ao116, co116, eo116⟩ := Kd.R_slice HO_12.out
         subst eo116
         have hnb117 := NB426_406.out
         have hnc117 := NB406_426.out
         have hcz118_0 : wc.cell? ⟨gb426, 0, none⟩ = some (.int .i64 t420) := (blk_cell BK426.out 0).trans rfl
         have hcz118_1 : wc.cell? ⟨gb426, 1, none⟩ = some (.int .i64 t421) := (blk_cell BK426.out 1).trans rfl
         have hcz118_2 : wc.cell? ⟨gb426, 2, none⟩ = some (.slice Ao25 t422.length co25) := (blk_cell BK426.out 2).trans rfl
         have hfz118_0 := blk_frozen BK426.out 0
         have hfz118_1 := blk_frozen BK426.out 1
         have hfz118_2 := blk_frozen BK426.out 2
         go_wp2_with (first | (go_at_call 36; (refine (tillerref04_Same.calls kj9 t420 t421 _ _ t422 0 0 _ _ ([] : List Int) t433 _ ?side1 ?side2 ?side3 ?side4 A114.out).mono ?_); (case side1 => repeat (first | exact (Kd.R_reads' HO_427002.out).2.2 | (with_reducible refine Kd.C_alloc ?_ _) | (with_reducible refine Kd.C_drewN ?_ _) | (with_reducible refine Kd.C_drew ?_))); (case side2 => exact (Kd.R_reads' HO_427002.out).2.1); (case side3 => exact Kd.C_nil _ _); (case side4 => exact Nat.le_refl _); rintro e w119 ⟨rfl, hb⟩; have n0_ := Aside0.mk (Kd.R_below (by (with_reducible repeat (first | apply Kd.R_alloc | apply Kd.R_drewN | apply Kd.R_drew)); exact HO_2.out) hb); have n1_ := Aside0.mk (Kd.R_below (by (with_reducible repeat (first | apply Kd.R_alloc | apply Kd.R_drewN | apply Kd.R_drew)); exact HO_8.out) hb); have n2_ := Aside0.mk (Kd.R_below (by (with_reducible repeat (first | apply Kd.R_alloc | apply Kd.R_drewN | apply Kd.R_drew)); exact HO_12.out) hb); have n3_ := Aside0.mk (Kd.R_below (by (with_reducible repeat (first | apply Kd.R_alloc | apply Kd.R_drewN | apply Kd.R_drew)); exact HO_407002.out) hb); have n4_ := Aside0.mk (Kd.R_below (by (with_reducible repeat (first | apply Kd.R_alloc | apply Kd.R_drewN | apply Kd.R_drew)); exact HO_427002.out) hb); have n5_ := Aside0.mk (blk_below (g := gb406) (o := .cells #[.int .i64 t407, .int .i64 t408, .slice Ao16 t409.length co16] 46 (0, 0)) (by (with_reducible repeat (first | refine blk_drewN ?_ _ | refine blk_drew ?_ | refine blk_alloc ?_ _)); exact BK406.out) hb); have n6_ := Aside0.mk (blk_below (g := gb426) (o := .cells #[.int .i64 t420, .int .i64 t421, .slice Ao25 t422.length co25] 46 (0, 0)) (by (with_reducible repeat (first | refine blk_drewN ?_ _ | refine blk_drew ?_ | refine blk_alloc ?_ _)); exact BK426.out) hb); have n7_ := Aside0.mk (below_step (by repeat (first | (with_reducible first | exact HB.out | apply below_alloc | apply pw_below_drewN | apply below_drew1 | refine below_set ?_ GE406.out | refine below_set ?_ GE426.out) | exact HB.out)) hb); clear HO_2; clear HO_8; clear HO_12; clear HO_407002; clear HO_427002; clear BK406; clear BK426; clear HB; have HO_2 := n0_; have HO_8 := n1_; have HO_12 := n2_; have HO_407002 := n3_; have HO_427002 := n4_; have BK406 := n5_; have BK426 := n6_; have HB := n7_; clear n0_ n1_ n2_ n3_ n4_ n5_ n6_ n7_; (try clear hb); (try clear hb2); (try clear hk); (try clear hi)))
         go_ret
         exact ⟨by first | rfl | (simp [errW_none, errW_some] <;> rfl) | (simp [*, errW_none, errW_some] <;> rfl), by repeat (first | (with_reducible first | exact HB.out | apply below_alloc | apply pw_below_drewN | apply below_drew1 | refine below_set ?_ GE406.out | refine below_set ?_ GE426.out) | exact HB.out)⟩
        ·rw [if_neg c113] at H
         exact absurd (Option.some.inj H) (by rw [hr_.out]; decide)
       ·rw [if_neg c112] at H
        exact absurd (Option.some.inj H) (by rw [hr_.out]; decide)
      ·rw [if_neg c111] at H
       exact absurd (Option.some.inj H) (by rw [hr_.out]; decide)
     ·rw [if_neg c110] at H
      exact absurd (Option.some.inj H) (by rw [hr_.out]; decide)

end Go.Proofs.Ytefimleoffaggaa.GQ
