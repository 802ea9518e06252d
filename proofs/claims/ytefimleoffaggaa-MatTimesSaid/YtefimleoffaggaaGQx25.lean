-- written by this session's program gprint.py
import Derived.Test.YtefimleoffaggaaGQx0
import Derived.Test.YtefimleoffaggaaGQx13
import Derived.Test.YtefimleoffaggaaGQx14
import Derived.Test.YtefimleoffaggaaGQx17
import Derived.Test.YtefimleoffaggaaGQx20
import Derived.Test.YtefimleoffaggaaGQx23
import Derived.Test.YtefimleoffaggaaGQx24
import Derived.Test.YtefimleoffaggaaWLast
import Derived.Test.YtefimleoffaggaaWMore
import Derived.Test.YtefimleoffaggaaWTab
import Derived.Test.YtefimleoffaggaaWWords
namespace Go.Proofs.Ytefimleoffaggaa.GQ
open Go.RowKit Go.Proofs.YtefimleoffaggaaW.PrintWords Go.Proofs.YtefimleoffaggaaW.PrintLast Go.Proofs.YtefimleoffaggaaW.PrintMore
attribute [local go_sem] max2_int min2_int max_two min_two max_three min_three max_four min_four   -- for this text's walks alone
set_option linter.unusedVariables false
set_option linter.unusedSimpArgs false
abbrev T93384_0 : Array Bool := #[false, false, false, false, false, false, false, false, false, false, false, false, false, false, false, false, false, false, false]
abbrev T93384_1 : Array Bool := #[true, false, false, false, false, false, false, false, false, false, false, false, false, false, false, false, false, false, false]
abbrev T93384_2 : Array Bool := #[true, true, false, false, false, false, false, false, false, false, false, false, false, false, false, false, false, false, false]
abbrev T93384_3 : Array Bool := #[true, true, true, false, false, false, false, false, false, false, false, false, false, false, false, false, false, false, false]
abbrev T93384_4 : Array Bool := #[true, true, true, true, false, false, false, false, false, false, false, false, false, false, false, false, false, false, false]
abbrev T93384_5 : Array Bool := #[true, true, true, true, true, false, false, false, false, false, false, false, false, false, false, false, false, false, false]
abbrev T93384_6 : Array Bool := #[true, true, true, true, true, true, false, false, false, false, false, false, false, false, false, false, false, false, false]
abbrev T93384_7 : Array Bool := #[true, true, true, true, true, true, true, false, false, false, false, false, false, false, false, false, false, false, false]
abbrev T93384_8 : Array Bool := #[true, true, true, true, true, true, true, true, false, false, false, false, false, false, false, false, false, false, false]
abbrev T93384_9 : Array Bool := #[true, true, true, true, true, true, true, true, true, false, false, false, false, false, false, false, false, false, false]
abbrev T93384_10 : Array Bool := #[true, true, true, true, true, true, true, true, true, true, false, false, false, false, false, false, false, false, false]
abbrev T93384_11 : Array Bool := #[true, true, true, true, true, true, true, true, true, true, true, false, false, false, false, false, false, false, false]
abbrev T93384_12 : Array Bool := #[true, true, true, true, true, true, true, true, true, true, true, true, false, false, false, false, false, false, false]
abbrev T93384_13 : Array Bool := #[true, true, true, true, true, true, true, true, true, true, true, true, true, false, false, false, false, false, false]
abbrev T93384_14 : Array Bool := #[true, true, true, true, true, true, true, true, true, true, true, true, true, true, false, false, false, false, false]
abbrev T93384_15 : Array Bool := #[true, true, true, true, true, true, true, true, true, true, true, true, true, true, true, false, false, false, false]
abbrev T93384_16 : Array Bool := #[true, true, true, true, true, true, true, true, true, true, true, true, true, true, true, true, false, false, false]
abbrev T93384_17 : Array Bool := #[true, true, true, true, true, true, true, true, true, true, true, true, true, true, true, true, true, false, false]
abbrev T93384_18 : Array Bool := #[true, true, true, true, true, true, true, true, true, true, true, true, true, true, true, true, true, true, false]
abbrev T93384_19 : Array Bool := #[true, true, true, true, true, true, true, true, true, true, true, true, true, true, true, true, true, true, true]
abbrev T93384_20 : Array Bool := #[true, true, true, false, true, false, false, false, false, false, false, false, false, false, false, false, false, false, false]

/-! ### tillerlaw04_MatTimes: function 11 -/
mutual
def tillerlaw04_MatTimes.j0 : Nat → Int → Int → Int → Int → Int → List Int → Int → Int → List Int → Int → Int → List Int → Option (Bool)
 | 0, _, _, _, _, _, _, _, _, _, _, _, _ => none
 | k + 1, x2, x8, x9, x590000, x590001, x590002, x591000, x591001, x591002, x608000, x608001, x608002 => if x9 = 0 then (tillerlaw04_MatTimes.j1 k x2 x8 x9 (x590001 != x591000) x590000 x590001 x590002 x591000 x591001 x591002 x608000 x608001 x608002) else (tillerlaw04_MatTimes.j1 k x2 x8 x9 false x590000 x590001 x590002 x591000 x591001 x591002 x608000 x608001 x608002)
def tillerlaw04_MatTimes.j1 : Nat → Int → Int → Int → Bool → Int → Int → List Int → Int → Int → List Int → Int → Int → List Int → Option (Bool)
 | 0, _, _, _, _, _, _, _, _, _, _, _, _, _ => none
 | k + 1, x2, x8, x9, x39, x590000, x590001, x590002, x591000, x591001, x591002, x608000, x608001, x608002 => if x39 = true then (tillerlaw04_MatTimes.j2 k x2 x8 6 x590000 x590001 x590002 x591000 x591001 x591002 x608000 x608001 x608002) else (tillerlaw04_MatTimes.j2 k x2 x8 x9 x590000 x590001 x590002 x591000 x591001 x591002 x608000 x608001 x608002)
def tillerlaw04_MatTimes.j2 : Nat → Int → Int → Int → Int → Int → List Int → Int → Int → List Int → Int → Int → List Int → Option (Bool)
 | 0, _, _, _, _, _, _, _, _, _, _, _, _ => none
 | k + 1, x2, x8, x9, x590000, x590001, x590002, x591000, x591001, x591002, x608000, x608001, x608002 => (mat_Unit.f k x2).bind fun bt610 => ((tillerlaw04_awake.f k).bind fun t617 => (if t617 = true then (if x8 = x9 then (if x2 < 1 then (if bt610.2.2.2 = 1 then (if x2 > 128 then (if bt610.2.2.2 = 2 then (if x2 ≥ 1 then (if x2 ≤ 128 then (tillerlaw04_MatTimes.j3 k x2 x9 bt610.2.2.2 (bt610.2.2.2 != 0) x590000 x590001 x590002 x591000 x591001 x591002 x608000 x608001 x608002 bt610.1 bt610.2.1 bt610.2.2.1) else (tillerlaw04_MatTimes.j3 k x2 x9 bt610.2.2.2 false x590000 x590001 x590002 x591000 x591001 x591002 x608000 x608001 x608002 bt610.1 bt610.2.1 bt610.2.2.1)) else (tillerlaw04_MatTimes.j3 k x2 x9 bt610.2.2.2 false x590000 x590001 x590002 x591000 x591001 x591002 x608000 x608001 x608002 bt610.1 bt610.2.1 bt610.2.2.1)) else (tillerlaw04_MatTimes.j3 k x2 x9 bt610.2.2.2 true x590000 x590001 x590002 x591000 x591001 x591002 x608000 x608001 x608002 bt610.1 bt610.2.1 bt610.2.2.1)) else (if x2 ≥ 1 then (if x2 ≤ 128 then (tillerlaw04_MatTimes.j3 k x2 x9 bt610.2.2.2 (bt610.2.2.2 != 0) x590000 x590001 x590002 x591000 x591001 x591002 x608000 x608001 x608002 bt610.1 bt610.2.1 bt610.2.2.1) else (tillerlaw04_MatTimes.j3 k x2 x9 bt610.2.2.2 false x590000 x590001 x590002 x591000 x591001 x591002 x608000 x608001 x608002 bt610.1 bt610.2.1 bt610.2.2.1)) else (tillerlaw04_MatTimes.j3 k x2 x9 bt610.2.2.2 false x590000 x590001 x590002 x591000 x591001 x591002 x608000 x608001 x608002 bt610.1 bt610.2.1 bt610.2.2.1))) else (tillerlaw04_MatTimes.j3 k x2 x9 bt610.2.2.2 true x590000 x590001 x590002 x591000 x591001 x591002 x608000 x608001 x608002 bt610.1 bt610.2.1 bt610.2.2.1)) else (if x2 > 128 then (if bt610.2.2.2 = 2 then (if x2 ≥ 1 then (if x2 ≤ 128 then (tillerlaw04_MatTimes.j3 k x2 x9 bt610.2.2.2 (bt610.2.2.2 != 0) x590000 x590001 x590002 x591000 x591001 x591002 x608000 x608001 x608002 bt610.1 bt610.2.1 bt610.2.2.1) else (tillerlaw04_MatTimes.j3 k x2 x9 bt610.2.2.2 false x590000 x590001 x590002 x591000 x591001 x591002 x608000 x608001 x608002 bt610.1 bt610.2.1 bt610.2.2.1)) else (tillerlaw04_MatTimes.j3 k x2 x9 bt610.2.2.2 false x590000 x590001 x590002 x591000 x591001 x591002 x608000 x608001 x608002 bt610.1 bt610.2.1 bt610.2.2.1)) else (tillerlaw04_MatTimes.j3 k x2 x9 bt610.2.2.2 true x590000 x590001 x590002 x591000 x591001 x591002 x608000 x608001 x608002 bt610.1 bt610.2.1 bt610.2.2.1)) else (if x2 ≥ 1 then (if x2 ≤ 128 then (tillerlaw04_MatTimes.j3 k x2 x9 bt610.2.2.2 (bt610.2.2.2 != 0) x590000 x590001 x590002 x591000 x591001 x591002 x608000 x608001 x608002 bt610.1 bt610.2.1 bt610.2.2.1) else (tillerlaw04_MatTimes.j3 k x2 x9 bt610.2.2.2 false x590000 x590001 x590002 x591000 x591001 x591002 x608000 x608001 x608002 bt610.1 bt610.2.1 bt610.2.2.1)) else (tillerlaw04_MatTimes.j3 k x2 x9 bt610.2.2.2 false x590000 x590001 x590002 x591000 x591001 x591002 x608000 x608001 x608002 bt610.1 bt610.2.1 bt610.2.2.1)))) else (tillerlaw04_MatTimes.j3 k x2 x9 bt610.2.2.2 true x590000 x590001 x590002 x591000 x591001 x591002 x608000 x608001 x608002 bt610.1 bt610.2.1 bt610.2.2.1)) else (tillerlaw04_MatTimes.j3 k x2 x9 bt610.2.2.2 true x590000 x590001 x590002 x591000 x591001 x591002 x608000 x608001 x608002 bt610.1 bt610.2.1 bt610.2.2.1)))
def tillerlaw04_MatTimes.j3 : Nat → Int → Int → Int → Bool → Int → Int → List Int → Int → Int → List Int → Int → Int → List Int → Int → Int → List Int → Option (Bool)
 | 0, _, _, _, _, _, _, _, _, _, _, _, _, _, _, _, _ => none
 | k + 1, x2, x9, x11, x79, x590000, x590001, x590002, x591000, x591001, x591002, x608000, x608001, x608002, x617000, x617001, x617002 => if x79 = true then (some false) else (if x11 = 0 then (tillerlaw04_MatTimes.j4 k x2 x9 x11 false x590000 x590001 x590002 x591000 x591001 x591002 x608000 x608001 x608002 x617000 x617001 x617002) else ((tillerref04_Same.f k x617000 x617001 x617002 0 0 ([] : List Int)).bind fun t618 => (tillerlaw04_MatTimes.j4 k x2 x9 x11 (!t618) x590000 x590001 x590002 x591000 x591001 x591002 x608000 x608001 x608002 x617000 x617001 x617002)))
def tillerlaw04_MatTimes.j4 : Nat → Int → Int → Int → Bool → Int → Int → List Int → Int → Int → List Int → Int → Int → List Int → Int → Int → List Int → Option (Bool)
 | 0, _, _, _, _, _, _, _, _, _, _, _, _, _, _, _, _ => none
 | k + 1, x2, x9, x11, x87, x590000, x590001, x590002, x591000, x591001, x591002, x608000, x608001, x608002, x617000, x617001, x617002 => if x87 = true then (some false) else (tillerlaw04_MatTimes.l0 k x2 x9 x11 0 x590000 x590001 x590002 x591000 x591001 x591002 x608000 x608001 x608002 x617000 x617001 x617002)
def tillerlaw04_MatTimes.l0 : Nat → Int → Int → Int → Int → Int → Int → List Int → Int → Int → List Int → Int → Int → List Int → Int → Int → List Int → Option (Bool)
 | 0, _, _, _, _, _, _, _, _, _, _, _, _, _, _, _, _ => none
 | k + 1, x2, x9, x11, x12, x590000, x590001, x590002, x591000, x591001, x591002, x608000, x608001, x608002, x617000, x617001, x617002 => if x11 = 0 then (tillerlaw04_MatTimes.j6 k x2 x9 x11 x12 (decide (x12 < x2)) x590000 x590001 x590002 x591000 x591001 x591002 x608000 x608001 x608002 x617000 x617001 x617002) else (tillerlaw04_MatTimes.j6 k x2 x9 x11 x12 false x590000 x590001 x590002 x591000 x591001 x591002 x608000 x608001 x608002 x617000 x617001 x617002)
def tillerlaw04_MatTimes.j6 : Nat → Int → Int → Int → Int → Bool → Int → Int → List Int → Int → Int → List Int → Int → Int → List Int → Int → Int → List Int → Option (Bool)
 | 0, _, _, _, _, _, _, _, _, _, _, _, _, _, _, _, _, _ => none
 | k + 1, x2, x9, x11, x12, x94, x590000, x590001, x590002, x591000, x591001, x591002, x608000, x608001, x608002, x617000, x617001, x617002 => if x94 = true then (tillerlaw04_MatTimes.l1 k x2 x9 x11 x12 0 x590000 x590001 x590002 x591000 x591001 x591002 x608000 x608001 x608002 x617000 x617001 x617002) else (if x9 = 0 then ((tillerref04_Times.f k x590000 x590001 x590002 x591000 x591001 x591002).bind fun bt619 => ((tillerref04_Same.f k x608000 x608001 x608002 bt619.1 bt619.2.1 bt619.2.2).bind fun t624 => (some t624))) else ((tillerref04_Same.f k x608000 x608001 x608002 0 0 ([] : List Int)).bind fun t625 => (if t625 = true then (some true) else (some false))))
def tillerlaw04_MatTimes.l1 : Nat → Int → Int → Int → Int → Int → Int → Int → List Int → Int → Int → List Int → Int → Int → List Int → Int → Int → List Int → Option (Bool)
 | 0, _, _, _, _, _, _, _, _, _, _, _, _, _, _, _, _, _ => none
 | k + 1, x2, x9, x11, x12, x13, x590000, x590001, x590002, x591000, x591001, x591002, x608000, x608001, x608002, x617000, x617001, x617002 => if x13 < x2 then (if x12 = x13 then ((tillerref04_Check.f k x617000 x617001 x617002).bind fun t626 => (if t626 = 0 then (if x617000 = x2 then (if x617001 = x2 then (if 0 ≤ (wrap64 ((wrap64 (x12 * x2)) + x13)) then (if (wrap64 ((wrap64 (x12 * x2)) + x13)) < (x617002.length : Int) then (if (rd x617002 (wrap64 ((wrap64 (x12 * x2)) + x13))) = 65536 then (tillerlaw04_MatTimes.l1 k x2 x9 x11 x12 (wrap64 (x13 + 1)) x590000 x590001 x590002 x591000 x591001 x591002 x608000 x608001 x608002 x617000 x617001 x617002) else (some false)) else (none)) else (none)) else (some false)) else (some false)) else (some false))) else ((tillerref04_Check.f k x617000 x617001 x617002).bind fun t628 => (if t628 = 0 then (if x617000 = x2 then (if x617001 = x2 then (if 0 ≤ (wrap64 ((wrap64 (x12 * x2)) + x13)) then (if (wrap64 ((wrap64 (x12 * x2)) + x13)) < (x617002.length : Int) then (if (rd x617002 (wrap64 ((wrap64 (x12 * x2)) + x13))) = 0 then (tillerlaw04_MatTimes.l1 k x2 x9 x11 x12 (wrap64 (x13 + 1)) x590000 x590001 x590002 x591000 x591001 x591002 x608000 x608001 x608002 x617000 x617001 x617002) else (some false)) else (none)) else (none)) else (some false)) else (some false)) else (some false)))) else (tillerlaw04_MatTimes.l0 k x2 x9 x11 (wrap64 (x12 + 1)) x590000 x590001 x590002 x591000 x591001 x591002 x608000 x608001 x608002 x617000 x617001 x617002)
end
def tillerlaw04_MatTimes.f (k : Nat) (a0_0 : Int) (a0_1 : Int) (l0_2 : List Int) (a1_0 : Int) (a1_1 : Int) (l1_2 : List Int) (a2 : Int) : Option (Bool) := (tillerlaw04_Few.f a0_0 a0_1 l0_2).bind fun bt591 => ((tillerlaw04_Few.f a1_0 a1_1 l1_2).bind fun bt596 => ((mat_Times.f k bt591.1 bt591.2.1 bt591.2.2 bt596.1 bt596.2.1 bt596.2.2).bind fun bt601 => ((tillerref04_Check.f k bt591.1 bt591.2.1 bt591.2.2).bind fun t608 => (if t608 = 0 then ((tillerref04_Check.f k bt596.1 bt596.2.1 bt596.2.2).bind fun t609 => (tillerlaw04_MatTimes.j0 k a2 bt601.2.2.2 t609 bt591.1 bt591.2.1 bt591.2.2 bt596.1 bt596.2.1 bt596.2.2 bt601.1 bt601.2.1 bt601.2.2.1)) else (tillerlaw04_MatTimes.j0 k a2 bt601.2.2.2 t608 bt591.1 bt591.2.1 bt591.2.2 bt596.1 bt596.2.1 bt596.2.2 bt601.1 bt601.2.1 bt601.2.2.1)))))
theorem tillerlaw04_MatTimes.mono_l : ∀ k, (∀ y0 y1 y2 y3 y4 y5 y6 y7 y8 y9 y10 y11, LeO (tillerlaw04_MatTimes.j0 k y0 y1 y2 y3 y4 y5 y6 y7 y8 y9 y10 y11) (tillerlaw04_MatTimes.j0 (k + 1) y0 y1 y2 y3 y4 y5 y6 y7 y8 y9 y10 y11)) ∧ (∀ y0 y1 y2 y3 y4 y5 y6 y7 y8 y9 y10 y11 y12, LeO (tillerlaw04_MatTimes.j1 k y0 y1 y2 y3 y4 y5 y6 y7 y8 y9 y10 y11 y12) (tillerlaw04_MatTimes.j1 (k + 1) y0 y1 y2 y3 y4 y5 y6 y7 y8 y9 y10 y11 y12)) ∧ (∀ y0 y1 y2 y3 y4 y5 y6 y7 y8 y9 y10 y11, LeO (tillerlaw04_MatTimes.j2 k y0 y1 y2 y3 y4 y5 y6 y7 y8 y9 y10 y11) (tillerlaw04_MatTimes.j2 (k + 1) y0 y1 y2 y3 y4 y5 y6 y7 y8 y9 y10 y11)) ∧ (∀ y0 y1 y2 y3 y4 y5 y6 y7 y8 y9 y10 y11 y12 y13 y14 y15, LeO (tillerlaw04_MatTimes.j3 k y0 y1 y2 y3 y4 y5 y6 y7 y8 y9 y10 y11 y12 y13 y14 y15) (tillerlaw04_MatTimes.j3 (k + 1) y0 y1 y2 y3 y4 y5 y6 y7 y8 y9 y10 y11 y12 y13 y14 y15)) ∧ (∀ y0 y1 y2 y3 y4 y5 y6 y7 y8 y9 y10 y11 y12 y13 y14 y15, LeO (tillerlaw04_MatTimes.j4 k y0 y1 y2 y3 y4 y5 y6 y7 y8 y9 y10 y11 y12 y13 y14 y15) (tillerlaw04_MatTimes.j4 (k + 1) y0 y1 y2 y3 y4 y5 y6 y7 y8 y9 y10 y11 y12 y13 y14 y15)) ∧ (∀ y0 y1 y2 y3 y4 y5 y6 y7 y8 y9 y10 y11 y12 y13 y14 y15, LeO (tillerlaw04_MatTimes.l0 k y0 y1 y2 y3 y4 y5 y6 y7 y8 y9 y10 y11 y12 y13 y14 y15) (tillerlaw04_MatTimes.l0 (k + 1) y0 y1 y2 y3 y4 y5 y6 y7 y8 y9 y10 y11 y12 y13 y14 y15)) ∧ (∀ y0 y1 y2 y3 y4 y5 y6 y7 y8 y9 y10 y11 y12 y13 y14 y15 y16, LeO (tillerlaw04_MatTimes.j6 k y0 y1 y2 y3 y4 y5 y6 y7 y8 y9 y10 y11 y12 y13 y14 y15 y16) (tillerlaw04_MatTimes.j6 (k + 1) y0 y1 y2 y3 y4 y5 y6 y7 y8 y9 y10 y11 y12 y13 y14 y15 y16)) ∧ (∀ y0 y1 y2 y3 y4 y5 y6 y7 y8 y9 y10 y11 y12 y13 y14 y15 y16, LeO (tillerlaw04_MatTimes.l1 k y0 y1 y2 y3 y4 y5 y6 y7 y8 y9 y10 y11 y12 y13 y14 y15 y16) (tillerlaw04_MatTimes.l1 (k + 1) y0 y1 y2 y3 y4 y5 y6 y7 y8 y9 y10 y11 y12 y13 y14 y15 y16))
 | 0 => ⟨fun _ _ _ _ _ _ _ _ _ _ _ _ r h => by simp [tillerlaw04_MatTimes.j0] at h, fun _ _ _ _ _ _ _ _ _ _ _ _ _ r h => by simp [tillerlaw04_MatTimes.j1] at h, fun _ _ _ _ _ _ _ _ _ _ _ _ r h => by simp [tillerlaw04_MatTimes.j2] at h, fun _ _ _ _ _ _ _ _ _ _ _ _ _ _ _ _ r h => by simp [tillerlaw04_MatTimes.j3] at h, fun _ _ _ _ _ _ _ _ _ _ _ _ _ _ _ _ r h => by simp [tillerlaw04_MatTimes.j4] at h, fun _ _ _ _ _ _ _ _ _ _ _ _ _ _ _ _ r h => by simp [tillerlaw04_MatTimes.l0] at h, fun _ _ _ _ _ _ _ _ _ _ _ _ _ _ _ _ _ r h => by simp [tillerlaw04_MatTimes.j6] at h, fun _ _ _ _ _ _ _ _ _ _ _ _ _ _ _ _ _ r h => by simp [tillerlaw04_MatTimes.l1] at h⟩
 | k + 1 => by
  obtain ⟨ih0, ih1, ih2, ih3, ih4, ih5, ih6, ih7⟩ := tillerlaw04_MatTimes.mono_l k
  refine ⟨?_, ?_, ?_, ?_, ?_, ?_, ?_, ?_⟩
  ·intro y0 y1 y2 y3 y4 y5 y6 y7 y8 y9 y10 y11
   unfold tillerlaw04_MatTimes.j0
   repeat' first
   | (with_reducible exact ih0 _ _ _ _ _ _ _ _ _ _ _ _)
   | (with_reducible exact ih1 _ _ _ _ _ _ _ _ _ _ _ _ _)
   | (with_reducible exact ih2 _ _ _ _ _ _ _ _ _ _ _ _)
   | (with_reducible exact ih3 _ _ _ _ _ _ _ _ _ _ _ _ _ _ _ _)
   | (with_reducible exact ih4 _ _ _ _ _ _ _ _ _ _ _ _ _ _ _ _)
   | (with_reducible exact ih5 _ _ _ _ _ _ _ _ _ _ _ _ _ _ _ _)
   | (with_reducible exact ih6 _ _ _ _ _ _ _ _ _ _ _ _ _ _ _ _ _)
   | (with_reducible exact ih7 _ _ _ _ _ _ _ _ _ _ _ _ _ _ _ _ _)
   | (with_reducible exact mat_Times.mono _ _ _ _ _ _ _)
   | (with_reducible exact mat_Unit.mono _ _)
   | (with_reducible exact tillerlaw04_awake.mono _)
   | (with_reducible exact tillerref04_Check.mono _ _ _ _)
   | (with_reducible exact tillerref04_Same.mono _ _ _ _ _ _ _)
   | (with_reducible exact tillerref04_Times.mono _ _ _ _ _ _ _)
   | (with_reducible exact LeO.refl _)
   | (with_reducible exact LeO.none _)
   | (with_reducible refine LeO.ite ?_ ?_)
   | (with_reducible refine LeO.bind ?_ (fun _ => ?_))
   | exact ih0 _ _ _ _ _ _ _ _ _ _ _ _
   | exact ih1 _ _ _ _ _ _ _ _ _ _ _ _ _
   | exact ih2 _ _ _ _ _ _ _ _ _ _ _ _
   | exact ih3 _ _ _ _ _ _ _ _ _ _ _ _ _ _ _ _
   | exact ih4 _ _ _ _ _ _ _ _ _ _ _ _ _ _ _ _
   | exact ih5 _ _ _ _ _ _ _ _ _ _ _ _ _ _ _ _
   | exact ih6 _ _ _ _ _ _ _ _ _ _ _ _ _ _ _ _ _
   | exact ih7 _ _ _ _ _ _ _ _ _ _ _ _ _ _ _ _ _
   | exact mat_Times.mono _ _ _ _ _ _ _
   | exact mat_Unit.mono _ _
   | exact tillerlaw04_awake.mono _
   | exact tillerref04_Check.mono _ _ _ _
   | exact tillerref04_Same.mono _ _ _ _ _ _ _
   | exact tillerref04_Times.mono _ _ _ _ _ _ _
   | exact LeO.none _
   | refine LeO.ite ?_ ?_
   | refine LeO.bind ?_ (fun _ => ?_)
  ·intro y0 y1 y2 y3 y4 y5 y6 y7 y8 y9 y10 y11 y12
   unfold tillerlaw04_MatTimes.j1
   repeat' first
   | (with_reducible exact ih0 _ _ _ _ _ _ _ _ _ _ _ _)
   | (with_reducible exact ih1 _ _ _ _ _ _ _ _ _ _ _ _ _)
   | (with_reducible exact ih2 _ _ _ _ _ _ _ _ _ _ _ _)
   | (with_reducible exact ih3 _ _ _ _ _ _ _ _ _ _ _ _ _ _ _ _)
   | (with_reducible exact ih4 _ _ _ _ _ _ _ _ _ _ _ _ _ _ _ _)
   | (with_reducible exact ih5 _ _ _ _ _ _ _ _ _ _ _ _ _ _ _ _)
   | (with_reducible exact ih6 _ _ _ _ _ _ _ _ _ _ _ _ _ _ _ _ _)
   | (with_reducible exact ih7 _ _ _ _ _ _ _ _ _ _ _ _ _ _ _ _ _)
   | (with_reducible exact mat_Times.mono _ _ _ _ _ _ _)
   | (with_reducible exact mat_Unit.mono _ _)
   | (with_reducible exact tillerlaw04_awake.mono _)
   | (with_reducible exact tillerref04_Check.mono _ _ _ _)
   | (with_reducible exact tillerref04_Same.mono _ _ _ _ _ _ _)
   | (with_reducible exact tillerref04_Times.mono _ _ _ _ _ _ _)
   | (with_reducible exact LeO.refl _)
   | (with_reducible exact LeO.none _)
   | (with_reducible refine LeO.ite ?_ ?_)
   | (with_reducible refine LeO.bind ?_ (fun _ => ?_))
   | exact ih0 _ _ _ _ _ _ _ _ _ _ _ _
   | exact ih1 _ _ _ _ _ _ _ _ _ _ _ _ _
   | exact ih2 _ _ _ _ _ _ _ _ _ _ _ _
   | exact ih3 _ _ _ _ _ _ _ _ _ _ _ _ _ _ _ _
   | exact ih4 _ _ _ _ _ _ _ _ _ _ _ _ _ _ _ _
   | exact ih5 _ _ _ _ _ _ _ _ _ _ _ _ _ _ _ _
   | exact ih6 _ _ _ _ _ _ _ _ _ _ _ _ _ _ _ _ _
   | exact ih7 _ _ _ _ _ _ _ _ _ _ _ _ _ _ _ _ _
   | exact mat_Times.mono _ _ _ _ _ _ _
   | exact mat_Unit.mono _ _
   | exact tillerlaw04_awake.mono _
   | exact tillerref04_Check.mono _ _ _ _
   | exact tillerref04_Same.mono _ _ _ _ _ _ _
   | exact tillerref04_Times.mono _ _ _ _ _ _ _
   | exact LeO.none _
   | refine LeO.ite ?_ ?_
   | refine LeO.bind ?_ (fun _ => ?_)
  ·intro y0 y1 y2 y3 y4 y5 y6 y7 y8 y9 y10 y11
   unfold tillerlaw04_MatTimes.j2
   repeat' first
   | (with_reducible exact ih0 _ _ _ _ _ _ _ _ _ _ _ _)
   | (with_reducible exact ih1 _ _ _ _ _ _ _ _ _ _ _ _ _)
   | (with_reducible exact ih2 _ _ _ _ _ _ _ _ _ _ _ _)
   | (with_reducible exact ih3 _ _ _ _ _ _ _ _ _ _ _ _ _ _ _ _)
   | (with_reducible exact ih4 _ _ _ _ _ _ _ _ _ _ _ _ _ _ _ _)
   | (with_reducible exact ih5 _ _ _ _ _ _ _ _ _ _ _ _ _ _ _ _)
   | (with_reducible exact ih6 _ _ _ _ _ _ _ _ _ _ _ _ _ _ _ _ _)
   | (with_reducible exact ih7 _ _ _ _ _ _ _ _ _ _ _ _ _ _ _ _ _)
   | (with_reducible exact mat_Times.mono _ _ _ _ _ _ _)
   | (with_reducible exact mat_Unit.mono _ _)
   | (with_reducible exact tillerlaw04_awake.mono _)
   | (with_reducible exact tillerref04_Check.mono _ _ _ _)
   | (with_reducible exact tillerref04_Same.mono _ _ _ _ _ _ _)
   | (with_reducible exact tillerref04_Times.mono _ _ _ _ _ _ _)
   | (with_reducible exact LeO.refl _)
   | (with_reducible exact LeO.none _)
   | (with_reducible refine LeO.ite ?_ ?_)
   | (with_reducible refine LeO.bind ?_ (fun _ => ?_))
   | exact ih0 _ _ _ _ _ _ _ _ _ _ _ _
   | exact ih1 _ _ _ _ _ _ _ _ _ _ _ _ _
   | exact ih2 _ _ _ _ _ _ _ _ _ _ _ _
   | exact ih3 _ _ _ _ _ _ _ _ _ _ _ _ _ _ _ _
   | exact ih4 _ _ _ _ _ _ _ _ _ _ _ _ _ _ _ _
   | exact ih5 _ _ _ _ _ _ _ _ _ _ _ _ _ _ _ _
   | exact ih6 _ _ _ _ _ _ _ _ _ _ _ _ _ _ _ _ _
   | exact ih7 _ _ _ _ _ _ _ _ _ _ _ _ _ _ _ _ _
   | exact mat_Times.mono _ _ _ _ _ _ _
   | exact mat_Unit.mono _ _
   | exact tillerlaw04_awake.mono _
   | exact tillerref04_Check.mono _ _ _ _
   | exact tillerref04_Same.mono _ _ _ _ _ _ _
   | exact tillerref04_Times.mono _ _ _ _ _ _ _
   | exact LeO.none _
   | refine LeO.ite ?_ ?_
   | refine LeO.bind ?_ (fun _ => ?_)
  ·intro y0 y1 y2 y3 y4 y5 y6 y7 y8 y9 y10 y11 y12 y13 y14 y15
   unfold tillerlaw04_MatTimes.j3
   repeat' first
   | (with_reducible exact ih0 _ _ _ _ _ _ _ _ _ _ _ _)
   | (with_reducible exact ih1 _ _ _ _ _ _ _ _ _ _ _ _ _)
   | (with_reducible exact ih2 _ _ _ _ _ _ _ _ _ _ _ _)
   | (with_reducible exact ih3 _ _ _ _ _ _ _ _ _ _ _ _ _ _ _ _)
   | (with_reducible exact ih4 _ _ _ _ _ _ _ _ _ _ _ _ _ _ _ _)
   | (with_reducible exact ih5 _ _ _ _ _ _ _ _ _ _ _ _ _ _ _ _)
   | (with_reducible exact ih6 _ _ _ _ _ _ _ _ _ _ _ _ _ _ _ _ _)
   | (with_reducible exact ih7 _ _ _ _ _ _ _ _ _ _ _ _ _ _ _ _ _)
   | (with_reducible exact mat_Times.mono _ _ _ _ _ _ _)
   | (with_reducible exact mat_Unit.mono _ _)
   | (with_reducible exact tillerlaw04_awake.mono _)
   | (with_reducible exact tillerref04_Check.mono _ _ _ _)
   | (with_reducible exact tillerref04_Same.mono _ _ _ _ _ _ _)
   | (with_reducible exact tillerref04_Times.mono _ _ _ _ _ _ _)
   | (with_reducible exact LeO.refl _)
   | (with_reducible exact LeO.none _)
   | (with_reducible refine LeO.ite ?_ ?_)
   | (with_reducible refine LeO.bind ?_ (fun _ => ?_))
   | exact ih0 _ _ _ _ _ _ _ _ _ _ _ _
   | exact ih1 _ _ _ _ _ _ _ _ _ _ _ _ _
   | exact ih2 _ _ _ _ _ _ _ _ _ _ _ _
   | exact ih3 _ _ _ _ _ _ _ _ _ _ _ _ _ _ _ _
   | exact ih4 _ _ _ _ _ _ _ _ _ _ _ _ _ _ _ _
   | exact ih5 _ _ _ _ _ _ _ _ _ _ _ _ _ _ _ _
   | exact ih6 _ _ _ _ _ _ _ _ _ _ _ _ _ _ _ _ _
   | exact ih7 _ _ _ _ _ _ _ _ _ _ _ _ _ _ _ _ _
   | exact mat_Times.mono _ _ _ _ _ _ _
   | exact mat_Unit.mono _ _
   | exact tillerlaw04_awake.mono _
   | exact tillerref04_Check.mono _ _ _ _
   | exact tillerref04_Same.mono _ _ _ _ _ _ _
   | exact tillerref04_Times.mono _ _ _ _ _ _ _
   | exact LeO.none _
   | refine LeO.ite ?_ ?_
   | refine LeO.bind ?_ (fun _ => ?_)
  ·intro y0 y1 y2 y3 y4 y5 y6 y7 y8 y9 y10 y11 y12 y13 y14 y15
   unfold tillerlaw04_MatTimes.j4
   repeat' first
   | (with_reducible exact ih0 _ _ _ _ _ _ _ _ _ _ _ _)
   | (with_reducible exact ih1 _ _ _ _ _ _ _ _ _ _ _ _ _)
   | (with_reducible exact ih2 _ _ _ _ _ _ _ _ _ _ _ _)
   | (with_reducible exact ih3 _ _ _ _ _ _ _ _ _ _ _ _ _ _ _ _)
   | (with_reducible exact ih4 _ _ _ _ _ _ _ _ _ _ _ _ _ _ _ _)
   | (with_reducible exact ih5 _ _ _ _ _ _ _ _ _ _ _ _ _ _ _ _)
   | (with_reducible exact ih6 _ _ _ _ _ _ _ _ _ _ _ _ _ _ _ _ _)
   | (with_reducible exact ih7 _ _ _ _ _ _ _ _ _ _ _ _ _ _ _ _ _)
   | (with_reducible exact mat_Times.mono _ _ _ _ _ _ _)
   | (with_reducible exact mat_Unit.mono _ _)
   | (with_reducible exact tillerlaw04_awake.mono _)
   | (with_reducible exact tillerref04_Check.mono _ _ _ _)
   | (with_reducible exact tillerref04_Same.mono _ _ _ _ _ _ _)
   | (with_reducible exact tillerref04_Times.mono _ _ _ _ _ _ _)
   | (with_reducible exact LeO.refl _)
   | (with_reducible exact LeO.none _)
   | (with_reducible refine LeO.ite ?_ ?_)
   | (with_reducible refine LeO.bind ?_ (fun _ => ?_))
   | exact ih0 _ _ _ _ _ _ _ _ _ _ _ _
   | exact ih1 _ _ _ _ _ _ _ _ _ _ _ _ _
   | exact ih2 _ _ _ _ _ _ _ _ _ _ _ _
   | exact ih3 _ _ _ _ _ _ _ _ _ _ _ _ _ _ _ _
   | exact ih4 _ _ _ _ _ _ _ _ _ _ _ _ _ _ _ _
   | exact ih5 _ _ _ _ _ _ _ _ _ _ _ _ _ _ _ _
   | exact ih6 _ _ _ _ _ _ _ _ _ _ _ _ _ _ _ _ _
   | exact ih7 _ _ _ _ _ _ _ _ _ _ _ _ _ _ _ _ _
   | exact mat_Times.mono _ _ _ _ _ _ _
   | exact mat_Unit.mono _ _
   | exact tillerlaw04_awake.mono _
   | exact tillerref04_Check.mono _ _ _ _
   | exact tillerref04_Same.mono _ _ _ _ _ _ _
   | exact tillerref04_Times.mono _ _ _ _ _ _ _
   | exact LeO.none _
   | refine LeO.ite ?_ ?_
   | refine LeO.bind ?_ (fun _ => ?_)
  ·intro y0 y1 y2 y3 y4 y5 y6 y7 y8 y9 y10 y11 y12 y13 y14 y15
   unfold tillerlaw04_MatTimes.l0
   repeat' first
   | (with_reducible exact ih0 _ _ _ _ _ _ _ _ _ _ _ _)
   | (with_reducible exact ih1 _ _ _ _ _ _ _ _ _ _ _ _ _)
   | (with_reducible exact ih2 _ _ _ _ _ _ _ _ _ _ _ _)
   | (with_reducible exact ih3 _ _ _ _ _ _ _ _ _ _ _ _ _ _ _ _)
   | (with_reducible exact ih4 _ _ _ _ _ _ _ _ _ _ _ _ _ _ _ _)
   | (with_reducible exact ih5 _ _ _ _ _ _ _ _ _ _ _ _ _ _ _ _)
   | (with_reducible exact ih6 _ _ _ _ _ _ _ _ _ _ _ _ _ _ _ _ _)
   | (with_reducible exact ih7 _ _ _ _ _ _ _ _ _ _ _ _ _ _ _ _ _)
   | (with_reducible exact mat_Times.mono _ _ _ _ _ _ _)
   | (with_reducible exact mat_Unit.mono _ _)
   | (with_reducible exact tillerlaw04_awake.mono _)
   | (with_reducible exact tillerref04_Check.mono _ _ _ _)
   | (with_reducible exact tillerref04_Same.mono _ _ _ _ _ _ _)
   | (with_reducible exact tillerref04_Times.mono _ _ _ _ _ _ _)
   | (with_reducible exact LeO.refl _)
   | (with_reducible exact LeO.none _)
   | (with_reducible refine LeO.ite ?_ ?_)
   | (with_reducible refine LeO.bind ?_ (fun _ => ?_))
   | exact ih0 _ _ _ _ _ _ _ _ _ _ _ _
   | exact ih1 _ _ _ _ _ _ _ _ _ _ _ _ _
   | exact ih2 _ _ _ _ _ _ _ _ _ _ _ _
   | exact ih3 _ _ _ _ _ _ _ _ _ _ _ _ _ _ _ _
   | exact ih4 _ _ _ _ _ _ _ _ _ _ _ _ _ _ _ _
   | exact ih5 _ _ _ _ _ _ _ _ _ _ _ _ _ _ _ _
   | exact ih6 _ _ _ _ _ _ _ _ _ _ _ _ _ _ _ _ _
   | exact ih7 _ _ _ _ _ _ _ _ _ _ _ _ _ _ _ _ _
   | exact mat_Times.mono _ _ _ _ _ _ _
   | exact mat_Unit.mono _ _
   | exact tillerlaw04_awake.mono _
   | exact tillerref04_Check.mono _ _ _ _
   | exact tillerref04_Same.mono _ _ _ _ _ _ _
   | exact tillerref04_Times.mono _ _ _ _ _ _ _
   | exact LeO.none _
   | refine LeO.ite ?_ ?_
   | refine LeO.bind ?_ (fun _ => ?_)
  ·intro y0 y1 y2 y3 y4 y5 y6 y7 y8 y9 y10 y11 y12 y13 y14 y15 y16
   unfold tillerlaw04_MatTimes.j6
   repeat' first
   | (with_reducible exact ih0 _ _ _ _ _ _ _ _ _ _ _ _)
   | (with_reducible exact ih1 _ _ _ _ _ _ _ _ _ _ _ _ _)
   | (with_reducible exact ih2 _ _ _ _ _ _ _ _ _ _ _ _)
   | (with_reducible exact ih3 _ _ _ _ _ _ _ _ _ _ _ _ _ _ _ _)
   | (with_reducible exact ih4 _ _ _ _ _ _ _ _ _ _ _ _ _ _ _ _)
   | (with_reducible exact ih5 _ _ _ _ _ _ _ _ _ _ _ _ _ _ _ _)
   | (with_reducible exact ih6 _ _ _ _ _ _ _ _ _ _ _ _ _ _ _ _ _)
   | (with_reducible exact ih7 _ _ _ _ _ _ _ _ _ _ _ _ _ _ _ _ _)
   | (with_reducible exact mat_Times.mono _ _ _ _ _ _ _)
   | (with_reducible exact mat_Unit.mono _ _)
   | (with_reducible exact tillerlaw04_awake.mono _)
   | (with_reducible exact tillerref04_Check.mono _ _ _ _)
   | (with_reducible exact tillerref04_Same.mono _ _ _ _ _ _ _)
   | (with_reducible exact tillerref04_Times.mono _ _ _ _ _ _ _)
   | (with_reducible exact LeO.refl _)
   | (with_reducible exact LeO.none _)
   | (with_reducible refine LeO.ite ?_ ?_)
   | (with_reducible refine LeO.bind ?_ (fun _ => ?_))
   | exact ih0 _ _ _ _ _ _ _ _ _ _ _ _
   | exact ih1 _ _ _ _ _ _ _ _ _ _ _ _ _
   | exact ih2 _ _ _ _ _ _ _ _ _ _ _ _
   | exact ih3 _ _ _ _ _ _ _ _ _ _ _ _ _ _ _ _
   | exact ih4 _ _ _ _ _ _ _ _ _ _ _ _ _ _ _ _
   | exact ih5 _ _ _ _ _ _ _ _ _ _ _ _ _ _ _ _
   | exact ih6 _ _ _ _ _ _ _ _ _ _ _ _ _ _ _ _ _
   | exact ih7 _ _ _ _ _ _ _ _ _ _ _ _ _ _ _ _ _
   | exact mat_Times.mono _ _ _ _ _ _ _
   | exact mat_Unit.mono _ _
   | exact tillerlaw04_awake.mono _
   | exact tillerref04_Check.mono _ _ _ _
   | exact tillerref04_Same.mono _ _ _ _ _ _ _
   | exact tillerref04_Times.mono _ _ _ _ _ _ _
   | exact LeO.none _
   | refine LeO.ite ?_ ?_
   | refine LeO.bind ?_ (fun _ => ?_)
  ·intro y0 y1 y2 y3 y4 y5 y6 y7 y8 y9 y10 y11 y12 y13 y14 y15 y16
   unfold tillerlaw04_MatTimes.l1
   repeat' first
   | (with_reducible exact ih0 _ _ _ _ _ _ _ _ _ _ _ _)
   | (with_reducible exact ih1 _ _ _ _ _ _ _ _ _ _ _ _ _)
   | (with_reducible exact ih2 _ _ _ _ _ _ _ _ _ _ _ _)
   | (with_reducible exact ih3 _ _ _ _ _ _ _ _ _ _ _ _ _ _ _ _)
   | (with_reducible exact ih4 _ _ _ _ _ _ _ _ _ _ _ _ _ _ _ _)
   | (with_reducible exact ih5 _ _ _ _ _ _ _ _ _ _ _ _ _ _ _ _)
   | (with_reducible exact ih6 _ _ _ _ _ _ _ _ _ _ _ _ _ _ _ _ _)
   | (with_reducible exact ih7 _ _ _ _ _ _ _ _ _ _ _ _ _ _ _ _ _)
   | (with_reducible exact mat_Times.mono _ _ _ _ _ _ _)
   | (with_reducible exact mat_Unit.mono _ _)
   | (with_reducible exact tillerlaw04_awake.mono _)
   | (with_reducible exact tillerref04_Check.mono _ _ _ _)
   | (with_reducible exact tillerref04_Same.mono _ _ _ _ _ _ _)
   | (with_reducible exact tillerref04_Times.mono _ _ _ _ _ _ _)
   | (with_reducible exact LeO.refl _)
   | (with_reducible exact LeO.none _)
   | (with_reducible refine LeO.ite ?_ ?_)
   | (with_reducible refine LeO.bind ?_ (fun _ => ?_))
   | exact ih0 _ _ _ _ _ _ _ _ _ _ _ _
   | exact ih1 _ _ _ _ _ _ _ _ _ _ _ _ _
   | exact ih2 _ _ _ _ _ _ _ _ _ _ _ _
   | exact ih3 _ _ _ _ _ _ _ _ _ _ _ _ _ _ _ _
   | exact ih4 _ _ _ _ _ _ _ _ _ _ _ _ _ _ _ _
   | exact ih5 _ _ _ _ _ _ _ _ _ _ _ _ _ _ _ _
   | exact ih6 _ _ _ _ _ _ _ _ _ _ _ _ _ _ _ _ _
   | exact ih7 _ _ _ _ _ _ _ _ _ _ _ _ _ _ _ _ _
   | exact mat_Times.mono _ _ _ _ _ _ _
   | exact mat_Unit.mono _ _
   | exact tillerlaw04_awake.mono _
   | exact tillerref04_Check.mono _ _ _ _
   | exact tillerref04_Same.mono _ _ _ _ _ _ _
   | exact tillerref04_Times.mono _ _ _ _ _ _ _
   | exact LeO.none _
   | refine LeO.ite ?_ ?_
   | refine LeO.bind ?_ (fun _ => ?_)
theorem tillerlaw04_MatTimes.mono : ∀ a0 a1 a2 a3 a4 a5 a6 k, LeO (tillerlaw04_MatTimes.f k a0 a1 a2 a3 a4 a5 a6) (tillerlaw04_MatTimes.f (k + 1) a0 a1 a2 a3 a4 a5 a6) := by
 intro a0 a1 a2 a3 a4 a5 a6 k
 obtain ⟨ih0, ih1, ih2, ih3, ih4, ih5, ih6, ih7⟩ := tillerlaw04_MatTimes.mono_l k
 unfold tillerlaw04_MatTimes.f
 repeat' first
   | (with_reducible exact ih0 _ _ _ _ _ _ _ _ _ _ _ _)
   | (with_reducible exact ih1 _ _ _ _ _ _ _ _ _ _ _ _ _)
   | (with_reducible exact ih2 _ _ _ _ _ _ _ _ _ _ _ _)
   | (with_reducible exact ih3 _ _ _ _ _ _ _ _ _ _ _ _ _ _ _ _)
   | (with_reducible exact ih4 _ _ _ _ _ _ _ _ _ _ _ _ _ _ _ _)
   | (with_reducible exact ih5 _ _ _ _ _ _ _ _ _ _ _ _ _ _ _ _)
   | (with_reducible exact ih6 _ _ _ _ _ _ _ _ _ _ _ _ _ _ _ _ _)
   | (with_reducible exact ih7 _ _ _ _ _ _ _ _ _ _ _ _ _ _ _ _ _)
   | (with_reducible exact mat_Times.mono _ _ _ _ _ _ _)
   | (with_reducible exact mat_Unit.mono _ _)
   | (with_reducible exact tillerlaw04_awake.mono _)
   | (with_reducible exact tillerref04_Check.mono _ _ _ _)
   | (with_reducible exact tillerref04_Same.mono _ _ _ _ _ _ _)
   | (with_reducible exact tillerref04_Times.mono _ _ _ _ _ _ _)
   | (with_reducible exact LeO.refl _)
   | (with_reducible exact LeO.none _)
   | (with_reducible refine LeO.ite ?_ ?_)
   | (with_reducible refine LeO.bind ?_ (fun _ => ?_))
   | exact ih0 _ _ _ _ _ _ _ _ _ _ _ _
   | exact ih1 _ _ _ _ _ _ _ _ _ _ _ _ _
   | exact ih2 _ _ _ _ _ _ _ _ _ _ _ _
   | exact ih3 _ _ _ _ _ _ _ _ _ _ _ _ _ _ _ _
   | exact ih4 _ _ _ _ _ _ _ _ _ _ _ _ _ _ _ _
   | exact ih5 _ _ _ _ _ _ _ _ _ _ _ _ _ _ _ _
   | exact ih6 _ _ _ _ _ _ _ _ _ _ _ _ _ _ _ _ _
   | exact ih7 _ _ _ _ _ _ _ _ _ _ _ _ _ _ _ _ _
   | exact mat_Times.mono _ _ _ _ _ _ _
   | exact mat_Unit.mono _ _
   | exact tillerlaw04_awake.mono _
   | exact tillerref04_Check.mono _ _ _ _
   | exact tillerref04_Same.mono _ _ _ _ _ _ _
   | exact tillerref04_Times.mono _ _ _ _ _ _ _
   | exact LeO.none _
   | refine LeO.ite ?_ ?_
   | refine LeO.bind ?_ (fun _ => ?_)
def tillerlaw04_MatTimes.T24 : Bool × List (List Nat × List Nat) := (true, [([], []), ([0], [0]), ([1], [1]), ([2], [2]), ([2], [2]), ([3, 4, 2, 2], [2, 3, 4]), ([2, 5], [2, 5]), ([6, 5], [6]), ([7], [7]), ([8, 7], [7, 8]), ([9, 7, 7], [7, 9]), ([10], [10]), ([10], [10]), ([10], [10]), ([12, 13, 10, 10], [10, 12, 13]), ([11, 14, 14, 10], [10, 11, 14]), ([10, 15, 7], [7, 10, 15]), ([7, 16], [7, 16]), ([17, 15, 0, 1, 2, 3, 4, 5, 6, 7, 8, 9, 10, 11, 12, 13, 14, 15, 16, 17], [17])])
def tillerlaw04_MatTimes.B24 : List Nat := [0, 1, 3, 7, 7, 31, 63, 127, 255, 511, 1023, 2047, 2047, 2047, 14335, 32767, 65535, 131071, 262143]
theorem tillerlaw04_MatTimes.tab24 : rtab .any (opsOf Try.f11 24) = tillerlaw04_MatTimes.T24 := by kernel_rfl
theorem tillerlaw04_MatTimes.bits24 : waitsOk tillerlaw04_MatTimes.T24.2 tillerlaw04_MatTimes.B24 = true := by kernel_rfl
set_option maxHeartbeats 8000000 in
set_option maxRecDepth 100000 in
theorem tillerlaw04_MatTimes.calls (k : Nat) (a0_0 : Int) (a0_1 : Int) (A0_2 : Option Addr) (c0_2 : Nat) (l0_2 : List Int) (a1_0 : Int) (a1_1 : Int) (A1_2 : Option Addr) (c1_2 : Nat) (l1_2 : List Int) (a2 : Int) (r : Bool) (w : World) (hr0_2 : Kd.C (Kd.int .i32) w A0_2 l0_2.length l0_2) (hc0_2 : l0_2.length ≤ c0_2) (hr1_2 : Kd.C (Kd.int .i32) w A1_2 l1_2.length l1_2) (hc1_2 : l1_2.length ≤ c1_2) (hr_ : Aside0 (r = true)) (h : tillerlaw04_MatTimes.f k a0_0 a0_1 l0_2 a1_0 a1_1 l1_2 a2 = some r) :
  Calls Try.prog 11 #[.agg #[.int .i64 a0_0, .int .i64 a0_1, .slice A0_2 l0_2.length c0_2], .agg #[.int .i64 a1_0, .int .i64 a1_1, .slice A1_2 l1_2.length c1_2], .int .i64 a2] w fun e w' => e = .returned (.bool r) ∧ Below w.heap.size w w' := by
 have hu46 := Try.underlying46
 have HR0_2 := Aside0.mk hr0_2
 have HC0_2 := Aside0.mk hc0_2
 clear hr0_2 hc0_2
 have HR1_2 := Aside0.mk hr1_2
 have HC1_2 := Aside0.mk hc1_2
 clear hr1_2 hc1_2
 have HB := Aside0.mk (Below.refl w.heap.size w)
 have H : ((tillerlaw04_Few.f a0_0 a0_1 l0_2).bind fun bt591 => ((tillerlaw04_Few.f a1_0 a1_1 l1_2).bind fun bt596 => ((mat_Times.f k bt591.1 bt591.2.1 bt591.2.2 bt596.1 bt596.2.1 bt596.2.2).bind fun bt601 => ((tillerref04_Check.f k bt591.1 bt591.2.1 bt591.2.2).bind fun t608 => (if t608 = 0 then ((tillerref04_Check.f k bt596.1 bt596.2.1 bt596.2.2).bind fun t609 => (tillerlaw04_MatTimes.j0 k a2 bt601.2.2.2 t609 bt591.1 bt591.2.1 bt591.2.2 bt596.1 bt596.2.1 bt596.2.2 bt601.1 bt601.2.1 bt601.2.2.1)) else (tillerlaw04_MatTimes.j0 k a2 bt601.2.2.2 t608 bt591.1 bt591.2.1 bt591.2.2 bt596.1 bt596.2.1 bt596.2.2 bt601.1 bt601.2.1 bt601.2.2.1)))))) = some r := h
 clear h
 replace H := Option.bind_eq_some_iff.mp H
 obtain ⟨⟨t591, t592, t593⟩, A40, H⟩ := H
 replace H : ((tillerlaw04_Few.f a1_0 a1_1 l1_2).bind fun bt596 => ((mat_Times.f k t591 t592 t593 bt596.1 bt596.2.1 bt596.2.2).bind fun bt601 => ((tillerref04_Check.f k t591 t592 t593).bind fun t608 => (if t608 = 0 then ((tillerref04_Check.f k bt596.1 bt596.2.1 bt596.2.2).bind fun t609 => (tillerlaw04_MatTimes.j0 k a2 bt601.2.2.2 t609 t591 t592 t593 bt596.1 bt596.2.1 bt596.2.2 bt601.1 bt601.2.1 bt601.2.2.1)) else (tillerlaw04_MatTimes.j0 k a2 bt601.2.2.2 t608 t591 t592 t593 bt596.1 bt596.2.1 bt596.2.2 bt601.1 bt601.2.1 bt601.2.2.1))))) = some r := H
 have A4 := Aside0.mk A40
 clear A40
 replace H := Option.bind_eq_some_iff.mp H
 obtain ⟨⟨t596, t597, t598⟩, A50, H⟩ := H
 replace H : ((mat_Times.f k t591 t592 t593 t596 t597 t598).bind fun bt601 => ((tillerref04_Check.f k t591 t592 t593).bind fun t608 => (if t608 = 0 then ((tillerref04_Check.f k t596 t597 t598).bind fun t609 => (tillerlaw04_MatTimes.j0 k a2 bt601.2.2.2 t609 t591 t592 t593 t596 t597 t598 bt601.1 bt601.2.1 bt601.2.2.1)) else (tillerlaw04_MatTimes.j0 k a2 bt601.2.2.2 t608 t591 t592 t593 t596 t597 t598 bt601.1 bt601.2.1 bt601.2.2.1)))) = some r := H
 have A5 := Aside0.mk A50
 clear A50
 replace H := Option.bind_eq_some_iff.mp H
 obtain ⟨⟨t601, t602, t603, t606⟩, A60, H⟩ := H
 replace H : ((tillerref04_Check.f k t591 t592 t593).bind fun t608 => (if t608 = 0 then ((tillerref04_Check.f k t596 t597 t598).bind fun t609 => (tillerlaw04_MatTimes.j0 k a2 t606 t609 t591 t592 t593 t596 t597 t598 t601 t602 t603)) else (tillerlaw04_MatTimes.j0 k a2 t606 t608 t591 t592 t593 t596 t597 t598 t601 t602 t603))) = some r := H
 have A6 := Aside0.mk A60
 clear A60
 replace H := Option.bind_eq_some_iff.mp H
 obtain ⟨t608, A70, H⟩ := H
 replace H : (if t608 = 0 then ((tillerref04_Check.f k t596 t597 t598).bind fun t609 => (tillerlaw04_MatTimes.j0 k a2 t606 t609 t591 t592 t593 t596 t597 t598 t601 t602 t603)) else (tillerlaw04_MatTimes.j0 k a2 t606 t608 t591 t592 t593 t596 t597 t598 t601 t602 t603)) = some r := H
 have A7 := Aside0.mk A70
 clear A70
 have HC8 := Aside0.mk H
 clear H
 go_enter Try.func11, Try.ntmps11
 try go_wp2_with (first | ((with_reducible refine gate_dst (N := 3) rfl ?_); refine box_event ?hg (N := 3) ?hd (cs := #[.int .i64 a0_0, .int .i64 a0_1, .slice A0_2 l0_2.length c0_2]) (t := 46) ?hr ?_; (case hd => rfl); (case hg => rfl); (case hr => first | (go_simp; done) | (go_simp; rfl)); intro gb589 hg w9 hbox hb; have n0_ := Aside0.mk (below_step (by repeat (first | (with_reducible first | exact HB.out | apply bwA | apply bwN | apply bwD) | exact HB.out)) hb); have n1_ := Aside0.mk (hbox); have n2_ := Aside0.mk ((by rw [hg]; exact (below_size (by repeat (first | (with_reducible first | exact HB.out | apply bwA | apply bwN | apply bwD) | exact HB.out))) : w.heap.size ≤ gb589)); have n3_ := Aside0.mk ((by rw [hg]; exact (below_size (by repeat (first | (with_reducible first | exact HB.out | apply bwA | apply bwN | apply bwD) | exact HB.out))) : w.heap.size ≤ gb589)); clear HB; have HB := n0_; have BK589 := n1_; have GW589 := n2_; have GE589 := n3_; clear n0_ n1_ n2_ n3_; clear hb hbox hg) | ((with_reducible refine gate_dst (N := 4) rfl ?_); refine box_event ?hg (N := 4) ?hd (cs := #[.int .i64 a1_0, .int .i64 a1_1, .slice A1_2 l1_2.length c1_2]) (t := 46) ?hr ?_; (case hd => rfl); (case hg => rfl); (case hr => first | (go_simp; done) | (go_simp; rfl)); intro gb590 hg w10 hbox hb; have n0_ := Aside0.mk (blk_below (g := gb589) (o := .cells #[.int .i64 a0_0, .int .i64 a0_1, .slice A0_2 l0_2.length c0_2] 46 (0, 0)) (by (with_reducible repeat (first | apply bkN | apply bkD | apply bkA)); exact BK589.out) hb); have n1_ := Aside0.mk (below_step (by repeat (first | (with_reducible first | exact HB.out | apply bwA | apply bwN | apply bwD | refine below_set ?_ GE589.out) | exact HB.out)) hb); have n2_ := Aside0.mk (hbox); have n3_ := Aside0.mk ((by rw [hg]; exact (below_size (by repeat (first | (with_reducible first | exact HB.out | apply bwA | apply bwN | apply bwD | refine below_set ?_ GE589.out) | exact HB.out))) : w.heap.size ≤ gb590)); have n4_ := Aside0.mk ((by rw [hg]; exact (below_size (by repeat (first | (with_reducible first | exact HB.out | apply bwA | apply bwN | apply bwD | refine below_set ?_ GE589.out) | exact HB.out))) : w.heap.size ≤ gb590)); have n5_ := Aside0.mk ((by rw [hg]; exact Nat.ne_of_lt (blk_lt (g := gb589) (o := .cells #[.int .i64 a0_0, .int .i64 a0_1, .slice A0_2 l0_2.length c0_2] 46 (0, 0)) (by (with_reducible repeat (first | apply bkN | apply bkD | apply bkA)); exact BK589.out)) : gb589 ≠ gb590)); have n6_ := Aside0.mk ((by rw [hg]; exact Nat.ne_of_gt (blk_lt (g := gb589) (o := .cells #[.int .i64 a0_0, .int .i64 a0_1, .slice A0_2 l0_2.length c0_2] 46 (0, 0)) (by (with_reducible repeat (first | apply bkN | apply bkD | apply bkA)); exact BK589.out)) : gb590 ≠ gb589)); clear BK589; clear HB; have BK589 := n0_; have HB := n1_; have BK590 := n2_; have GW590 := n3_; have GE590 := n4_; have NB589_590 := n5_; have NB590_589 := n6_; clear n0_ n1_ n2_ n3_ n4_ n5_ n6_; clear hb hbox hg))
 have n0_ := Aside0.mk (blk_drew BK589.out)
 have n1_ := Aside0.mk (blk_drew BK590.out)
 have n2_ := Aside0.mk (below_drew1 HB.out)
 clear BK589
 clear BK590
 clear HB
 have BK589 := n0_
 have BK590 := n1_
 have HB := n2_
 clear n0_ n1_ n2_
 refine start_ (n := 6) (S := fun w' => w'.cell? ⟨gb589, 0, none⟩ = some (.int .i64 a0_0) ∧ w'.cell? ⟨gb589, 1, none⟩ = some (.int .i64 a0_1) ∧ w'.cell? ⟨gb589, 2, none⟩ = some (.slice A0_2 l0_2.length c0_2) ∧ w'.cell? ⟨gb590, 0, none⟩ = some (.int .i64 a1_0) ∧ w'.cell? ⟨gb590, 1, none⟩ = some (.int .i64 a1_1) ∧ w'.cell? ⟨gb590, 2, none⟩ = some (.slice A1_2 l1_2.length c1_2)) (ds := [4, 5]) #[false, false, false, false, false, false] (by kernel_rfl) rfl rfl ⟨(blk_cell BK589.out 0).trans rfl, (blk_cell BK589.out 1).trans rfl, (blk_cell BK589.out 2).trans rfl, (blk_cell BK590.out 0).trans rfl, (blk_cell BK590.out 1).trans rfl, (blk_cell BK590.out 2).trans rfl⟩ (fun hHeld => ?_)
 generalize w10.drew = w11 at BK589 BK590 HB hHeld ⊢
 refine take_ (i := 0) (N := some 15) (v := ?_) (a' := ?_) #[true, false, false, false, false, false] rfl rfl (by kernel_rfl) idq (.inl ⟨by rfl, ?_⟩) hHeld ?_ ?_
 rotate_left
 ·rintro w' ⟨s0, s1, s2, s3, s4, s5⟩
  go_simp
  with_reducible rfl
 rotate_left; ·simp only [Act.put, sqA, sqB, sqC, i64_w, i32_w]; rfl
 refine take_ (i := 2) (N := some 17) (v := ?_) (a' := ?_) #[true, false, true, false, false, false] rfl rfl (by kernel_rfl) idq (.inl ⟨by rfl, ?_⟩) hHeld ?_ ?_
 rotate_left
 ·rintro w' ⟨s0, s1, s2, s3, s4, s5⟩
  go_simp
  with_reducible rfl
 rotate_left; ·simp only [Act.put, sqA, sqB, sqC, i64_w, i32_w]; rfl
 refine one_ (i := 1) (N := some 16) #[true, true, true, false, false, false] rfl rfl (by kernel_rfl) (by decide) (fun K hK => ?_)
 refine goes_ Try.func29 (by kernel_rfl) rfl #[.agg #[.int .i64 a0_0, .int .i64 a0_1, .slice A0_2 l0_2.length c0_2]] (by rfl) rfl rfl (by (try simp only [List.map_toArray, List.map_cons, List.map_nil]); first | done | rfl | (simp only [List.length_drop, List.length_take]; rfl)) ?_
 with_reducible refine (tillerlaw04_Few.calls a0_0 a0_1 _ _ l0_2 t591 t592 t593 _ ?side1 ?side2 A4.out).mono ?_
 (case side1 => repeat (first | exact (Kd.C_below HR0_2.out HB.out) | (with_reducible refine Kd.C_alloc ?_ _) | (with_reducible refine Kd.C_drewN ?_ _) | (with_reducible refine Kd.C_drew ?_)))
 (case side2 => exact HC0_2.out)
 rintro e w12 ⟨v594, rfl, ho0, hb⟩
 refine ⟨_, rfl, ?_⟩
 have n0_ := Aside0.mk (Kd.R_lower ho0 (below_size (by repeat (first | (with_reducible first | exact HB.out | apply bwA | apply bwN | apply bwD | refine below_set ?_ GE589.out | refine below_set ?_ GE590.out) | exact HB.out))))
 have n1_ := Aside0.mk (blk_below (g := gb589) (o := .cells #[.int .i64 a0_0, .int .i64 a0_1, .slice A0_2 l0_2.length c0_2] 46 (0, 0)) (by (with_reducible repeat (first | apply bkN | apply bkD | apply bkA)); exact BK589.out) hb)
 have n2_ := Aside0.mk (blk_below (g := gb590) (o := .cells #[.int .i64 a1_0, .int .i64 a1_1, .slice A1_2 l1_2.length c1_2] 46 (0, 0)) (by (with_reducible repeat (first | apply bkN | apply bkD | apply bkA)); exact BK590.out) hb)
 have n3_ := Aside0.mk (below_step (by repeat (first | (with_reducible first | exact HB.out | apply bwA | apply bwN | apply bwD | refine below_set ?_ GE589.out | refine below_set ?_ GE590.out) | exact HB.out)) hb)
 clear BK589
 clear BK590
 clear HB
 have HO595 := n0_
 have BK589 := n1_
 have BK590 := n2_
 have HB := n3_
 clear n0_ n1_ n2_ n3_
 (try clear hb)
 (try clear hb2)
 (try clear hk)
 (try clear hi)
 (try clear ho0)
 refine hK.out _ _ ⟨(blk_cell BK589.out 0).trans rfl, (blk_cell BK589.out 1).trans rfl, (blk_cell BK589.out 2).trans rfl, (blk_cell BK590.out 0).trans rfl, (blk_cell BK590.out 1).trans rfl, (blk_cell BK590.out 2).trans rfl⟩ (fun hHeld => ?_)
 clear hK K
 refine norm_ (a' := ?_) ?_ ?_
 rotate_left
 ·show Act.put _ (some 16) _ = _
  simp only [Act.put, sqA, sqB, sqC, i64_w, i32_w]
  rfl
 refine one_ (i := 3) (N := some 18) #[true, true, true, true, false, false] rfl rfl (by kernel_rfl) (by decide) (fun K hK => ?_)
 refine goes_ Try.func29 (by kernel_rfl) rfl #[.agg #[.int .i64 a1_0, .int .i64 a1_1, .slice A1_2 l1_2.length c1_2]] (by rfl) rfl rfl (by (try simp only [List.map_toArray, List.map_cons, List.map_nil]); first | done | rfl | (simp only [List.length_drop, List.length_take]; rfl)) ?_
 with_reducible refine (tillerlaw04_Few.calls a1_0 a1_1 _ _ l1_2 t596 t597 t598 _ ?side1 ?side2 A5.out).mono ?_
 (case side1 => repeat (first | exact (Kd.C_below HR1_2.out HB.out) | (with_reducible refine Kd.C_alloc ?_ _) | (with_reducible refine Kd.C_drewN ?_ _) | (with_reducible refine Kd.C_drew ?_)))
 (case side2 => exact HC1_2.out)
 rintro e w13 ⟨v599, rfl, ho0, hb⟩
 refine ⟨_, rfl, ?_⟩
 have n0_ := Aside0.mk (Kd.R_elder' (by (with_reducible repeat (first | apply rwA | apply rwN | apply rwD)); exact HO595.out) (Kd.R_base ho0) hb)
 have n1_ := Aside0.mk (Kd.R_lower (Kd.R_new' ho0 (Kd.R_lt (by (with_reducible repeat (first | apply rwA | apply rwN | apply rwD)); exact HO595.out))) (below_size (by repeat (first | (with_reducible first | exact HB.out | apply bwA | apply bwN | apply bwD | refine below_set ?_ GE589.out | refine below_set ?_ GE590.out) | exact HB.out))))
 have n2_ := Aside0.mk (blk_below (g := gb589) (o := .cells #[.int .i64 a0_0, .int .i64 a0_1, .slice A0_2 l0_2.length c0_2] 46 (0, 0)) (by (with_reducible repeat (first | apply bkN | apply bkD | apply bkA)); exact BK589.out) hb)
 have n3_ := Aside0.mk (blk_below (g := gb590) (o := .cells #[.int .i64 a1_0, .int .i64 a1_1, .slice A1_2 l1_2.length c1_2] 46 (0, 0)) (by (with_reducible repeat (first | apply bkN | apply bkD | apply bkA)); exact BK590.out) hb)
 have n4_ := Aside0.mk (below_step (by repeat (first | (with_reducible first | exact HB.out | apply bwA | apply bwN | apply bwD | refine below_set ?_ GE589.out | refine below_set ?_ GE590.out) | exact HB.out)) hb)
 clear HO595
 clear BK589
 clear BK590
 clear HB
 have HO595 := n0_
 have HO600 := n1_
 have BK589 := n2_
 have BK590 := n3_
 have HB := n4_
 clear n0_ n1_ n2_ n3_ n4_
 (try clear hb)
 (try clear hb2)
 (try clear hk)
 (try clear hi)
 (try clear ho0)
 obtain ⟨Ao16, co16, eo16⟩ := Kd.R_slice HO595.out
 (first | subst eo16 | (injection eo16 with f1_ f2_ f3_; have f4_ := f1_.symm; have f5_ := f3_.symm; clear f1_ f2_ f3_; subst f4_; subst f5_))
 obtain ⟨Ao20, co20, eo20⟩ := Kd.R_slice HO600.out
 (first | subst eo20 | (injection eo20 with f1_ f2_ f3_; have f4_ := f1_.symm; have f5_ := f3_.symm; clear f1_ f2_ f3_; subst f4_; subst f5_))
 refine hK.out _ _ ⟨(blk_cell BK589.out 0).trans rfl, (blk_cell BK589.out 1).trans rfl, (blk_cell BK589.out 2).trans rfl, (blk_cell BK590.out 0).trans rfl, (blk_cell BK590.out 1).trans rfl, (blk_cell BK590.out 2).trans rfl⟩ (fun hHeld => ?_)
 clear hK K
 refine norm_ (a' := ?_) ?_ ?_
 rotate_left
 ·show Act.put _ (some 18) _ = _
  simp only [Act.put, sqA, sqB, sqC, i64_w, i32_w]
  rfl
 refine last_ (i := 4) (N := none) #[true, true, true, true, true, false] rfl rfl (by kernel_rfl) (by decide) (fun K hK => ?_)
 have hs14 : w13.cell? ⟨gb589, 0, none⟩ = some (.int .i64 a0_0) := (blk_cell BK589.out 0).trans rfl
 have hfs14 := blk_frozen BK589.out 0
 have hns14_1 := NB590_589.out
 have hms14_1 := NB589_590.out
 have hs15 : w13.cell? ⟨gb589, 1, none⟩ = some (.int .i64 a0_1) := (blk_cell BK589.out 1).trans rfl
 have hfs15 := blk_frozen BK589.out 1
 have hns15_1 := NB590_589.out
 have hms15_1 := NB589_590.out
 have hs17 : w13.cell? ⟨gb589, 2, none⟩ = some (.slice A0_2 l0_2.length c0_2) := (blk_cell BK589.out 2).trans rfl
 have hfs17 := blk_frozen BK589.out 2
 have hns17_1 := NB590_589.out
 have hms17_1 := NB589_590.out
 refine skip_ (w1 := ?_) (by rfl) rfl ?_ ?_
 rotate_left; ·go_simp; rfl
 refine hK.out _ _ ?_
 clear hK K
 refine last_ (i := 5) (N := none) #[true, true, true, true, true, true] rfl rfl (by kernel_rfl) (by decide) (fun K hK => ?_)
 have hs18 : w13.cell? ⟨gb590, 0, none⟩ = some (.int .i64 a1_0) := (blk_cell BK590.out 0).trans rfl
 have hfs18 := blk_frozen BK590.out 0
 have hns18_0 := NB589_590.out
 have hms18_0 := NB590_589.out
 have hs19 : w13.cell? ⟨gb590, 1, none⟩ = some (.int .i64 a1_1) := (blk_cell BK590.out 1).trans rfl
 have hfs19 := blk_frozen BK590.out 1
 have hns19_0 := NB589_590.out
 have hms19_0 := NB590_589.out
 have hs21 : w13.cell? ⟨gb590, 2, none⟩ = some (.slice A1_2 l1_2.length c1_2) := (blk_cell BK590.out 2).trans rfl
 have hfs21 := blk_frozen BK590.out 2
 have hns21_0 := NB589_590.out
 have hms21_0 := NB590_589.out
 refine skip_ (w1 := ?_) (by rfl) rfl ?_ ?_
 rotate_left; ·go_simp; rfl
 refine hK.out _ _ ?_
 clear hK K
 refine done_ (by kernel_rfl) ?_
 have hnb22 := NB589_590.out
 have hnc22 := NB590_589.out
 have hcz23_0 : w13.cell? ⟨gb589, 0, none⟩ = some (.int .i64 a0_0) := (blk_cell BK589.out 0).trans rfl
 have hcz23_1 : w13.cell? ⟨gb589, 1, none⟩ = some (.int .i64 a0_1) := (blk_cell BK589.out 1).trans rfl
 have hcz23_2 : w13.cell? ⟨gb589, 2, none⟩ = some (.slice A0_2 l0_2.length c0_2) := (blk_cell BK589.out 2).trans rfl
 have hfz23_0 := blk_frozen BK589.out 0
 have hfz23_1 := blk_frozen BK589.out 1
 have hfz23_2 := blk_frozen BK589.out 2
 have hcz24_0 : w13.cell? ⟨gb590, 0, none⟩ = some (.int .i64 a1_0) := (blk_cell BK590.out 0).trans rfl
 have hcz24_1 : w13.cell? ⟨gb590, 1, none⟩ = some (.int .i64 a1_1) := (blk_cell BK590.out 1).trans rfl
 have hcz24_2 : w13.cell? ⟨gb590, 2, none⟩ = some (.slice A1_2 l1_2.length c1_2) := (blk_cell BK590.out 2).trans rfl
 have hfz24_0 := blk_frozen BK590.out 0
 have hfz24_1 := blk_frozen BK590.out 1
 have hfz24_2 := blk_frozen BK590.out 2
 go_upto_if 28 with (first | ((with_reducible refine gate_callee (f := 40) rfl ?_); refine goesL_ (some 22) rfl rfl Try.func40 (by kernel_rfl) rfl #[.agg #[.int .i64 t591, .int .i64 t592, .slice Ao16 t593.length co16], .agg #[.int .i64 t596, .int .i64 t597, .slice Ao20 t598.length co20]] rfl (by (try simp only [List.map_toArray, List.map_cons, List.map_nil]); first | done | rfl | (simp only [List.length_drop, List.length_take]; rfl)) ?_; (with_reducible refine (mat_Times.calls k t591 t592 _ _ t593 t596 t597 _ _ t598 t601 t602 t603 t606 _ ?side1 ?side2 ?side3 ?side4 A6.out).mono ?_); (case side1 => refine (Kd.R_reads' (e := 24) (base := w.heap.size) (ok := fun k_ => (True ∧ some k_ ≠ (.slice Ao20 t598.length co20 : Value).ownBlock)) (n := t593.length) (c := co16) ?_).2.2; exact (by (with_reducible repeat (first | apply rwA | apply rwN | apply rwD)); exact (Kd.R_mono (Kd.R_mono (Kd.R_far (p := ⟨gb590, 2, none⟩) (Kd.R_far (p := ⟨gb590, 1, none⟩) (Kd.R_far (p := ⟨gb590, 0, none⟩) (Kd.R_far (p := ⟨gb589, 2, none⟩) (Kd.R_far (p := ⟨gb589, 1, none⟩) (Kd.R_far (p := ⟨gb589, 0, none⟩) (Kd.R_types (Kd.R_types HO595.out BK589.out (by decide)) BK590.out (by decide)) (fun _ hk => hk.1.2) (.int .i64 t591)) (fun _ hk => hk.1.2) (.int .i64 t592)) (fun _ hk => hk.1.2) (.slice Ao16 t593.length co16)) (fun _ hk => hk.2) (.int .i64 t596)) (fun _ hk => hk.2) (.int .i64 t597)) (fun _ hk => hk.2) (.slice Ao20 t598.length co20)) (fun _ h_ => h_.1)) (fun _ h_ => h_.1)))); (case side2 => exact (Kd.R_reads' HO595.out).2.1); (case side3 => refine (Kd.R_reads' (e := 24) (base := w.heap.size) (ok := fun k_ => (True ∧ some k_ ≠ (.slice Ao16 t593.length co16 : Value).ownBlock)) (n := t598.length) (c := co20) ?_).2.2; exact (by (with_reducible repeat (first | apply rwA | apply rwN | apply rwD)); exact (Kd.R_mono (Kd.R_mono (Kd.R_far (p := ⟨gb590, 2, none⟩) (Kd.R_far (p := ⟨gb590, 1, none⟩) (Kd.R_far (p := ⟨gb590, 0, none⟩) (Kd.R_far (p := ⟨gb589, 2, none⟩) (Kd.R_far (p := ⟨gb589, 1, none⟩) (Kd.R_far (p := ⟨gb589, 0, none⟩) (Kd.R_types (Kd.R_types HO600.out BK589.out (by decide)) BK590.out (by decide)) (fun _ hk => hk.1.2) (.int .i64 t591)) (fun _ hk => hk.1.2) (.int .i64 t592)) (fun _ hk => hk.1.2) (.slice Ao16 t593.length co16)) (fun _ hk => hk.2) (.int .i64 t596)) (fun _ hk => hk.2) (.int .i64 t597)) (fun _ hk => hk.2) (.slice Ao20 t598.length co20)) (fun _ h_ => h_.1)) (fun _ h_ => h_.1)))); (case side4 => exact (Kd.R_reads' HO600.out).2.1); rintro e w25 ⟨v604, rfl, ho0, hb⟩; refine ⟨_, rfl, ?_⟩; have n0_ := Aside0.mk (Kd.R_elder' (by (with_reducible repeat (first | apply rwA | apply rwN | apply rwD)); exact (Kd.R_mono (Kd.R_mono (Kd.R_far (p := ⟨gb590, 2, none⟩) (Kd.R_far (p := ⟨gb590, 1, none⟩) (Kd.R_far (p := ⟨gb590, 0, none⟩) (Kd.R_far (p := ⟨gb589, 2, none⟩) (Kd.R_far (p := ⟨gb589, 1, none⟩) (Kd.R_far (p := ⟨gb589, 0, none⟩) (Kd.R_types (Kd.R_types HO595.out BK589.out (by decide)) BK590.out (by decide)) (fun _ hk => hk.1.2) (.int .i64 t591)) (fun _ hk => hk.1.2) (.int .i64 t592)) (fun _ hk => hk.1.2) (.slice Ao16 t593.length co16)) (fun _ hk => hk.2) (.int .i64 t596)) (fun _ hk => hk.2) (.int .i64 t597)) (fun _ hk => hk.2) (.slice Ao20 t598.length co20)) (fun _ h_ => h_.1)) (fun _ h_ => h_.1))) (Kd.R_base ho0) hb); have n1_ := Aside0.mk (Kd.R_elder' (by (with_reducible repeat (first | apply rwA | apply rwN | apply rwD)); exact (Kd.R_mono (Kd.R_mono (Kd.R_far (p := ⟨gb590, 2, none⟩) (Kd.R_far (p := ⟨gb590, 1, none⟩) (Kd.R_far (p := ⟨gb590, 0, none⟩) (Kd.R_far (p := ⟨gb589, 2, none⟩) (Kd.R_far (p := ⟨gb589, 1, none⟩) (Kd.R_far (p := ⟨gb589, 0, none⟩) (Kd.R_types (Kd.R_types HO600.out BK589.out (by decide)) BK590.out (by decide)) (fun _ hk => hk.1.2) (.int .i64 t591)) (fun _ hk => hk.1.2) (.int .i64 t592)) (fun _ hk => hk.1.2) (.slice Ao16 t593.length co16)) (fun _ hk => hk.2) (.int .i64 t596)) (fun _ hk => hk.2) (.int .i64 t597)) (fun _ hk => hk.2) (.slice Ao20 t598.length co20)) (fun _ h_ => h_.1)) (fun _ h_ => h_.1))) (Kd.R_base ho0) hb); have n2_ := Aside0.mk (Kd.R_lower (Kd.R_new' (Kd.R_new' ho0 (Kd.R_lt (by (with_reducible repeat (first | apply rwA | apply rwN | apply rwD)); exact (Kd.R_mono (Kd.R_mono (Kd.R_far (p := ⟨gb590, 2, none⟩) (Kd.R_far (p := ⟨gb590, 1, none⟩) (Kd.R_far (p := ⟨gb590, 0, none⟩) (Kd.R_far (p := ⟨gb589, 2, none⟩) (Kd.R_far (p := ⟨gb589, 1, none⟩) (Kd.R_far (p := ⟨gb589, 0, none⟩) (Kd.R_types (Kd.R_types HO595.out BK589.out (by decide)) BK590.out (by decide)) (fun _ hk => hk.1.2) (.int .i64 t591)) (fun _ hk => hk.1.2) (.int .i64 t592)) (fun _ hk => hk.1.2) (.slice Ao16 t593.length co16)) (fun _ hk => hk.2) (.int .i64 t596)) (fun _ hk => hk.2) (.int .i64 t597)) (fun _ hk => hk.2) (.slice Ao20 t598.length co20)) (fun _ h_ => h_.1)) (fun _ h_ => h_.1))))) (Kd.R_lt (by (with_reducible repeat (first | apply rwA | apply rwN | apply rwD)); exact (Kd.R_mono (Kd.R_mono (Kd.R_far (p := ⟨gb590, 2, none⟩) (Kd.R_far (p := ⟨gb590, 1, none⟩) (Kd.R_far (p := ⟨gb590, 0, none⟩) (Kd.R_far (p := ⟨gb589, 2, none⟩) (Kd.R_far (p := ⟨gb589, 1, none⟩) (Kd.R_far (p := ⟨gb589, 0, none⟩) (Kd.R_types (Kd.R_types HO600.out BK589.out (by decide)) BK590.out (by decide)) (fun _ hk => hk.1.2) (.int .i64 t591)) (fun _ hk => hk.1.2) (.int .i64 t592)) (fun _ hk => hk.1.2) (.slice Ao16 t593.length co16)) (fun _ hk => hk.2) (.int .i64 t596)) (fun _ hk => hk.2) (.int .i64 t597)) (fun _ hk => hk.2) (.slice Ao20 t598.length co20)) (fun _ h_ => h_.1)) (fun _ h_ => h_.1))))) (below_size (by repeat (first | (with_reducible first | exact HB.out | apply bwA | apply bwN | apply bwD | refine below_set ?_ GE589.out | refine below_set ?_ GE590.out) | exact HB.out)))); have n3_ := Aside0.mk (blk_below (g := gb589) (o := .cells #[.int .i64 t591, .int .i64 t592, .slice Ao16 t593.length co16] 46 (0, 0)) (by (with_reducible repeat (first | apply bkN | apply bkD | apply bkA)); refine blk_far ?_ NB589_590.out _; (with_reducible repeat (first | apply bkN | apply bkD | apply bkA)); refine blk_far ?_ NB589_590.out _; (with_reducible repeat (first | apply bkN | apply bkD | apply bkA)); refine blk_far ?_ NB589_590.out _; (with_reducible repeat (first | apply bkN | apply bkD | apply bkA)); refine blk_put (cs := #[.int .i64 t591, .int .i64 t592, .slice A0_2 l0_2.length c0_2]) ?_ 2 _ rfl; (with_reducible repeat (first | apply bkN | apply bkD | apply bkA)); refine blk_put (cs := #[.int .i64 t591, .int .i64 a0_1, .slice A0_2 l0_2.length c0_2]) ?_ 1 _ rfl; (with_reducible repeat (first | apply bkN | apply bkD | apply bkA)); refine blk_put (cs := #[.int .i64 a0_0, .int .i64 a0_1, .slice A0_2 l0_2.length c0_2]) ?_ 0 _ rfl; (with_reducible repeat (first | apply bkN | apply bkD | apply bkA)); exact BK589.out) hb); have n4_ := Aside0.mk (blk_below (g := gb590) (o := .cells #[.int .i64 t596, .int .i64 t597, .slice Ao20 t598.length co20] 46 (0, 0)) (by (with_reducible repeat (first | apply bkN | apply bkD | apply bkA)); refine blk_put (cs := #[.int .i64 t596, .int .i64 t597, .slice A1_2 l1_2.length c1_2]) ?_ 2 _ rfl; (with_reducible repeat (first | apply bkN | apply bkD | apply bkA)); refine blk_put (cs := #[.int .i64 t596, .int .i64 a1_1, .slice A1_2 l1_2.length c1_2]) ?_ 1 _ rfl; (with_reducible repeat (first | apply bkN | apply bkD | apply bkA)); refine blk_put (cs := #[.int .i64 a1_0, .int .i64 a1_1, .slice A1_2 l1_2.length c1_2]) ?_ 0 _ rfl; (with_reducible repeat (first | apply bkN | apply bkD | apply bkA)); refine blk_far ?_ NB590_589.out _; (with_reducible repeat (first | apply bkN | apply bkD | apply bkA)); refine blk_far ?_ NB590_589.out _; (with_reducible repeat (first | apply bkN | apply bkD | apply bkA)); refine blk_far ?_ NB590_589.out _; (with_reducible repeat (first | apply bkN | apply bkD | apply bkA)); exact BK590.out) hb); have n5_ := Aside0.mk (below_step (by repeat (first | (with_reducible first | exact HB.out | apply bwA | apply bwN | apply bwD | refine below_set ?_ GE589.out | refine below_set ?_ GE590.out) | exact HB.out)) hb); clear HO595; clear HO600; clear BK589; clear BK590; clear HB; have HO595 := n0_; have HO600 := n1_; have HO605 := n2_; have BK589 := n3_; have BK590 := n4_; have HB := n5_; clear n0_ n1_ n2_ n3_ n4_ n5_; (try clear hb); (try clear hb2); (try clear hk); (try clear hi); (try clear ho0)) | ((with_reducible refine gate_dst (N := 7) rfl ?_); refine box_event ?hg (N := 7) ?hd (cs := #[.int .i64 0, .int .i64 0, .slice none 0 0]) (t := 46) ?hr ?_; (case hd => rfl); (case hg => rfl); (case hr => first | (go_simp; done) | (go_simp; rfl)); intro gb607 hg w26 hbox hb; have n0_ := Aside0.mk (Kd.R_below (by (with_reducible repeat (first | apply rwA | apply rwN | apply rwD)); exact HO595.out) hb); have n1_ := Aside0.mk (Kd.R_below (by (with_reducible repeat (first | apply rwA | apply rwN | apply rwD)); exact HO600.out) hb); have n2_ := Aside0.mk (Kd.R_below (by (with_reducible repeat (first | apply rwA | apply rwN | apply rwD)); exact HO605.out) hb); have n3_ := Aside0.mk (blk_below (g := gb589) (o := .cells #[.int .i64 t591, .int .i64 t592, .slice Ao16 t593.length co16] 46 (0, 0)) (by (with_reducible repeat (first | apply bkN | apply bkD | apply bkA)); exact BK589.out) hb); have n4_ := Aside0.mk (blk_below (g := gb590) (o := .cells #[.int .i64 t596, .int .i64 t597, .slice Ao20 t598.length co20] 46 (0, 0)) (by (with_reducible repeat (first | apply bkN | apply bkD | apply bkA)); exact BK590.out) hb); have n5_ := Aside0.mk (below_step (by repeat (first | (with_reducible first | exact HB.out | apply bwA | apply bwN | apply bwD | refine below_set ?_ GE589.out | refine below_set ?_ GE590.out) | exact HB.out)) hb); have n6_ := Aside0.mk (hbox); have n7_ := Aside0.mk ((by rw [hg]; exact (below_size (by repeat (first | (with_reducible first | exact HB.out | apply bwA | apply bwN | apply bwD | refine below_set ?_ GE589.out | refine below_set ?_ GE590.out) | exact HB.out))) : w.heap.size ≤ gb607)); have n8_ := Aside0.mk ((by rw [hg]; exact (below_size (by repeat (first | (with_reducible first | exact HB.out | apply bwA | apply bwN | apply bwD | refine below_set ?_ GE589.out | refine below_set ?_ GE590.out) | exact HB.out))) : w.heap.size ≤ gb607)); have n9_ := Aside0.mk ((by rw [hg]; exact Nat.ne_of_lt (blk_lt (g := gb589) (o := .cells #[.int .i64 t591, .int .i64 t592, .slice Ao16 t593.length co16] 46 (0, 0)) (by (with_reducible repeat (first | apply bkN | apply bkD | apply bkA)); exact BK589.out)) : gb589 ≠ gb607)); have n10_ := Aside0.mk ((by rw [hg]; exact Nat.ne_of_gt (blk_lt (g := gb589) (o := .cells #[.int .i64 t591, .int .i64 t592, .slice Ao16 t593.length co16] 46 (0, 0)) (by (with_reducible repeat (first | apply bkN | apply bkD | apply bkA)); exact BK589.out)) : gb607 ≠ gb589)); have n11_ := Aside0.mk ((by rw [hg]; exact Nat.ne_of_lt (blk_lt (g := gb590) (o := .cells #[.int .i64 t596, .int .i64 t597, .slice Ao20 t598.length co20] 46 (0, 0)) (by (with_reducible repeat (first | apply bkN | apply bkD | apply bkA)); exact BK590.out)) : gb590 ≠ gb607)); have n12_ := Aside0.mk ((by rw [hg]; exact Nat.ne_of_gt (blk_lt (g := gb590) (o := .cells #[.int .i64 t596, .int .i64 t597, .slice Ao20 t598.length co20] 46 (0, 0)) (by (with_reducible repeat (first | apply bkN | apply bkD | apply bkA)); exact BK590.out)) : gb607 ≠ gb590)); clear HO595; clear HO600; clear HO605; clear BK589; clear BK590; clear HB; have HO595 := n0_; have HO600 := n1_; have HO605 := n2_; have BK589 := n3_; have BK590 := n4_; have HB := n5_; have BK607 := n6_; have GW607 := n7_; have GE607 := n8_; have NB589_607 := n9_; have NB607_589 := n10_; have NB590_607 := n11_; have NB607_590 := n12_; clear n0_ n1_ n2_ n3_ n4_ n5_ n6_ n7_ n8_ n9_ n10_ n11_ n12_; clear hb hbox hg; have hnb27 := NB607_589.out; have hnc27 := NB589_607.out; have hnb28 := NB607_590.out; have hnc28 := NB590_607.out; have hcz29_0 : w26.cell? ⟨gb607, 0, none⟩ = some (.int .i64 0) := (blk_cell BK607.out 0).trans rfl; have hcz29_1 : w26.cell? ⟨gb607, 1, none⟩ = some (.int .i64 0) := (blk_cell BK607.out 1).trans rfl; have hcz29_2 : w26.cell? ⟨gb607, 2, none⟩ = some (.slice none 0 0) := (blk_cell BK607.out 2).trans rfl; have hfz29_0 := blk_frozen BK607.out 0; have hfz29_1 := blk_frozen BK607.out 1; have hfz29_2 := blk_frozen BK607.out 2; obtain ⟨Ao30, co30, eo30⟩ := Kd.R_slice HO605.out; subst eo30; have hcz31_0 : w26.cell? ⟨gb589, 0, none⟩ = some (.int .i64 t591) := (blk_cell BK589.out 0).trans rfl; have hcz31_1 : w26.cell? ⟨gb589, 1, none⟩ = some (.int .i64 t592) := (blk_cell BK589.out 1).trans rfl; have hcz31_2 : w26.cell? ⟨gb589, 2, none⟩ = some (.slice Ao16 t593.length co16) := (blk_cell BK589.out 2).trans rfl; have hfz31_0 := blk_frozen BK589.out 0; have hfz31_1 := blk_frozen BK589.out 1; have hfz31_2 := blk_frozen BK589.out 2) | ((with_reducible refine gate_callee (f := 30) rfl ?_); refine goesL_ (some 26) rfl rfl Try.func30 (by kernel_rfl) rfl #[.agg #[.int .i64 t591, .int .i64 t592, .slice Ao16 t593.length co16]] rfl (by (try simp only [List.map_toArray, List.map_cons, List.map_nil]); first | done | rfl | (simp only [List.length_drop, List.length_take]; rfl)) ?_; (with_reducible refine (tillerref04_Check.calls k t591 t592 _ _ t593 t608 _ ?side1 ?side2 A7.out).mono ?_); (case side1 => refine (Kd.R_reads' (e := 24) (base := w.heap.size) (ok := fun k_ => ((True ∧ some k_ ≠ (.slice Ao20 t598.length co20 : Value).ownBlock) ∧ some k_ ≠ (.slice Ao30 t603.length co30 : Value).ownBlock)) (n := t593.length) (c := co16) ?_).2.2; exact (by (with_reducible repeat (first | apply rwA | apply rwN | apply rwD)); exact (Kd.R_mono (Kd.R_far (p := ⟨gb607, 2, none⟩) (Kd.R_far (p := ⟨gb607, 1, none⟩) (Kd.R_far (p := ⟨gb607, 0, none⟩) (Kd.R_types HO595.out BK607.out (by decide)) (fun _ hk => hk.2) (.int .i64 t601)) (fun _ hk => hk.2) (.int .i64 t602)) (fun _ hk => hk.2) (.slice Ao30 t603.length co30)) (fun _ h_ => h_.1)))); (case side2 => exact (Kd.R_reads' HO595.out).2.1); rintro e w32 ⟨rfl, hb⟩; refine ⟨_, rfl, ?_⟩; have n0_ := Aside0.mk (Kd.R_below (by (with_reducible repeat (first | apply rwA | apply rwN | apply rwD)); exact (Kd.R_mono (Kd.R_far (p := ⟨gb607, 2, none⟩) (Kd.R_far (p := ⟨gb607, 1, none⟩) (Kd.R_far (p := ⟨gb607, 0, none⟩) (Kd.R_types HO595.out BK607.out (by decide)) (fun _ hk => hk.2) (.int .i64 t601)) (fun _ hk => hk.2) (.int .i64 t602)) (fun _ hk => hk.2) (.slice Ao30 t603.length co30)) (fun _ h_ => h_.1))) hb); have n1_ := Aside0.mk (Kd.R_below (by (with_reducible repeat (first | apply rwA | apply rwN | apply rwD)); exact (Kd.R_mono (Kd.R_far (p := ⟨gb607, 2, none⟩) (Kd.R_far (p := ⟨gb607, 1, none⟩) (Kd.R_far (p := ⟨gb607, 0, none⟩) (Kd.R_types HO600.out BK607.out (by decide)) (fun _ hk => hk.2) (.int .i64 t601)) (fun _ hk => hk.2) (.int .i64 t602)) (fun _ hk => hk.2) (.slice Ao30 t603.length co30)) (fun _ h_ => h_.1))) hb); have n2_ := Aside0.mk (Kd.R_below (by (with_reducible repeat (first | apply rwA | apply rwN | apply rwD)); exact (Kd.R_mono (Kd.R_far (p := ⟨gb607, 2, none⟩) (Kd.R_far (p := ⟨gb607, 1, none⟩) (Kd.R_far (p := ⟨gb607, 0, none⟩) (Kd.R_types HO605.out BK607.out (by decide)) (fun _ hk => hk.2) (.int .i64 t601)) (fun _ hk => hk.2) (.int .i64 t602)) (fun _ hk => hk.2) (.slice Ao30 t603.length co30)) (fun _ h_ => h_.1))) hb); have n3_ := Aside0.mk (blk_below (g := gb589) (o := .cells #[.int .i64 t591, .int .i64 t592, .slice Ao16 t593.length co16] 46 (0, 0)) (by (with_reducible repeat (first | apply bkN | apply bkD | apply bkA)); refine blk_far ?_ NB589_607.out _; (with_reducible repeat (first | apply bkN | apply bkD | apply bkA)); refine blk_far ?_ NB589_607.out _; (with_reducible repeat (first | apply bkN | apply bkD | apply bkA)); refine blk_far ?_ NB589_607.out _; (with_reducible repeat (first | apply bkN | apply bkD | apply bkA)); exact BK589.out) hb); have n4_ := Aside0.mk (blk_below (g := gb590) (o := .cells #[.int .i64 t596, .int .i64 t597, .slice Ao20 t598.length co20] 46 (0, 0)) (by (with_reducible repeat (first | apply bkN | apply bkD | apply bkA)); refine blk_far ?_ NB590_607.out _; (with_reducible repeat (first | apply bkN | apply bkD | apply bkA)); refine blk_far ?_ NB590_607.out _; (with_reducible repeat (first | apply bkN | apply bkD | apply bkA)); refine blk_far ?_ NB590_607.out _; (with_reducible repeat (first | apply bkN | apply bkD | apply bkA)); exact BK590.out) hb); have n5_ := Aside0.mk (blk_below (g := gb607) (o := .cells #[.int .i64 t601, .int .i64 t602, .slice Ao30 t603.length co30] 46 (0, 0)) (by (with_reducible repeat (first | apply bkN | apply bkD | apply bkA)); refine blk_put (cs := #[.int .i64 t601, .int .i64 t602, .slice none 0 0]) ?_ 2 _ rfl; (with_reducible repeat (first | apply bkN | apply bkD | apply bkA)); refine blk_put (cs := #[.int .i64 t601, .int .i64 0, .slice none 0 0]) ?_ 1 _ rfl; (with_reducible repeat (first | apply bkN | apply bkD | apply bkA)); refine blk_put (cs := #[.int .i64 0, .int .i64 0, .slice none 0 0]) ?_ 0 _ rfl; (with_reducible repeat (first | apply bkN | apply bkD | apply bkA)); exact BK607.out) hb); have n6_ := Aside0.mk (below_step (by repeat (first | (with_reducible first | exact HB.out | apply bwA | apply bwN | apply bwD | refine below_set ?_ GE589.out | refine below_set ?_ GE590.out | refine below_set ?_ GE607.out) | exact HB.out)) hb); clear HO595; clear HO600; clear HO605; clear BK589; clear BK590; clear BK607; clear HB; have HO595 := n0_; have HO600 := n1_; have HO605 := n2_; have BK589 := n3_; have BK590 := n4_; have BK607 := n5_; have HB := n6_; clear n0_ n1_ n2_ n3_ n4_ n5_ n6_; (try clear hb); (try clear hb2); (try clear hk); (try clear hi)))
 (try simp only [Act.put, List.setIfInBounds_toArray, List.set_cons_zero, List.set_cons_succ])
 go_cut [9] (fun v9 wc => ∃ (kq : Nat) (x9_7 : Int), v9 = .int .i64 x9_7 ∧ Aside0 (tillerlaw04_MatTimes.j0 kq a2 t606 x9_7 t591 t592 t593 t596 t597 t598 t601 t602 t603 = some r) ∧ Aside0 (kq ≤ k) ∧ Aside0 (Kd.R (Kd.int .i32) 24 wc w.heap.size (fun k_ => some k_ ≠ ((.slice Ao20 t598.length co20) : Value).ownBlock ∧ some k_ ≠ ((.slice Ao30 t603.length co30) : Value).ownBlock) (.slice Ao16 t593.length co16) t593) ∧ Aside0 (Kd.R (Kd.int .i32) 24 wc w.heap.size (fun k_ => some k_ ≠ ((.slice Ao16 t593.length co16) : Value).ownBlock ∧ some k_ ≠ ((.slice Ao30 t603.length co30) : Value).ownBlock) (.slice Ao20 t598.length co20) t598) ∧ Aside0 (Kd.R (Kd.int .i32) 24 wc w.heap.size (fun k_ => some k_ ≠ ((.slice Ao16 t593.length co16) : Value).ownBlock ∧ some k_ ≠ ((.slice Ao20 t598.length co20) : Value).ownBlock) (.slice Ao30 t603.length co30) t603) ∧ Aside0 (wc.heap[gb589]? = some (.cells #[.int .i64 t591, .int .i64 t592, (.slice Ao16 t593.length co16)] 46 (0, 0))) ∧ Aside0 (wc.heap[gb590]? = some (.cells #[.int .i64 t596, .int .i64 t597, (.slice Ao20 t598.length co20)] 46 (0, 0))) ∧ Aside0 (wc.heap[gb607]? = some (.cells #[.int .i64 t601, .int .i64 t602, (.slice Ao30 t603.length co30)] 46 (0, 0))) ∧ Aside0 (Below w.heap.size w wc))
 case first =>
  have H := HC8.out
  clear HC8
  by_cases c33 : t608 = 0
  ·rw [if_pos c33] at H
   have c33b0 : (t608 == 0) = true := beq_iff_eq.mpr c33
   have c33b1 : (t608 != 0) = false := bne_eq_false_iff_eq.mpr c33
   clear c33
   (first | rw [c33b0] | (simp only [i64_w, i32_w]; rw [c33b0]) | skip)
   replace H := Option.bind_eq_some_iff.mp H
   obtain ⟨t609, A340, H⟩ := H
   replace H : (tillerlaw04_MatTimes.j0 k a2 t606 t609 t591 t592 t593 t596 t597 t598 t601 t602 t603) = some r := H
   have A34 := Aside0.mk A340
   clear A340
   have H' := Aside0.mk H
   clear H
   have hnb35 := NB590_589.out
   have hnc35 := NB589_590.out
   have hnb36 := NB590_607.out
   have hnc36 := NB607_590.out
   have hcz37_0 : w32.cell? ⟨gb590, 0, none⟩ = some (.int .i64 t596) := (blk_cell BK590.out 0).trans rfl
   have hcz37_1 : w32.cell? ⟨gb590, 1, none⟩ = some (.int .i64 t597) := (blk_cell BK590.out 1).trans rfl
   have hcz37_2 : w32.cell? ⟨gb590, 2, none⟩ = some (.slice Ao20 t598.length co20) := (blk_cell BK590.out 2).trans rfl
   have hfz37_0 := blk_frozen BK590.out 0
   have hfz37_1 := blk_frozen BK590.out 1
   have hfz37_2 := blk_frozen BK590.out 2
   go_wp2_with (first | ((with_reducible refine gate_callee (f := 30) rfl ?_); refine goesL_ (some 30) rfl rfl Try.func30 (by kernel_rfl) rfl #[.agg #[.int .i64 t596, .int .i64 t597, .slice Ao20 t598.length co20]] rfl (by (try simp only [List.map_toArray, List.map_cons, List.map_nil]); first | done | rfl | (simp only [List.length_drop, List.length_take]; rfl)) ?_; (with_reducible refine (tillerref04_Check.calls k t596 t597 _ _ t598 t609 _ ?side1 ?side2 A34.out).mono ?_); (case side1 => repeat (first | exact (Kd.R_reads' HO600.out).2.2 | (with_reducible refine Kd.C_alloc ?_ _) | (with_reducible refine Kd.C_drewN ?_ _) | (with_reducible refine Kd.C_drew ?_))); (case side2 => exact (Kd.R_reads' HO600.out).2.1); rintro e w38 ⟨rfl, hb⟩; refine ⟨_, rfl, ?_⟩; have n0_ := Aside0.mk (Kd.R_below (by (with_reducible repeat (first | apply rwA | apply rwN | apply rwD)); exact HO595.out) hb); have n1_ := Aside0.mk (Kd.R_below (by (with_reducible repeat (first | apply rwA | apply rwN | apply rwD)); exact HO600.out) hb); have n2_ := Aside0.mk (Kd.R_below (by (with_reducible repeat (first | apply rwA | apply rwN | apply rwD)); exact HO605.out) hb); have n3_ := Aside0.mk (blk_below (g := gb589) (o := .cells #[.int .i64 t591, .int .i64 t592, .slice Ao16 t593.length co16] 46 (0, 0)) (by (with_reducible repeat (first | apply bkN | apply bkD | apply bkA)); exact BK589.out) hb); have n4_ := Aside0.mk (blk_below (g := gb590) (o := .cells #[.int .i64 t596, .int .i64 t597, .slice Ao20 t598.length co20] 46 (0, 0)) (by (with_reducible repeat (first | apply bkN | apply bkD | apply bkA)); exact BK590.out) hb); have n5_ := Aside0.mk (blk_below (g := gb607) (o := .cells #[.int .i64 t601, .int .i64 t602, .slice Ao30 t603.length co30] 46 (0, 0)) (by (with_reducible repeat (first | apply bkN | apply bkD | apply bkA)); exact BK607.out) hb); have n6_ := Aside0.mk (below_step (by repeat (first | (with_reducible first | exact HB.out | apply bwA | apply bwN | apply bwD | refine below_set ?_ GE589.out | refine below_set ?_ GE590.out | refine below_set ?_ GE607.out) | exact HB.out)) hb); clear HO595; clear HO600; clear HO605; clear BK589; clear BK590; clear BK607; clear HB; have HO595 := n0_; have HO600 := n1_; have HO605 := n2_; have BK589 := n3_; have BK590 := n4_; have BK607 := n5_; have HB := n6_; clear n0_ n1_ n2_ n3_ n4_ n5_ n6_; (try clear hb); (try clear hb2); (try clear hk); (try clear hi)))
   go_meet
   case rel => exact ⟨_, (t609), (by first | rfl | (simp; done) | (simp [*]; done)), H', ⟨by first | omega | exact Nat.le_refl _⟩, ⟨by (with_reducible repeat (first | apply rwA | apply rwN | apply rwD)); exact Kd.R_mono HO595.out (fun _ hk => ⟨hk.1.2, hk.2⟩)⟩, ⟨by (with_reducible repeat (first | apply rwA | apply rwN | apply rwD)); exact Kd.R_mono HO600.out (fun _ hk => ⟨hk.1.2, hk.2⟩)⟩, ⟨by (with_reducible repeat (first | apply rwA | apply rwN | apply rwD)); exact Kd.R_mono HO605.out (fun _ hk => ⟨hk.1.2, hk.2⟩)⟩, ⟨by (with_reducible repeat (first | apply bkN | apply bkD | apply bkA)); exact BK589.out⟩, ⟨by (with_reducible repeat (first | apply bkN | apply bkD | apply bkA)); exact BK590.out⟩, ⟨by (with_reducible repeat (first | apply bkN | apply bkD | apply bkA)); exact BK607.out⟩, ⟨by repeat (first | (with_reducible first | exact HB.out | apply bwA | apply bwN | apply bwD | refine below_set ?_ GE589.out | refine below_set ?_ GE590.out | refine below_set ?_ GE607.out) | exact HB.out)⟩⟩
  ·rw [if_neg c33] at H
   have c33b0 : (t608 == 0) = false := beq_eq_false_iff_ne.mpr c33
   have c33b1 : (t608 != 0) = true := bne_iff_ne.mpr c33
   (first | rw [c33b0] | (simp only [i64_w, i32_w]; rw [c33b0]) | skip)
   have H' := Aside0.mk H
   clear H
   go_wp2
   go_meet
   case rel => exact ⟨_, (t608), (by first | rfl | (simp; done) | (simp [*]; done)), H', ⟨by first | omega | exact Nat.le_refl _⟩, ⟨by (with_reducible repeat (first | apply rwA | apply rwN | apply rwD)); exact Kd.R_mono HO595.out (fun _ hk => ⟨hk.1.2, hk.2⟩)⟩, ⟨by (with_reducible repeat (first | apply rwA | apply rwN | apply rwD)); exact Kd.R_mono HO600.out (fun _ hk => ⟨hk.1.2, hk.2⟩)⟩, ⟨by (with_reducible repeat (first | apply rwA | apply rwN | apply rwD)); exact Kd.R_mono HO605.out (fun _ hk => ⟨hk.1.2, hk.2⟩)⟩, ⟨by (with_reducible repeat (first | apply bkN | apply bkD | apply bkA)); exact BK589.out⟩, ⟨by (with_reducible repeat (first | apply bkN | apply bkD | apply bkA)); exact BK590.out⟩, ⟨by (with_reducible repeat (first | apply bkN | apply bkD | apply bkA)); exact BK607.out⟩, ⟨by repeat (first | (with_reducible first | exact HB.out | apply bwA | apply bwN | apply bwD | refine below_set ?_ GE589.out | refine below_set ?_ GE590.out | refine below_set ?_ GE607.out) | exact HB.out)⟩⟩
 case rest =>
  clear HC8
  try clear c1
  try clear c2
  try clear p2
  try clear c3
  try clear c4
  try clear c11
  try clear c22
  try clear c27
  try clear c28
  try clear c29
  try clear c30
  try clear c33
  try clear c33b0
  try clear c33b1
  try clear c35
  try clear c36
  try clear hcz23_0
  try clear hcz23_1
  try clear hcz23_2
  try clear hcz24_0
  try clear hcz24_1
  try clear hcz24_2
  try clear hcz29_0
  try clear hcz29_1
  try clear hcz29_2
  try clear hcz31_0
  try clear hcz31_1
  try clear hcz31_2
  try clear hcz37_0
  try clear hcz37_1
  try clear hcz37_2
  try clear hfz23_0
  try clear hfz23_1
  try clear hfz23_2
  try clear hfz24_0
  try clear hfz24_1
  try clear hfz24_2
  try clear hfz29_0
  try clear hfz29_1
  try clear hfz29_2
  try clear hfz31_0
  try clear hfz31_1
  try clear hfz31_2
  try clear hfz37_0
  try clear hfz37_1
  try clear hfz37_2
  obtain ⟨kq, x9_7, rfl, HA, HJ7, HO_590002, HO_591002, HO_608002, BK589, BK590, BK607, HB⟩ := hcut
  cases kq with
  | zero => exact absurd HA.out (by simp [tillerlaw04_MatTimes.j0])
  | succ kj7 =>
   have H := HA.out
   clear HA
   simp only [tillerlaw04_MatTimes.j0] at H
   have HC39 := Aside0.mk H
   clear H
   go_upto_region 6 with (fail)
   go_cut [39] (fun v39 wc => ∃ (kq : Nat) (x39_38 : Bool), v39 = .bool x39_38 ∧ Aside0 (tillerlaw04_MatTimes.j1 kq a2 t606 x9_7 x39_38 t591 t592 t593 t596 t597 t598 t601 t602 t603 = some r) ∧ Aside0 (kq ≤ kj7) ∧ Aside0 (Kd.R (Kd.int .i32) 24 wc w.heap.size (fun k_ => some k_ ≠ ((.slice Ao20 t598.length co20) : Value).ownBlock ∧ some k_ ≠ ((.slice Ao30 t603.length co30) : Value).ownBlock) (.slice Ao16 t593.length co16) t593) ∧ Aside0 (Kd.R (Kd.int .i32) 24 wc w.heap.size (fun k_ => some k_ ≠ ((.slice Ao16 t593.length co16) : Value).ownBlock ∧ some k_ ≠ ((.slice Ao30 t603.length co30) : Value).ownBlock) (.slice Ao20 t598.length co20) t598) ∧ Aside0 (Kd.R (Kd.int .i32) 24 wc w.heap.size (fun k_ => some k_ ≠ ((.slice Ao16 t593.length co16) : Value).ownBlock ∧ some k_ ≠ ((.slice Ao20 t598.length co20) : Value).ownBlock) (.slice Ao30 t603.length co30) t603) ∧ Aside0 (wc.heap[gb589]? = some (.cells #[.int .i64 t591, .int .i64 t592, (.slice Ao16 t593.length co16)] 46 (0, 0))) ∧ Aside0 (wc.heap[gb590]? = some (.cells #[.int .i64 t596, .int .i64 t597, (.slice Ao20 t598.length co20)] 46 (0, 0))) ∧ Aside0 (wc.heap[gb607]? = some (.cells #[.int .i64 t601, .int .i64 t602, (.slice Ao30 t603.length co30)] 46 (0, 0))) ∧ Aside0 (Below w.heap.size w wc))
   case first =>
    have H := HC39.out
    clear HC39
    by_cases c40 : x9_7 = 0
    ·rw [if_pos c40] at H
     have c40b0 : (x9_7 == 0) = true := beq_iff_eq.mpr c40
     have c40b1 : (x9_7 != 0) = false := bne_eq_false_iff_eq.mpr c40
     clear c40
     (first | rw [c40b0] | (simp only [i64_w, i32_w]; rw [c40b0]) | skip)
     have H' := Aside0.mk H
     clear H
     have hnb41 := NB589_590.out
     have hnc41 := NB590_589.out
     have hnb42 := NB589_607.out
     have hnc42 := NB607_589.out
     have hcz43_0 : wc.cell? ⟨gb589, 0, none⟩ = some (.int .i64 t591) := (blk_cell BK589.out 0).trans rfl
     have hcz43_1 : wc.cell? ⟨gb589, 1, none⟩ = some (.int .i64 t592) := (blk_cell BK589.out 1).trans rfl
     have hcz43_2 : wc.cell? ⟨gb589, 2, none⟩ = some (.slice Ao16 t593.length co16) := (blk_cell BK589.out 2).trans rfl
     have hfz43_0 := blk_frozen BK589.out 0
     have hfz43_1 := blk_frozen BK589.out 1
     have hfz43_2 := blk_frozen BK589.out 2
     have hnb44 := NB590_607.out
     have hnc44 := NB607_590.out
     have hcz45_0 : wc.cell? ⟨gb590, 0, none⟩ = some (.int .i64 t596) := (blk_cell BK590.out 0).trans rfl
     have hcz45_1 : wc.cell? ⟨gb590, 1, none⟩ = some (.int .i64 t597) := (blk_cell BK590.out 1).trans rfl
     have hcz45_2 : wc.cell? ⟨gb590, 2, none⟩ = some (.slice Ao20 t598.length co20) := (blk_cell BK590.out 2).trans rfl
     have hfz45_0 := blk_frozen BK590.out 0
     have hfz45_1 := blk_frozen BK590.out 1
     have hfz45_2 := blk_frozen BK590.out 2
     go_wp2
     go_meet
     case rel => exact ⟨_, ((t592 != t596)), (by first | rfl | (simp; done) | (simp [*]; done)), H', ⟨by have := HJ7.out; first | omega | exact Nat.le_refl _⟩, ⟨by (with_reducible repeat (first | apply rwA | apply rwN | apply rwD)); exact HO_590002.out⟩, ⟨by (with_reducible repeat (first | apply rwA | apply rwN | apply rwD)); exact HO_591002.out⟩, ⟨by (with_reducible repeat (first | apply rwA | apply rwN | apply rwD)); exact HO_608002.out⟩, ⟨by (with_reducible repeat (first | apply bkN | apply bkD | apply bkA)); exact BK589.out⟩, ⟨by (with_reducible repeat (first | apply bkN | apply bkD | apply bkA)); exact BK590.out⟩, ⟨by (with_reducible repeat (first | apply bkN | apply bkD | apply bkA)); exact BK607.out⟩, ⟨by repeat (first | (with_reducible first | exact HB.out | apply bwA | apply bwN | apply bwD | refine below_set ?_ GE589.out | refine below_set ?_ GE590.out | refine below_set ?_ GE607.out) | exact HB.out)⟩⟩
    ·rw [if_neg c40] at H
     have c40b0 : (x9_7 == 0) = false := beq_eq_false_iff_ne.mpr c40
     have c40b1 : (x9_7 != 0) = true := bne_iff_ne.mpr c40
     (first | rw [c40b0] | (simp only [i64_w, i32_w]; rw [c40b0]) | skip)
     have H' := Aside0.mk H
     clear H
     go_wp2
     go_meet
     case rel => exact ⟨_, (false), (by first | rfl | (simp; done) | (simp [*]; done)), H', ⟨by have := HJ7.out; first | omega | exact Nat.le_refl _⟩, ⟨by (with_reducible repeat (first | apply rwA | apply rwN | apply rwD)); exact HO_590002.out⟩, ⟨by (with_reducible repeat (first | apply rwA | apply rwN | apply rwD)); exact HO_591002.out⟩, ⟨by (with_reducible repeat (first | apply rwA | apply rwN | apply rwD)); exact HO_608002.out⟩, ⟨by (with_reducible repeat (first | apply bkN | apply bkD | apply bkA)); exact BK589.out⟩, ⟨by (with_reducible repeat (first | apply bkN | apply bkD | apply bkA)); exact BK590.out⟩, ⟨by (with_reducible repeat (first | apply bkN | apply bkD | apply bkA)); exact BK607.out⟩, ⟨by repeat (first | (with_reducible first | exact HB.out | apply bwA | apply bwN | apply bwD | refine below_set ?_ GE589.out | refine below_set ?_ GE590.out | refine below_set ?_ GE607.out) | exact HB.out)⟩⟩
   case rest =>
    clear HC39
    try clear c1
    try clear c2
    try clear p2
    try clear c3
    try clear c4
    try clear c11
    try clear c22
    try clear c27
    try clear c28
    try clear c29
    try clear c30
    try clear c33
    try clear c33b0
    try clear c33b1
    try clear c35
    try clear c36
    try clear c40
    try clear c40b0
    try clear c40b1
    try clear c41
    try clear c42
    try clear c44
    try clear hcz23_0
    try clear hcz23_1
    try clear hcz23_2
    try clear hcz24_0
    try clear hcz24_1
    try clear hcz24_2
    try clear hcz29_0
    try clear hcz29_1
    try clear hcz29_2
    try clear hcz31_0
    try clear hcz31_1
    try clear hcz31_2
    try clear hcz37_0
    try clear hcz37_1
    try clear hcz37_2
    try clear hcz43_0
    try clear hcz43_1
    try clear hcz43_2
    try clear hcz45_0
    try clear hcz45_1
    try clear hcz45_2
    try clear hfz23_0
    try clear hfz23_1
    try clear hfz23_2
    try clear hfz24_0
    try clear hfz24_1
    try clear hfz24_2
    try clear hfz29_0
    try clear hfz29_1
    try clear hfz29_2
    try clear hfz31_0
    try clear hfz31_1
    try clear hfz31_2
    try clear hfz37_0
    try clear hfz37_1
    try clear hfz37_2
    try clear hfz43_0
    try clear hfz43_1
    try clear hfz43_2
    try clear hfz45_0
    try clear hfz45_1
    try clear hfz45_2
    try clear p2
    obtain ⟨kq, x39_38, rfl, HA, HJ38, HO_590002, HO_591002, HO_608002, BK589, BK590, BK607, HB⟩ := hcut
    cases kq with
    | zero => exact absurd HA.out (by simp [tillerlaw04_MatTimes.j1])
    | succ kj38 =>
     have H := HA.out
     clear HA
     simp only [tillerlaw04_MatTimes.j1] at H
     have HC46 := Aside0.mk H
     clear H
     go_upto_if 39 with (fail)
     go_cut [9] (fun v9 wc => ∃ (kq : Nat) (x9_45 : Int), v9 = .int .i64 x9_45 ∧ Aside0 (tillerlaw04_MatTimes.j2 kq a2 t606 x9_45 t591 t592 t593 t596 t597 t598 t601 t602 t603 = some r) ∧ Aside0 (kq ≤ kj38) ∧ Aside0 (Kd.R (Kd.int .i32) 24 wc w.heap.size (fun k_ => some k_ ≠ ((.slice Ao20 t598.length co20) : Value).ownBlock ∧ some k_ ≠ ((.slice Ao30 t603.length co30) : Value).ownBlock) (.slice Ao16 t593.length co16) t593) ∧ Aside0 (Kd.R (Kd.int .i32) 24 wc w.heap.size (fun k_ => some k_ ≠ ((.slice Ao16 t593.length co16) : Value).ownBlock ∧ some k_ ≠ ((.slice Ao30 t603.length co30) : Value).ownBlock) (.slice Ao20 t598.length co20) t598) ∧ Aside0 (Kd.R (Kd.int .i32) 24 wc w.heap.size (fun k_ => some k_ ≠ ((.slice Ao16 t593.length co16) : Value).ownBlock ∧ some k_ ≠ ((.slice Ao20 t598.length co20) : Value).ownBlock) (.slice Ao30 t603.length co30) t603) ∧ Aside0 (wc.heap[gb589]? = some (.cells #[.int .i64 t591, .int .i64 t592, (.slice Ao16 t593.length co16)] 46 (0, 0))) ∧ Aside0 (wc.heap[gb590]? = some (.cells #[.int .i64 t596, .int .i64 t597, (.slice Ao20 t598.length co20)] 46 (0, 0))) ∧ Aside0 (wc.heap[gb607]? = some (.cells #[.int .i64 t601, .int .i64 t602, (.slice Ao30 t603.length co30)] 46 (0, 0))) ∧ Aside0 (Below w.heap.size w wc))
     case first =>
      have H := HC46.out
      clear HC46
      by_cases c47 : x39_38 = true
      ·subst c47
       have H1 : (tillerlaw04_MatTimes.j2 kj38 a2 t606 6 t591 t592 t593 t596 t597 t598 t601 t602 t603) = some r := by rw [if_pos rfl] at H; exact H
       clear H
       have H := H1
       clear H1
       have H' := Aside0.mk H
       clear H
       go_wp2
       go_meet
       case rel => exact ⟨_, (6), (by first | rfl | (simp; done) | (simp [*]; done)), H', ⟨by have := HJ7.out; have := HJ38.out; first | omega | exact Nat.le_refl _⟩, ⟨by (with_reducible repeat (first | apply rwA | apply rwN | apply rwD)); exact HO_590002.out⟩, ⟨by (with_reducible repeat (first | apply rwA | apply rwN | apply rwD)); exact HO_591002.out⟩, ⟨by (with_reducible repeat (first | apply rwA | apply rwN | apply rwD)); exact HO_608002.out⟩, ⟨by (with_reducible repeat (first | apply bkN | apply bkD | apply bkA)); exact BK589.out⟩, ⟨by (with_reducible repeat (first | apply bkN | apply bkD | apply bkA)); exact BK590.out⟩, ⟨by (with_reducible repeat (first | apply bkN | apply bkD | apply bkA)); exact BK607.out⟩, ⟨by repeat (first | (with_reducible first | exact HB.out | apply bwA | apply bwN | apply bwD | refine below_set ?_ GE589.out | refine below_set ?_ GE590.out | refine below_set ?_ GE607.out) | exact HB.out)⟩⟩
      ·replace c47 := Bool.eq_false_iff.mpr c47
       subst c47
       have H1 : (tillerlaw04_MatTimes.j2 kj38 a2 t606 x9_7 t591 t592 t593 t596 t597 t598 t601 t602 t603) = some r := by rw [if_neg (show ¬ (false = true) by decide)] at H; exact H
       clear H
       have H := H1
       clear H1
       have H' := Aside0.mk H
       clear H
       go_wp2
       go_meet
       case rel => exact ⟨_, (x9_7), (by first | rfl | (simp; done) | (simp [*]; done)), H', ⟨by have := HJ7.out; have := HJ38.out; first | omega | exact Nat.le_refl _⟩, ⟨by (with_reducible repeat (first | apply rwA | apply rwN | apply rwD)); exact HO_590002.out⟩, ⟨by (with_reducible repeat (first | apply rwA | apply rwN | apply rwD)); exact HO_591002.out⟩, ⟨by (with_reducible repeat (first | apply rwA | apply rwN | apply rwD)); exact HO_608002.out⟩, ⟨by (with_reducible repeat (first | apply bkN | apply bkD | apply bkA)); exact BK589.out⟩, ⟨by (with_reducible repeat (first | apply bkN | apply bkD | apply bkA)); exact BK590.out⟩, ⟨by (with_reducible repeat (first | apply bkN | apply bkD | apply bkA)); exact BK607.out⟩, ⟨by repeat (first | (with_reducible first | exact HB.out | apply bwA | apply bwN | apply bwD | refine below_set ?_ GE589.out | refine below_set ?_ GE590.out | refine below_set ?_ GE607.out) | exact HB.out)⟩⟩
     case rest =>
      clear HC46
      try clear c1
      try clear c2
      try clear p2
      try clear c3
      try clear c4
      try clear c11
      try clear c22
      try clear c27
      try clear c28
      try clear c29
      try clear c30
      try clear c33
      try clear c33b0
      try clear c33b1
      try clear c35
      try clear c36
      try clear c40
      try clear c40b0
      try clear c40b1
      try clear c41
      try clear c42
      try clear c44
      try clear c47
      try clear hcz23_0
      try clear hcz23_1
      try clear hcz23_2
      try clear hcz24_0
      try clear hcz24_1
      try clear hcz24_2
      try clear hcz29_0
      try clear hcz29_1
      try clear hcz29_2
      try clear hcz31_0
      try clear hcz31_1
      try clear hcz31_2
      try clear hcz37_0
      try clear hcz37_1
      try clear hcz37_2
      try clear hcz43_0
      try clear hcz43_1
      try clear hcz43_2
      try clear hcz45_0
      try clear hcz45_1
      try clear hcz45_2
      try clear hfz23_0
      try clear hfz23_1
      try clear hfz23_2
      try clear hfz24_0
      try clear hfz24_1
      try clear hfz24_2
      try clear hfz29_0
      try clear hfz29_1
      try clear hfz29_2
      try clear hfz31_0
      try clear hfz31_1
      try clear hfz31_2
      try clear hfz37_0
      try clear hfz37_1
      try clear hfz37_2
      try clear hfz43_0
      try clear hfz43_1
      try clear hfz43_2
      try clear hfz45_0
      try clear hfz45_1
      try clear hfz45_2
      try clear p2
      obtain ⟨kq, x9_45, rfl, HA, HJ45, HO_590002, HO_591002, HO_608002, BK589, BK590, BK607, HB⟩ := hcut
      cases kq with
      | zero => exact absurd HA.out (by simp [tillerlaw04_MatTimes.j2])
      | succ kj45 =>
       have H := HA.out
       clear HA
       simp only [tillerlaw04_MatTimes.j2] at H
       replace H := Option.bind_eq_some_iff.mp H
       obtain ⟨⟨t610, t611, t612, t615⟩, A480, H⟩ := H
       replace H : ((tillerlaw04_awake.f kj45).bind fun t617 => (if t617 = true then (if t606 = x9_45 then (if a2 < 1 then (if t615 = 1 then (if a2 > 128 then (if t615 = 2 then (if a2 ≥ 1 then (if a2 ≤ 128 then (tillerlaw04_MatTimes.j3 kj45 a2 x9_45 t615 (t615 != 0) t591 t592 t593 t596 t597 t598 t601 t602 t603 t610 t611 t612) else (tillerlaw04_MatTimes.j3 kj45 a2 x9_45 t615 false t591 t592 t593 t596 t597 t598 t601 t602 t603 t610 t611 t612)) else (tillerlaw04_MatTimes.j3 kj45 a2 x9_45 t615 false t591 t592 t593 t596 t597 t598 t601 t602 t603 t610 t611 t612)) else (tillerlaw04_MatTimes.j3 kj45 a2 x9_45 t615 true t591 t592 t593 t596 t597 t598 t601 t602 t603 t610 t611 t612)) else (if a2 ≥ 1 then (if a2 ≤ 128 then (tillerlaw04_MatTimes.j3 kj45 a2 x9_45 t615 (t615 != 0) t591 t592 t593 t596 t597 t598 t601 t602 t603 t610 t611 t612) else (tillerlaw04_MatTimes.j3 kj45 a2 x9_45 t615 false t591 t592 t593 t596 t597 t598 t601 t602 t603 t610 t611 t612)) else (tillerlaw04_MatTimes.j3 kj45 a2 x9_45 t615 false t591 t592 t593 t596 t597 t598 t601 t602 t603 t610 t611 t612))) else (tillerlaw04_MatTimes.j3 kj45 a2 x9_45 t615 true t591 t592 t593 t596 t597 t598 t601 t602 t603 t610 t611 t612)) else (if a2 > 128 then (if t615 = 2 then (if a2 ≥ 1 then (if a2 ≤ 128 then (tillerlaw04_MatTimes.j3 kj45 a2 x9_45 t615 (t615 != 0) t591 t592 t593 t596 t597 t598 t601 t602 t603 t610 t611 t612) else (tillerlaw04_MatTimes.j3 kj45 a2 x9_45 t615 false t591 t592 t593 t596 t597 t598 t601 t602 t603 t610 t611 t612)) else (tillerlaw04_MatTimes.j3 kj45 a2 x9_45 t615 false t591 t592 t593 t596 t597 t598 t601 t602 t603 t610 t611 t612)) else (tillerlaw04_MatTimes.j3 kj45 a2 x9_45 t615 true t591 t592 t593 t596 t597 t598 t601 t602 t603 t610 t611 t612)) else (if a2 ≥ 1 then (if a2 ≤ 128 then (tillerlaw04_MatTimes.j3 kj45 a2 x9_45 t615 (t615 != 0) t591 t592 t593 t596 t597 t598 t601 t602 t603 t610 t611 t612) else (tillerlaw04_MatTimes.j3 kj45 a2 x9_45 t615 false t591 t592 t593 t596 t597 t598 t601 t602 t603 t610 t611 t612)) else (tillerlaw04_MatTimes.j3 kj45 a2 x9_45 t615 false t591 t592 t593 t596 t597 t598 t601 t602 t603 t610 t611 t612)))) else (tillerlaw04_MatTimes.j3 kj45 a2 x9_45 t615 true t591 t592 t593 t596 t597 t598 t601 t602 t603 t610 t611 t612)) else (tillerlaw04_MatTimes.j3 kj45 a2 x9_45 t615 true t591 t592 t593 t596 t597 t598 t601 t602 t603 t610 t611 t612))) = some r := H
       have A48 := Aside0.mk A480
       clear A480
       have HC49 := Aside0.mk H
       clear H
       go_upto_region 9 with (first | ((with_reducible refine gate_callee (f := 41) rfl ?_); refine goesL_ (some 42) rfl rfl Try.func41 (by kernel_rfl) rfl #[.int .i64 a2] rfl (by (try simp only [List.map_toArray, List.map_cons, List.map_nil]); first | done | rfl | (simp only [List.length_drop, List.length_take]; rfl)) ?_; (with_reducible refine (mat_Unit.calls kj45 a2 t610 t611 t612 t615 _ A48.out).mono ?_); rintro e w50 ⟨v613, rfl, ho0, hb⟩; refine ⟨_, rfl, ?_⟩; have n0_ := Aside0.mk (Kd.R_elder' (by (with_reducible repeat (first | apply rwA | apply rwN | apply rwD)); exact HO_590002.out) (Kd.R_base ho0) hb); have n1_ := Aside0.mk (Kd.R_elder' (by (with_reducible repeat (first | apply rwA | apply rwN | apply rwD)); exact HO_591002.out) (Kd.R_base ho0) hb); have n2_ := Aside0.mk (Kd.R_elder' (by (with_reducible repeat (first | apply rwA | apply rwN | apply rwD)); exact HO_608002.out) (Kd.R_base ho0) hb); have n3_ := Aside0.mk (Kd.R_lower (Kd.R_new' (Kd.R_new' (Kd.R_new' ho0 (Kd.R_lt (by (with_reducible repeat (first | apply rwA | apply rwN | apply rwD)); exact HO_590002.out))) (Kd.R_lt (by (with_reducible repeat (first | apply rwA | apply rwN | apply rwD)); exact HO_591002.out))) (Kd.R_lt (by (with_reducible repeat (first | apply rwA | apply rwN | apply rwD)); exact HO_608002.out))) (below_size (by repeat (first | (with_reducible first | exact HB.out | apply bwA | apply bwN | apply bwD | refine below_set ?_ GE589.out | refine below_set ?_ GE590.out | refine below_set ?_ GE607.out) | exact HB.out)))); have n4_ := Aside0.mk (blk_below (g := gb589) (o := .cells #[.int .i64 t591, .int .i64 t592, .slice Ao16 t593.length co16] 46 (0, 0)) (by (with_reducible repeat (first | apply bkN | apply bkD | apply bkA)); exact BK589.out) hb); have n5_ := Aside0.mk (blk_below (g := gb590) (o := .cells #[.int .i64 t596, .int .i64 t597, .slice Ao20 t598.length co20] 46 (0, 0)) (by (with_reducible repeat (first | apply bkN | apply bkD | apply bkA)); exact BK590.out) hb); have n6_ := Aside0.mk (blk_below (g := gb607) (o := .cells #[.int .i64 t601, .int .i64 t602, .slice Ao30 t603.length co30] 46 (0, 0)) (by (with_reducible repeat (first | apply bkN | apply bkD | apply bkA)); exact BK607.out) hb); have n7_ := Aside0.mk (below_step (by repeat (first | (with_reducible first | exact HB.out | apply bwA | apply bwN | apply bwD | refine below_set ?_ GE589.out | refine below_set ?_ GE590.out | refine below_set ?_ GE607.out) | exact HB.out)) hb); clear HO_590002; clear HO_591002; clear HO_608002; clear BK589; clear BK590; clear BK607; clear HB; have HO_590002 := n0_; have HO_591002 := n1_; have HO_608002 := n2_; have HO614 := n3_; have BK589 := n4_; have BK590 := n5_; have BK607 := n6_; have HB := n7_; clear n0_ n1_ n2_ n3_ n4_ n5_ n6_ n7_; (try clear hb); (try clear hb2); (try clear hk); (try clear hi); (try clear ho0)) | ((with_reducible refine gate_dst (N := 10) rfl ?_); refine box_event ?hg (N := 10) ?hd (cs := #[.int .i64 0, .int .i64 0, .slice none 0 0]) (t := 46) ?hr ?_; (case hd => rfl); (case hg => rfl); (case hr => first | (go_simp; done) | (go_simp; rfl)); intro gb616 hg w51 hbox hb; have n0_ := Aside0.mk (Kd.R_below (by (with_reducible repeat (first | apply rwA | apply rwN | apply rwD)); exact HO_590002.out) hb); have n1_ := Aside0.mk (Kd.R_below (by (with_reducible repeat (first | apply rwA | apply rwN | apply rwD)); exact HO_591002.out) hb); have n2_ := Aside0.mk (Kd.R_below (by (with_reducible repeat (first | apply rwA | apply rwN | apply rwD)); exact HO_608002.out) hb); have n3_ := Aside0.mk (Kd.R_below (by (with_reducible repeat (first | apply rwA | apply rwN | apply rwD)); exact HO614.out) hb); have n4_ := Aside0.mk (blk_below (g := gb589) (o := .cells #[.int .i64 t591, .int .i64 t592, .slice Ao16 t593.length co16] 46 (0, 0)) (by (with_reducible repeat (first | apply bkN | apply bkD | apply bkA)); exact BK589.out) hb); have n5_ := Aside0.mk (blk_below (g := gb590) (o := .cells #[.int .i64 t596, .int .i64 t597, .slice Ao20 t598.length co20] 46 (0, 0)) (by (with_reducible repeat (first | apply bkN | apply bkD | apply bkA)); exact BK590.out) hb); have n6_ := Aside0.mk (blk_below (g := gb607) (o := .cells #[.int .i64 t601, .int .i64 t602, .slice Ao30 t603.length co30] 46 (0, 0)) (by (with_reducible repeat (first | apply bkN | apply bkD | apply bkA)); exact BK607.out) hb); have n7_ := Aside0.mk (below_step (by repeat (first | (with_reducible first | exact HB.out | apply bwA | apply bwN | apply bwD | refine below_set ?_ GE589.out | refine below_set ?_ GE590.out | refine below_set ?_ GE607.out) | exact HB.out)) hb); have n8_ := Aside0.mk (hbox); have n9_ := Aside0.mk ((by rw [hg]; exact (below_size (by repeat (first | (with_reducible first | exact HB.out | apply bwA | apply bwN | apply bwD | refine below_set ?_ GE589.out | refine below_set ?_ GE590.out | refine below_set ?_ GE607.out) | exact HB.out))) : w.heap.size ≤ gb616)); have n10_ := Aside0.mk ((by rw [hg]; exact (below_size (by repeat (first | (with_reducible first | exact HB.out | apply bwA | apply bwN | apply bwD | refine below_set ?_ GE589.out | refine below_set ?_ GE590.out | refine below_set ?_ GE607.out) | exact HB.out))) : w.heap.size ≤ gb616)); have n11_ := Aside0.mk ((by rw [hg]; exact Nat.ne_of_lt (blk_lt (g := gb589) (o := .cells #[.int .i64 t591, .int .i64 t592, .slice Ao16 t593.length co16] 46 (0, 0)) (by (with_reducible repeat (first | apply bkN | apply bkD | apply bkA)); exact BK589.out)) : gb589 ≠ gb616)); have n12_ := Aside0.mk ((by rw [hg]; exact Nat.ne_of_gt (blk_lt (g := gb589) (o := .cells #[.int .i64 t591, .int .i64 t592, .slice Ao16 t593.length co16] 46 (0, 0)) (by (with_reducible repeat (first | apply bkN | apply bkD | apply bkA)); exact BK589.out)) : gb616 ≠ gb589)); have n13_ := Aside0.mk ((by rw [hg]; exact Nat.ne_of_lt (blk_lt (g := gb590) (o := .cells #[.int .i64 t596, .int .i64 t597, .slice Ao20 t598.length co20] 46 (0, 0)) (by (with_reducible repeat (first | apply bkN | apply bkD | apply bkA)); exact BK590.out)) : gb590 ≠ gb616)); have n14_ := Aside0.mk ((by rw [hg]; exact Nat.ne_of_gt (blk_lt (g := gb590) (o := .cells #[.int .i64 t596, .int .i64 t597, .slice Ao20 t598.length co20] 46 (0, 0)) (by (with_reducible repeat (first | apply bkN | apply bkD | apply bkA)); exact BK590.out)) : gb616 ≠ gb590)); have n15_ := Aside0.mk ((by rw [hg]; exact Nat.ne_of_lt (blk_lt (g := gb607) (o := .cells #[.int .i64 t601, .int .i64 t602, .slice Ao30 t603.length co30] 46 (0, 0)) (by (with_reducible repeat (first | apply bkN | apply bkD | apply bkA)); exact BK607.out)) : gb607 ≠ gb616)); have n16_ := Aside0.mk ((by rw [hg]; exact Nat.ne_of_gt (blk_lt (g := gb607) (o := .cells #[.int .i64 t601, .int .i64 t602, .slice Ao30 t603.length co30] 46 (0, 0)) (by (with_reducible repeat (first | apply bkN | apply bkD | apply bkA)); exact BK607.out)) : gb616 ≠ gb607)); clear HO_590002; clear HO_591002; clear HO_608002; clear HO614; clear BK589; clear BK590; clear BK607; clear HB; have HO_590002 := n0_; have HO_591002 := n1_; have HO_608002 := n2_; have HO614 := n3_; have BK589 := n4_; have BK590 := n5_; have BK607 := n6_; have HB := n7_; have BK616 := n8_; have GW616 := n9_; have GE616 := n10_; have NB589_616 := n11_; have NB616_589 := n12_; have NB590_616 := n13_; have NB616_590 := n14_; have NB607_616 := n15_; have NB616_607 := n16_; clear n0_ n1_ n2_ n3_ n4_ n5_ n6_ n7_ n8_ n9_ n10_ n11_ n12_ n13_ n14_ n15_ n16_; clear hb hbox hg; have hnb52 := NB616_589.out; have hnc52 := NB589_616.out; have hnb53 := NB616_590.out; have hnc53 := NB590_616.out; have hnb54 := NB616_607.out; have hnc54 := NB607_616.out; have hcz55_0 : w51.cell? ⟨gb616, 0, none⟩ = some (.int .i64 0) := (blk_cell BK616.out 0).trans rfl; have hcz55_1 : w51.cell? ⟨gb616, 1, none⟩ = some (.int .i64 0) := (blk_cell BK616.out 1).trans rfl; have hcz55_2 : w51.cell? ⟨gb616, 2, none⟩ = some (.slice none 0 0) := (blk_cell BK616.out 2).trans rfl; have hfz55_0 := blk_frozen BK616.out 0; have hfz55_1 := blk_frozen BK616.out 1; have hfz55_2 := blk_frozen BK616.out 2; obtain ⟨Ao56, co56, eo56⟩ := Kd.R_slice HO614.out; subst eo56))
       (try simp only [Act.put, List.setIfInBounds_toArray, List.set_cons_zero, List.set_cons_succ])
       go_cut [79] (fun v79 wc => ∃ (kq : Nat) (x79_48 : Bool), v79 = .bool x79_48 ∧ Aside0 (tillerlaw04_MatTimes.j3 kq a2 x9_45 t615 x79_48 t591 t592 t593 t596 t597 t598 t601 t602 t603 t610 t611 t612 = some r) ∧ Aside0 (kq ≤ kj45) ∧ Aside0 (Kd.R (Kd.int .i32) 24 wc w.heap.size (fun k_ => some k_ ≠ ((.slice Ao20 t598.length co20) : Value).ownBlock ∧ some k_ ≠ ((.slice Ao30 t603.length co30) : Value).ownBlock ∧ some k_ ≠ ((.slice Ao56 t612.length co56) : Value).ownBlock) (.slice Ao16 t593.length co16) t593) ∧ Aside0 (Kd.R (Kd.int .i32) 24 wc w.heap.size (fun k_ => some k_ ≠ ((.slice Ao16 t593.length co16) : Value).ownBlock ∧ some k_ ≠ ((.slice Ao30 t603.length co30) : Value).ownBlock ∧ some k_ ≠ ((.slice Ao56 t612.length co56) : Value).ownBlock) (.slice Ao20 t598.length co20) t598) ∧ Aside0 (Kd.R (Kd.int .i32) 24 wc w.heap.size (fun k_ => some k_ ≠ ((.slice Ao16 t593.length co16) : Value).ownBlock ∧ some k_ ≠ ((.slice Ao20 t598.length co20) : Value).ownBlock ∧ some k_ ≠ ((.slice Ao56 t612.length co56) : Value).ownBlock) (.slice Ao30 t603.length co30) t603) ∧ Aside0 (Kd.R (Kd.int .i32) 24 wc w.heap.size (fun k_ => some k_ ≠ ((.slice Ao16 t593.length co16) : Value).ownBlock ∧ some k_ ≠ ((.slice Ao20 t598.length co20) : Value).ownBlock ∧ some k_ ≠ ((.slice Ao30 t603.length co30) : Value).ownBlock) (.slice Ao56 t612.length co56) t612) ∧ Aside0 (wc.heap[gb589]? = some (.cells #[.int .i64 t591, .int .i64 t592, (.slice Ao16 t593.length co16)] 46 (0, 0))) ∧ Aside0 (wc.heap[gb590]? = some (.cells #[.int .i64 t596, .int .i64 t597, (.slice Ao20 t598.length co20)] 46 (0, 0))) ∧ Aside0 (wc.heap[gb607]? = some (.cells #[.int .i64 t601, .int .i64 t602, (.slice Ao30 t603.length co30)] 46 (0, 0))) ∧ Aside0 (wc.heap[gb616]? = some (.cells #[.int .i64 t610, .int .i64 t611, (.slice Ao56 t612.length co56)] 46 (0, 0))) ∧ Aside0 (Below w.heap.size w wc))
       case first =>
        have H := HC49.out
        clear HC49
        replace H := Option.bind_eq_some_iff.mp H
        obtain ⟨t617, A570, H⟩ := H
        replace H : (if t617 = true then (if t606 = x9_45 then (if a2 < 1 then (if t615 = 1 then (if a2 > 128 then (if t615 = 2 then (if a2 ≥ 1 then (if a2 ≤ 128 then (tillerlaw04_MatTimes.j3 kj45 a2 x9_45 t615 (t615 != 0) t591 t592 t593 t596 t597 t598 t601 t602 t603 t610 t611 t612) else (tillerlaw04_MatTimes.j3 kj45 a2 x9_45 t615 false t591 t592 t593 t596 t597 t598 t601 t602 t603 t610 t611 t612)) else (tillerlaw04_MatTimes.j3 kj45 a2 x9_45 t615 false t591 t592 t593 t596 t597 t598 t601 t602 t603 t610 t611 t612)) else (tillerlaw04_MatTimes.j3 kj45 a2 x9_45 t615 true t591 t592 t593 t596 t597 t598 t601 t602 t603 t610 t611 t612)) else (if a2 ≥ 1 then (if a2 ≤ 128 then (tillerlaw04_MatTimes.j3 kj45 a2 x9_45 t615 (t615 != 0) t591 t592 t593 t596 t597 t598 t601 t602 t603 t610 t611 t612) else (tillerlaw04_MatTimes.j3 kj45 a2 x9_45 t615 false t591 t592 t593 t596 t597 t598 t601 t602 t603 t610 t611 t612)) else (tillerlaw04_MatTimes.j3 kj45 a2 x9_45 t615 false t591 t592 t593 t596 t597 t598 t601 t602 t603 t610 t611 t612))) else (tillerlaw04_MatTimes.j3 kj45 a2 x9_45 t615 true t591 t592 t593 t596 t597 t598 t601 t602 t603 t610 t611 t612)) else (if a2 > 128 then (if t615 = 2 then (if a2 ≥ 1 then (if a2 ≤ 128 then (tillerlaw04_MatTimes.j3 kj45 a2 x9_45 t615 (t615 != 0) t591 t592 t593 t596 t597 t598 t601 t602 t603 t610 t611 t612) else (tillerlaw04_MatTimes.j3 kj45 a2 x9_45 t615 false t591 t592 t593 t596 t597 t598 t601 t602 t603 t610 t611 t612)) else (tillerlaw04_MatTimes.j3 kj45 a2 x9_45 t615 false t591 t592 t593 t596 t597 t598 t601 t602 t603 t610 t611 t612)) else (tillerlaw04_MatTimes.j3 kj45 a2 x9_45 t615 true t591 t592 t593 t596 t597 t598 t601 t602 t603 t610 t611 t612)) else (if a2 ≥ 1 then (if a2 ≤ 128 then (tillerlaw04_MatTimes.j3 kj45 a2 x9_45 t615 (t615 != 0) t591 t592 t593 t596 t597 t598 t601 t602 t603 t610 t611 t612) else (tillerlaw04_MatTimes.j3 kj45 a2 x9_45 t615 false t591 t592 t593 t596 t597 t598 t601 t602 t603 t610 t611 t612)) else (tillerlaw04_MatTimes.j3 kj45 a2 x9_45 t615 false t591 t592 t593 t596 t597 t598 t601 t602 t603 t610 t611 t612)))) else (tillerlaw04_MatTimes.j3 kj45 a2 x9_45 t615 true t591 t592 t593 t596 t597 t598 t601 t602 t603 t610 t611 t612)) else (tillerlaw04_MatTimes.j3 kj45 a2 x9_45 t615 true t591 t592 t593 t596 t597 t598 t601 t602 t603 t610 t611 t612)) = some r := H
        have A57 := Aside0.mk A570
        clear A570
        by_cases c58 : t617 = true
        ·subst c58
         have H1 : (if t606 = x9_45 then (if a2 < 1 then (if t615 = 1 then (if a2 > 128 then (if t615 = 2 then (if a2 ≥ 1 then (if a2 ≤ 128 then (tillerlaw04_MatTimes.j3 kj45 a2 x9_45 t615 (t615 != 0) t591 t592 t593 t596 t597 t598 t601 t602 t603 t610 t611 t612) else (tillerlaw04_MatTimes.j3 kj45 a2 x9_45 t615 false t591 t592 t593 t596 t597 t598 t601 t602 t603 t610 t611 t612)) else (tillerlaw04_MatTimes.j3 kj45 a2 x9_45 t615 false t591 t592 t593 t596 t597 t598 t601 t602 t603 t610 t611 t612)) else (tillerlaw04_MatTimes.j3 kj45 a2 x9_45 t615 true t591 t592 t593 t596 t597 t598 t601 t602 t603 t610 t611 t612)) else (if a2 ≥ 1 then (if a2 ≤ 128 then (tillerlaw04_MatTimes.j3 kj45 a2 x9_45 t615 (t615 != 0) t591 t592 t593 t596 t597 t598 t601 t602 t603 t610 t611 t612) else (tillerlaw04_MatTimes.j3 kj45 a2 x9_45 t615 false t591 t592 t593 t596 t597 t598 t601 t602 t603 t610 t611 t612)) else (tillerlaw04_MatTimes.j3 kj45 a2 x9_45 t615 false t591 t592 t593 t596 t597 t598 t601 t602 t603 t610 t611 t612))) else (tillerlaw04_MatTimes.j3 kj45 a2 x9_45 t615 true t591 t592 t593 t596 t597 t598 t601 t602 t603 t610 t611 t612)) else (if a2 > 128 then (if t615 = 2 then (if a2 ≥ 1 then (if a2 ≤ 128 then (tillerlaw04_MatTimes.j3 kj45 a2 x9_45 t615 (t615 != 0) t591 t592 t593 t596 t597 t598 t601 t602 t603 t610 t611 t612) else (tillerlaw04_MatTimes.j3 kj45 a2 x9_45 t615 false t591 t592 t593 t596 t597 t598 t601 t602 t603 t610 t611 t612)) else (tillerlaw04_MatTimes.j3 kj45 a2 x9_45 t615 false t591 t592 t593 t596 t597 t598 t601 t602 t603 t610 t611 t612)) else (tillerlaw04_MatTimes.j3 kj45 a2 x9_45 t615 true t591 t592 t593 t596 t597 t598 t601 t602 t603 t610 t611 t612)) else (if a2 ≥ 1 then (if a2 ≤ 128 then (tillerlaw04_MatTimes.j3 kj45 a2 x9_45 t615 (t615 != 0) t591 t592 t593 t596 t597 t598 t601 t602 t603 t610 t611 t612) else (tillerlaw04_MatTimes.j3 kj45 a2 x9_45 t615 false t591 t592 t593 t596 t597 t598 t601 t602 t603 t610 t611 t612)) else (tillerlaw04_MatTimes.j3 kj45 a2 x9_45 t615 false t591 t592 t593 t596 t597 t598 t601 t602 t603 t610 t611 t612)))) else (tillerlaw04_MatTimes.j3 kj45 a2 x9_45 t615 true t591 t592 t593 t596 t597 t598 t601 t602 t603 t610 t611 t612)) = some r := by rw [if_pos rfl] at H; exact H
         clear H
         have H := H1
         clear H1
         by_cases c59 : t606 = x9_45
         ·rw [if_pos c59] at H
          have c59b0 : (t606 == x9_45) = true := beq_iff_eq.mpr c59
          have c59b1 : (t606 != x9_45) = false := bne_eq_false_iff_eq.mpr c59
          clear c59
          (first | rw [c59b0] | (simp only [i64_w, i32_w]; rw [c59b0]) | skip)
          by_cases c60 : a2 < 1
          ·rw [if_pos c60] at H
           have c60b0 : decide (a2 < 1) = true := decide_eq_true c60
           clear c60
           by_cases c61 : t615 = 1
           ·rw [if_pos c61] at H
            have c61b0 : (t615 == 1) = true := beq_iff_eq.mpr c61
            have c61b1 : (t615 != 1) = false := bne_eq_false_iff_eq.mpr c61
            clear c61
            by_cases c62 : a2 > 128
            ·rw [if_pos c62] at H
             exfalso; clear H; have z0_ := of_decide_eq_true c60b0; omega
            ·rw [if_neg c62] at H
             have c62b0 : decide (128 < a2) = false := decide_eq_false c62
             clear c62
             by_cases c63 : a2 ≥ 1
             ·rw [if_pos c63] at H
              exfalso; clear H; have z0_ := of_decide_eq_true c60b0; have z1_ := of_decide_eq_false c62b0; omega
             ·rw [if_neg c63] at H
              have c63b0 : decide (1 ≤ a2) = false := decide_eq_false c63
              clear c63
              have H' := Aside0.mk H
              clear H
              go_wp2_with (first | ((with_reducible refine gate_callee (f := 34) rfl ?_); refine goesL_ (some 45) rfl rfl Try.func34 (by kernel_rfl) rfl #[] rfl (by (try simp only [List.map_toArray, List.map_cons, List.map_nil]); first | done | rfl | (simp only [List.length_drop, List.length_take]; rfl)) ?_; (with_reducible refine (tillerlaw04_awake.calls kj45  true _ A57.out).mono ?_); rintro e w64 ⟨rfl, hb⟩; refine ⟨_, rfl, ?_⟩; have n0_ := Aside0.mk (Kd.R_below (by (with_reducible repeat (first | apply rwA | apply rwN | apply rwD)); exact (Kd.R_mono (Kd.R_far (p := ⟨gb616, 2, none⟩) (Kd.R_far (p := ⟨gb616, 1, none⟩) (Kd.R_far (p := ⟨gb616, 0, none⟩) (Kd.R_types HO_590002.out BK616.out (by decide)) (fun _ hk => hk.2) (.int .i64 t610)) (fun _ hk => hk.2) (.int .i64 t611)) (fun _ hk => hk.2) (.slice Ao56 t612.length co56)) (fun _ h_ => h_.1))) hb); have n1_ := Aside0.mk (Kd.R_below (by (with_reducible repeat (first | apply rwA | apply rwN | apply rwD)); exact (Kd.R_mono (Kd.R_far (p := ⟨gb616, 2, none⟩) (Kd.R_far (p := ⟨gb616, 1, none⟩) (Kd.R_far (p := ⟨gb616, 0, none⟩) (Kd.R_types HO_591002.out BK616.out (by decide)) (fun _ hk => hk.2) (.int .i64 t610)) (fun _ hk => hk.2) (.int .i64 t611)) (fun _ hk => hk.2) (.slice Ao56 t612.length co56)) (fun _ h_ => h_.1))) hb); have n2_ := Aside0.mk (Kd.R_below (by (with_reducible repeat (first | apply rwA | apply rwN | apply rwD)); exact (Kd.R_mono (Kd.R_far (p := ⟨gb616, 2, none⟩) (Kd.R_far (p := ⟨gb616, 1, none⟩) (Kd.R_far (p := ⟨gb616, 0, none⟩) (Kd.R_types HO_608002.out BK616.out (by decide)) (fun _ hk => hk.2) (.int .i64 t610)) (fun _ hk => hk.2) (.int .i64 t611)) (fun _ hk => hk.2) (.slice Ao56 t612.length co56)) (fun _ h_ => h_.1))) hb); have n3_ := Aside0.mk (Kd.R_below (by (with_reducible repeat (first | apply rwA | apply rwN | apply rwD)); exact (Kd.R_mono (Kd.R_far (p := ⟨gb616, 2, none⟩) (Kd.R_far (p := ⟨gb616, 1, none⟩) (Kd.R_far (p := ⟨gb616, 0, none⟩) (Kd.R_types HO614.out BK616.out (by decide)) (fun _ hk => hk.2) (.int .i64 t610)) (fun _ hk => hk.2) (.int .i64 t611)) (fun _ hk => hk.2) (.slice Ao56 t612.length co56)) (fun _ h_ => h_.1))) hb); have n4_ := Aside0.mk (blk_below (g := gb589) (o := .cells #[.int .i64 t591, .int .i64 t592, .slice Ao16 t593.length co16] 46 (0, 0)) (by (with_reducible repeat (first | apply bkN | apply bkD | apply bkA)); refine blk_far ?_ NB589_616.out _; (with_reducible repeat (first | apply bkN | apply bkD | apply bkA)); refine blk_far ?_ NB589_616.out _; (with_reducible repeat (first | apply bkN | apply bkD | apply bkA)); refine blk_far ?_ NB589_616.out _; (with_reducible repeat (first | apply bkN | apply bkD | apply bkA)); exact BK589.out) hb); have n5_ := Aside0.mk (blk_below (g := gb590) (o := .cells #[.int .i64 t596, .int .i64 t597, .slice Ao20 t598.length co20] 46 (0, 0)) (by (with_reducible repeat (first | apply bkN | apply bkD | apply bkA)); refine blk_far ?_ NB590_616.out _; (with_reducible repeat (first | apply bkN | apply bkD | apply bkA)); refine blk_far ?_ NB590_616.out _; (with_reducible repeat (first | apply bkN | apply bkD | apply bkA)); refine blk_far ?_ NB590_616.out _; (with_reducible repeat (first | apply bkN | apply bkD | apply bkA)); exact BK590.out) hb); have n6_ := Aside0.mk (blk_below (g := gb607) (o := .cells #[.int .i64 t601, .int .i64 t602, .slice Ao30 t603.length co30] 46 (0, 0)) (by (with_reducible repeat (first | apply bkN | apply bkD | apply bkA)); refine blk_far ?_ NB607_616.out _; (with_reducible repeat (first | apply bkN | apply bkD | apply bkA)); refine blk_far ?_ NB607_616.out _; (with_reducible repeat (first | apply bkN | apply bkD | apply bkA)); refine blk_far ?_ NB607_616.out _; (with_reducible repeat (first | apply bkN | apply bkD | apply bkA)); exact BK607.out) hb); have n7_ := Aside0.mk (blk_below (g := gb616) (o := .cells #[.int .i64 t610, .int .i64 t611, .slice Ao56 t612.length co56] 46 (0, 0)) (by (with_reducible repeat (first | apply bkN | apply bkD | apply bkA)); refine blk_put (cs := #[.int .i64 t610, .int .i64 t611, .slice none 0 0]) ?_ 2 _ rfl; (with_reducible repeat (first | apply bkN | apply bkD | apply bkA)); refine blk_put (cs := #[.int .i64 t610, .int .i64 0, .slice none 0 0]) ?_ 1 _ rfl; (with_reducible repeat (first | apply bkN | apply bkD | apply bkA)); refine blk_put (cs := #[.int .i64 0, .int .i64 0, .slice none 0 0]) ?_ 0 _ rfl; (with_reducible repeat (first | apply bkN | apply bkD | apply bkA)); exact BK616.out) hb); have n8_ := Aside0.mk (below_step (by repeat (first | (with_reducible first | exact HB.out | apply bwA | apply bwN | apply bwD | refine below_set ?_ GE589.out | refine below_set ?_ GE590.out | refine below_set ?_ GE607.out | refine below_set ?_ GE616.out) | exact HB.out)) hb); clear HO_590002; clear HO_591002; clear HO_608002; clear HO614; clear BK589; clear BK590; clear BK607; clear BK616; clear HB; have HO_590002 := n0_; have HO_591002 := n1_; have HO_608002 := n2_; have HO614 := n3_; have BK589 := n4_; have BK590 := n5_; have BK607 := n6_; have BK616 := n7_; have HB := n8_; clear n0_ n1_ n2_ n3_ n4_ n5_ n6_ n7_ n8_; (try clear hb); (try clear hb2); (try clear hk); (try clear hi)))
              go_meet
              case rel => exact ⟨_, (false), (by first | rfl | (simp; done) | (simp [*]; done)), H', ⟨by have := HJ7.out; have := HJ38.out; have := HJ45.out; first | omega | exact Nat.le_refl _⟩, ⟨by (with_reducible repeat (first | apply rwA | apply rwN | apply rwD)); exact Kd.R_mono HO_590002.out (fun _ hk => ⟨hk.1.1, ⟨hk.1.2, hk.2⟩⟩)⟩, ⟨by (with_reducible repeat (first | apply rwA | apply rwN | apply rwD)); exact Kd.R_mono HO_591002.out (fun _ hk => ⟨hk.1.1, ⟨hk.1.2, hk.2⟩⟩)⟩, ⟨by (with_reducible repeat (first | apply rwA | apply rwN | apply rwD)); exact Kd.R_mono HO_608002.out (fun _ hk => ⟨hk.1.1, ⟨hk.1.2, hk.2⟩⟩)⟩, ⟨by (with_reducible repeat (first | apply rwA | apply rwN | apply rwD)); exact Kd.R_mono HO614.out (fun _ hk => ⟨hk.1.1.2, ⟨hk.1.2, hk.2⟩⟩)⟩, ⟨by (with_reducible repeat (first | apply bkN | apply bkD | apply bkA)); exact BK589.out⟩, ⟨by (with_reducible repeat (first | apply bkN | apply bkD | apply bkA)); exact BK590.out⟩, ⟨by (with_reducible repeat (first | apply bkN | apply bkD | apply bkA)); exact BK607.out⟩, ⟨by (with_reducible repeat (first | apply bkN | apply bkD | apply bkA)); exact BK616.out⟩, ⟨by repeat (first | (with_reducible first | exact HB.out | apply bwA | apply bwN | apply bwD | refine below_set ?_ GE589.out | refine below_set ?_ GE590.out | refine below_set ?_ GE607.out | refine below_set ?_ GE616.out) | exact HB.out)⟩⟩
           ·rw [if_neg c61] at H
            have c61b0 : (t615 == 1) = false := beq_eq_false_iff_ne.mpr c61
            have c61b1 : (t615 != 1) = true := bne_iff_ne.mpr c61
            have H' := Aside0.mk H
            clear H
            go_wp2_with (first | ((with_reducible refine gate_callee (f := 34) rfl ?_); refine goesL_ (some 45) rfl rfl Try.func34 (by kernel_rfl) rfl #[] rfl (by (try simp only [List.map_toArray, List.map_cons, List.map_nil]); first | done | rfl | (simp only [List.length_drop, List.length_take]; rfl)) ?_; (with_reducible refine (tillerlaw04_awake.calls kj45  true _ A57.out).mono ?_); rintro e w65 ⟨rfl, hb⟩; refine ⟨_, rfl, ?_⟩; have n0_ := Aside0.mk (Kd.R_below (by (with_reducible repeat (first | apply rwA | apply rwN | apply rwD)); exact (Kd.R_mono (Kd.R_far (p := ⟨gb616, 2, none⟩) (Kd.R_far (p := ⟨gb616, 1, none⟩) (Kd.R_far (p := ⟨gb616, 0, none⟩) (Kd.R_types HO_590002.out BK616.out (by decide)) (fun _ hk => hk.2) (.int .i64 t610)) (fun _ hk => hk.2) (.int .i64 t611)) (fun _ hk => hk.2) (.slice Ao56 t612.length co56)) (fun _ h_ => h_.1))) hb); have n1_ := Aside0.mk (Kd.R_below (by (with_reducible repeat (first | apply rwA | apply rwN | apply rwD)); exact (Kd.R_mono (Kd.R_far (p := ⟨gb616, 2, none⟩) (Kd.R_far (p := ⟨gb616, 1, none⟩) (Kd.R_far (p := ⟨gb616, 0, none⟩) (Kd.R_types HO_591002.out BK616.out (by decide)) (fun _ hk => hk.2) (.int .i64 t610)) (fun _ hk => hk.2) (.int .i64 t611)) (fun _ hk => hk.2) (.slice Ao56 t612.length co56)) (fun _ h_ => h_.1))) hb); have n2_ := Aside0.mk (Kd.R_below (by (with_reducible repeat (first | apply rwA | apply rwN | apply rwD)); exact (Kd.R_mono (Kd.R_far (p := ⟨gb616, 2, none⟩) (Kd.R_far (p := ⟨gb616, 1, none⟩) (Kd.R_far (p := ⟨gb616, 0, none⟩) (Kd.R_types HO_608002.out BK616.out (by decide)) (fun _ hk => hk.2) (.int .i64 t610)) (fun _ hk => hk.2) (.int .i64 t611)) (fun _ hk => hk.2) (.slice Ao56 t612.length co56)) (fun _ h_ => h_.1))) hb); have n3_ := Aside0.mk (Kd.R_below (by (with_reducible repeat (first | apply rwA | apply rwN | apply rwD)); exact (Kd.R_mono (Kd.R_far (p := ⟨gb616, 2, none⟩) (Kd.R_far (p := ⟨gb616, 1, none⟩) (Kd.R_far (p := ⟨gb616, 0, none⟩) (Kd.R_types HO614.out BK616.out (by decide)) (fun _ hk => hk.2) (.int .i64 t610)) (fun _ hk => hk.2) (.int .i64 t611)) (fun _ hk => hk.2) (.slice Ao56 t612.length co56)) (fun _ h_ => h_.1))) hb); have n4_ := Aside0.mk (blk_below (g := gb589) (o := .cells #[.int .i64 t591, .int .i64 t592, .slice Ao16 t593.length co16] 46 (0, 0)) (by (with_reducible repeat (first | apply bkN | apply bkD | apply bkA)); refine blk_far ?_ NB589_616.out _; (with_reducible repeat (first | apply bkN | apply bkD | apply bkA)); refine blk_far ?_ NB589_616.out _; (with_reducible repeat (first | apply bkN | apply bkD | apply bkA)); refine blk_far ?_ NB589_616.out _; (with_reducible repeat (first | apply bkN | apply bkD | apply bkA)); exact BK589.out) hb); have n5_ := Aside0.mk (blk_below (g := gb590) (o := .cells #[.int .i64 t596, .int .i64 t597, .slice Ao20 t598.length co20] 46 (0, 0)) (by (with_reducible repeat (first | apply bkN | apply bkD | apply bkA)); refine blk_far ?_ NB590_616.out _; (with_reducible repeat (first | apply bkN | apply bkD | apply bkA)); refine blk_far ?_ NB590_616.out _; (with_reducible repeat (first | apply bkN | apply bkD | apply bkA)); refine blk_far ?_ NB590_616.out _; (with_reducible repeat (first | apply bkN | apply bkD | apply bkA)); exact BK590.out) hb); have n6_ := Aside0.mk (blk_below (g := gb607) (o := .cells #[.int .i64 t601, .int .i64 t602, .slice Ao30 t603.length co30] 46 (0, 0)) (by (with_reducible repeat (first | apply bkN | apply bkD | apply bkA)); refine blk_far ?_ NB607_616.out _; (with_reducible repeat (first | apply bkN | apply bkD | apply bkA)); refine blk_far ?_ NB607_616.out _; (with_reducible repeat (first | apply bkN | apply bkD | apply bkA)); refine blk_far ?_ NB607_616.out _; (with_reducible repeat (first | apply bkN | apply bkD | apply bkA)); exact BK607.out) hb); have n7_ := Aside0.mk (blk_below (g := gb616) (o := .cells #[.int .i64 t610, .int .i64 t611, .slice Ao56 t612.length co56] 46 (0, 0)) (by (with_reducible repeat (first | apply bkN | apply bkD | apply bkA)); refine blk_put (cs := #[.int .i64 t610, .int .i64 t611, .slice none 0 0]) ?_ 2 _ rfl; (with_reducible repeat (first | apply bkN | apply bkD | apply bkA)); refine blk_put (cs := #[.int .i64 t610, .int .i64 0, .slice none 0 0]) ?_ 1 _ rfl; (with_reducible repeat (first | apply bkN | apply bkD | apply bkA)); refine blk_put (cs := #[.int .i64 0, .int .i64 0, .slice none 0 0]) ?_ 0 _ rfl; (with_reducible repeat (first | apply bkN | apply bkD | apply bkA)); exact BK616.out) hb); have n8_ := Aside0.mk (below_step (by repeat (first | (with_reducible first | exact HB.out | apply bwA | apply bwN | apply bwD | refine below_set ?_ GE589.out | refine below_set ?_ GE590.out | refine below_set ?_ GE607.out | refine below_set ?_ GE616.out) | exact HB.out)) hb); clear HO_590002; clear HO_591002; clear HO_608002; clear HO614; clear BK589; clear BK590; clear BK607; clear BK616; clear HB; have HO_590002 := n0_; have HO_591002 := n1_; have HO_608002 := n2_; have HO614 := n3_; have BK589 := n4_; have BK590 := n5_; have BK607 := n6_; have BK616 := n7_; have HB := n8_; clear n0_ n1_ n2_ n3_ n4_ n5_ n6_ n7_ n8_; (try clear hb); (try clear hb2); (try clear hk); (try clear hi)))
            go_meet
            case rel => exact ⟨_, (true), (by first | rfl | (simp; done) | (simp [*]; done)), H', ⟨by have := HJ7.out; have := HJ38.out; have := HJ45.out; first | omega | exact Nat.le_refl _⟩, ⟨by (with_reducible repeat (first | apply rwA | apply rwN | apply rwD)); exact Kd.R_mono HO_590002.out (fun _ hk => ⟨hk.1.1, ⟨hk.1.2, hk.2⟩⟩)⟩, ⟨by (with_reducible repeat (first | apply rwA | apply rwN | apply rwD)); exact Kd.R_mono HO_591002.out (fun _ hk => ⟨hk.1.1, ⟨hk.1.2, hk.2⟩⟩)⟩, ⟨by (with_reducible repeat (first | apply rwA | apply rwN | apply rwD)); exact Kd.R_mono HO_608002.out (fun _ hk => ⟨hk.1.1, ⟨hk.1.2, hk.2⟩⟩)⟩, ⟨by (with_reducible repeat (first | apply rwA | apply rwN | apply rwD)); exact Kd.R_mono HO614.out (fun _ hk => ⟨hk.1.1.2, ⟨hk.1.2, hk.2⟩⟩)⟩, ⟨by (with_reducible repeat (first | apply bkN | apply bkD | apply bkA)); exact BK589.out⟩, ⟨by (with_reducible repeat (first | apply bkN | apply bkD | apply bkA)); exact BK590.out⟩, ⟨by (with_reducible repeat (first | apply bkN | apply bkD | apply bkA)); exact BK607.out⟩, ⟨by (with_reducible repeat (first | apply bkN | apply bkD | apply bkA)); exact BK616.out⟩, ⟨by repeat (first | (with_reducible first | exact HB.out | apply bwA | apply bwN | apply bwD | refine below_set ?_ GE589.out | refine below_set ?_ GE590.out | refine below_set ?_ GE607.out | refine below_set ?_ GE616.out) | exact HB.out)⟩⟩
          ·rw [if_neg c60] at H
           have c60b0 : decide (a2 < 1) = false := decide_eq_false c60
           clear c60
           by_cases c66 : a2 > 128
           ·rw [if_pos c66] at H
            have c66b0 : decide (128 < a2) = true := decide_eq_true c66
            clear c66
            by_cases c67 : t615 = 2
            ·rw [if_pos c67] at H
             have c67b0 : (t615 == 2) = true := beq_iff_eq.mpr c67
             have c67b1 : (t615 != 2) = false := bne_eq_false_iff_eq.mpr c67
             clear c67
             by_cases c68 : a2 ≥ 1
             ·rw [if_pos c68] at H
              have c68b0 : decide (1 ≤ a2) = true := decide_eq_true c68
              clear c68
              by_cases c69 : a2 ≤ 128
              ·rw [if_pos c69] at H
               exfalso; clear H; have z0_ := of_decide_eq_false c60b0; have z1_ := of_decide_eq_true c66b0; have z2_ := of_decide_eq_true c68b0; omega
              ·rw [if_neg c69] at H
               have c69b0 : decide (a2 ≤ 128) = false := decide_eq_false c69
               clear c69
               have H' := Aside0.mk H
               clear H
               go_wp2_with (first | ((with_reducible refine gate_callee (f := 34) rfl ?_); refine goesL_ (some 45) rfl rfl Try.func34 (by kernel_rfl) rfl #[] rfl (by (try simp only [List.map_toArray, List.map_cons, List.map_nil]); first | done | rfl | (simp only [List.length_drop, List.length_take]; rfl)) ?_; (with_reducible refine (tillerlaw04_awake.calls kj45  true _ A57.out).mono ?_); rintro e w70 ⟨rfl, hb⟩; refine ⟨_, rfl, ?_⟩; have n0_ := Aside0.mk (Kd.R_below (by (with_reducible repeat (first | apply rwA | apply rwN | apply rwD)); exact (Kd.R_mono (Kd.R_far (p := ⟨gb616, 2, none⟩) (Kd.R_far (p := ⟨gb616, 1, none⟩) (Kd.R_far (p := ⟨gb616, 0, none⟩) (Kd.R_types HO_590002.out BK616.out (by decide)) (fun _ hk => hk.2) (.int .i64 t610)) (fun _ hk => hk.2) (.int .i64 t611)) (fun _ hk => hk.2) (.slice Ao56 t612.length co56)) (fun _ h_ => h_.1))) hb); have n1_ := Aside0.mk (Kd.R_below (by (with_reducible repeat (first | apply rwA | apply rwN | apply rwD)); exact (Kd.R_mono (Kd.R_far (p := ⟨gb616, 2, none⟩) (Kd.R_far (p := ⟨gb616, 1, none⟩) (Kd.R_far (p := ⟨gb616, 0, none⟩) (Kd.R_types HO_591002.out BK616.out (by decide)) (fun _ hk => hk.2) (.int .i64 t610)) (fun _ hk => hk.2) (.int .i64 t611)) (fun _ hk => hk.2) (.slice Ao56 t612.length co56)) (fun _ h_ => h_.1))) hb); have n2_ := Aside0.mk (Kd.R_below (by (with_reducible repeat (first | apply rwA | apply rwN | apply rwD)); exact (Kd.R_mono (Kd.R_far (p := ⟨gb616, 2, none⟩) (Kd.R_far (p := ⟨gb616, 1, none⟩) (Kd.R_far (p := ⟨gb616, 0, none⟩) (Kd.R_types HO_608002.out BK616.out (by decide)) (fun _ hk => hk.2) (.int .i64 t610)) (fun _ hk => hk.2) (.int .i64 t611)) (fun _ hk => hk.2) (.slice Ao56 t612.length co56)) (fun _ h_ => h_.1))) hb); have n3_ := Aside0.mk (Kd.R_below (by (with_reducible repeat (first | apply rwA | apply rwN | apply rwD)); exact (Kd.R_mono (Kd.R_far (p := ⟨gb616, 2, none⟩) (Kd.R_far (p := ⟨gb616, 1, none⟩) (Kd.R_far (p := ⟨gb616, 0, none⟩) (Kd.R_types HO614.out BK616.out (by decide)) (fun _ hk => hk.2) (.int .i64 t610)) (fun _ hk => hk.2) (.int .i64 t611)) (fun _ hk => hk.2) (.slice Ao56 t612.length co56)) (fun _ h_ => h_.1))) hb); have n4_ := Aside0.mk (blk_below (g := gb589) (o := .cells #[.int .i64 t591, .int .i64 t592, .slice Ao16 t593.length co16] 46 (0, 0)) (by (with_reducible repeat (first | apply bkN | apply bkD | apply bkA)); refine blk_far ?_ NB589_616.out _; (with_reducible repeat (first | apply bkN | apply bkD | apply bkA)); refine blk_far ?_ NB589_616.out _; (with_reducible repeat (first | apply bkN | apply bkD | apply bkA)); refine blk_far ?_ NB589_616.out _; (with_reducible repeat (first | apply bkN | apply bkD | apply bkA)); exact BK589.out) hb); have n5_ := Aside0.mk (blk_below (g := gb590) (o := .cells #[.int .i64 t596, .int .i64 t597, .slice Ao20 t598.length co20] 46 (0, 0)) (by (with_reducible repeat (first | apply bkN | apply bkD | apply bkA)); refine blk_far ?_ NB590_616.out _; (with_reducible repeat (first | apply bkN | apply bkD | apply bkA)); refine blk_far ?_ NB590_616.out _; (with_reducible repeat (first | apply bkN | apply bkD | apply bkA)); refine blk_far ?_ NB590_616.out _; (with_reducible repeat (first | apply bkN | apply bkD | apply bkA)); exact BK590.out) hb); have n6_ := Aside0.mk (blk_below (g := gb607) (o := .cells #[.int .i64 t601, .int .i64 t602, .slice Ao30 t603.length co30] 46 (0, 0)) (by (with_reducible repeat (first | apply bkN | apply bkD | apply bkA)); refine blk_far ?_ NB607_616.out _; (with_reducible repeat (first | apply bkN | apply bkD | apply bkA)); refine blk_far ?_ NB607_616.out _; (with_reducible repeat (first | apply bkN | apply bkD | apply bkA)); refine blk_far ?_ NB607_616.out _; (with_reducible repeat (first | apply bkN | apply bkD | apply bkA)); exact BK607.out) hb); have n7_ := Aside0.mk (blk_below (g := gb616) (o := .cells #[.int .i64 t610, .int .i64 t611, .slice Ao56 t612.length co56] 46 (0, 0)) (by (with_reducible repeat (first | apply bkN | apply bkD | apply bkA)); refine blk_put (cs := #[.int .i64 t610, .int .i64 t611, .slice none 0 0]) ?_ 2 _ rfl; (with_reducible repeat (first | apply bkN | apply bkD | apply bkA)); refine blk_put (cs := #[.int .i64 t610, .int .i64 0, .slice none 0 0]) ?_ 1 _ rfl; (with_reducible repeat (first | apply bkN | apply bkD | apply bkA)); refine blk_put (cs := #[.int .i64 0, .int .i64 0, .slice none 0 0]) ?_ 0 _ rfl; (with_reducible repeat (first | apply bkN | apply bkD | apply bkA)); exact BK616.out) hb); have n8_ := Aside0.mk (below_step (by repeat (first | (with_reducible first | exact HB.out | apply bwA | apply bwN | apply bwD | refine below_set ?_ GE589.out | refine below_set ?_ GE590.out | refine below_set ?_ GE607.out | refine below_set ?_ GE616.out) | exact HB.out)) hb); clear HO_590002; clear HO_591002; clear HO_608002; clear HO614; clear BK589; clear BK590; clear BK607; clear BK616; clear HB; have HO_590002 := n0_; have HO_591002 := n1_; have HO_608002 := n2_; have HO614 := n3_; have BK589 := n4_; have BK590 := n5_; have BK607 := n6_; have BK616 := n7_; have HB := n8_; clear n0_ n1_ n2_ n3_ n4_ n5_ n6_ n7_ n8_; (try clear hb); (try clear hb2); (try clear hk); (try clear hi)))
               go_meet
               case rel => exact ⟨_, (false), (by first | rfl | (simp; done) | (simp [*]; done)), H', ⟨by have := HJ7.out; have := HJ38.out; have := HJ45.out; first | omega | exact Nat.le_refl _⟩, ⟨by (with_reducible repeat (first | apply rwA | apply rwN | apply rwD)); exact Kd.R_mono HO_590002.out (fun _ hk => ⟨hk.1.1, ⟨hk.1.2, hk.2⟩⟩)⟩, ⟨by (with_reducible repeat (first | apply rwA | apply rwN | apply rwD)); exact Kd.R_mono HO_591002.out (fun _ hk => ⟨hk.1.1, ⟨hk.1.2, hk.2⟩⟩)⟩, ⟨by (with_reducible repeat (first | apply rwA | apply rwN | apply rwD)); exact Kd.R_mono HO_608002.out (fun _ hk => ⟨hk.1.1, ⟨hk.1.2, hk.2⟩⟩)⟩, ⟨by (with_reducible repeat (first | apply rwA | apply rwN | apply rwD)); exact Kd.R_mono HO614.out (fun _ hk => ⟨hk.1.1.2, ⟨hk.1.2, hk.2⟩⟩)⟩, ⟨by (with_reducible repeat (first | apply bkN | apply bkD | apply bkA)); exact BK589.out⟩, ⟨by (with_reducible repeat (first | apply bkN | apply bkD | apply bkA)); exact BK590.out⟩, ⟨by (with_reducible repeat (first | apply bkN | apply bkD | apply bkA)); exact BK607.out⟩, ⟨by (with_reducible repeat (first | apply bkN | apply bkD | apply bkA)); exact BK616.out⟩, ⟨by repeat (first | (with_reducible first | exact HB.out | apply bwA | apply bwN | apply bwD | refine below_set ?_ GE589.out | refine below_set ?_ GE590.out | refine below_set ?_ GE607.out | refine below_set ?_ GE616.out) | exact HB.out)⟩⟩
             ·rw [if_neg c68] at H
              exfalso; clear H; have z0_ := of_decide_eq_false c60b0; have z1_ := of_decide_eq_true c66b0; omega
            ·rw [if_neg c67] at H
             have c67b0 : (t615 == 2) = false := beq_eq_false_iff_ne.mpr c67
             have c67b1 : (t615 != 2) = true := bne_iff_ne.mpr c67
             have H' := Aside0.mk H
             clear H
             go_wp2_with (first | ((with_reducible refine gate_callee (f := 34) rfl ?_); refine goesL_ (some 45) rfl rfl Try.func34 (by kernel_rfl) rfl #[] rfl (by (try simp only [List.map_toArray, List.map_cons, List.map_nil]); first | done | rfl | (simp only [List.length_drop, List.length_take]; rfl)) ?_; (with_reducible refine (tillerlaw04_awake.calls kj45  true _ A57.out).mono ?_); rintro e w71 ⟨rfl, hb⟩; refine ⟨_, rfl, ?_⟩; have n0_ := Aside0.mk (Kd.R_below (by (with_reducible repeat (first | apply rwA | apply rwN | apply rwD)); exact (Kd.R_mono (Kd.R_far (p := ⟨gb616, 2, none⟩) (Kd.R_far (p := ⟨gb616, 1, none⟩) (Kd.R_far (p := ⟨gb616, 0, none⟩) (Kd.R_types HO_590002.out BK616.out (by decide)) (fun _ hk => hk.2) (.int .i64 t610)) (fun _ hk => hk.2) (.int .i64 t611)) (fun _ hk => hk.2) (.slice Ao56 t612.length co56)) (fun _ h_ => h_.1))) hb); have n1_ := Aside0.mk (Kd.R_below (by (with_reducible repeat (first | apply rwA | apply rwN | apply rwD)); exact (Kd.R_mono (Kd.R_far (p := ⟨gb616, 2, none⟩) (Kd.R_far (p := ⟨gb616, 1, none⟩) (Kd.R_far (p := ⟨gb616, 0, none⟩) (Kd.R_types HO_591002.out BK616.out (by decide)) (fun _ hk => hk.2) (.int .i64 t610)) (fun _ hk => hk.2) (.int .i64 t611)) (fun _ hk => hk.2) (.slice Ao56 t612.length co56)) (fun _ h_ => h_.1))) hb); have n2_ := Aside0.mk (Kd.R_below (by (with_reducible repeat (first | apply rwA | apply rwN | apply rwD)); exact (Kd.R_mono (Kd.R_far (p := ⟨gb616, 2, none⟩) (Kd.R_far (p := ⟨gb616, 1, none⟩) (Kd.R_far (p := ⟨gb616, 0, none⟩) (Kd.R_types HO_608002.out BK616.out (by decide)) (fun _ hk => hk.2) (.int .i64 t610)) (fun _ hk => hk.2) (.int .i64 t611)) (fun _ hk => hk.2) (.slice Ao56 t612.length co56)) (fun _ h_ => h_.1))) hb); have n3_ := Aside0.mk (Kd.R_below (by (with_reducible repeat (first | apply rwA | apply rwN | apply rwD)); exact (Kd.R_mono (Kd.R_far (p := ⟨gb616, 2, none⟩) (Kd.R_far (p := ⟨gb616, 1, none⟩) (Kd.R_far (p := ⟨gb616, 0, none⟩) (Kd.R_types HO614.out BK616.out (by decide)) (fun _ hk => hk.2) (.int .i64 t610)) (fun _ hk => hk.2) (.int .i64 t611)) (fun _ hk => hk.2) (.slice Ao56 t612.length co56)) (fun _ h_ => h_.1))) hb); have n4_ := Aside0.mk (blk_below (g := gb589) (o := .cells #[.int .i64 t591, .int .i64 t592, .slice Ao16 t593.length co16] 46 (0, 0)) (by (with_reducible repeat (first | apply bkN | apply bkD | apply bkA)); refine blk_far ?_ NB589_616.out _; (with_reducible repeat (first | apply bkN | apply bkD | apply bkA)); refine blk_far ?_ NB589_616.out _; (with_reducible repeat (first | apply bkN | apply bkD | apply bkA)); refine blk_far ?_ NB589_616.out _; (with_reducible repeat (first | apply bkN | apply bkD | apply bkA)); exact BK589.out) hb); have n5_ := Aside0.mk (blk_below (g := gb590) (o := .cells #[.int .i64 t596, .int .i64 t597, .slice Ao20 t598.length co20] 46 (0, 0)) (by (with_reducible repeat (first | apply bkN | apply bkD | apply bkA)); refine blk_far ?_ NB590_616.out _; (with_reducible repeat (first | apply bkN | apply bkD | apply bkA)); refine blk_far ?_ NB590_616.out _; (with_reducible repeat (first | apply bkN | apply bkD | apply bkA)); refine blk_far ?_ NB590_616.out _; (with_reducible repeat (first | apply bkN | apply bkD | apply bkA)); exact BK590.out) hb); have n6_ := Aside0.mk (blk_below (g := gb607) (o := .cells #[.int .i64 t601, .int .i64 t602, .slice Ao30 t603.length co30] 46 (0, 0)) (by (with_reducible repeat (first | apply bkN | apply bkD | apply bkA)); refine blk_far ?_ NB607_616.out _; (with_reducible repeat (first | apply bkN | apply bkD | apply bkA)); refine blk_far ?_ NB607_616.out _; (with_reducible repeat (first | apply bkN | apply bkD | apply bkA)); refine blk_far ?_ NB607_616.out _; (with_reducible repeat (first | apply bkN | apply bkD | apply bkA)); exact BK607.out) hb); have n7_ := Aside0.mk (blk_below (g := gb616) (o := .cells #[.int .i64 t610, .int .i64 t611, .slice Ao56 t612.length co56] 46 (0, 0)) (by (with_reducible repeat (first | apply bkN | apply bkD | apply bkA)); refine blk_put (cs := #[.int .i64 t610, .int .i64 t611, .slice none 0 0]) ?_ 2 _ rfl; (with_reducible repeat (first | apply bkN | apply bkD | apply bkA)); refine blk_put (cs := #[.int .i64 t610, .int .i64 0, .slice none 0 0]) ?_ 1 _ rfl; (with_reducible repeat (first | apply bkN | apply bkD | apply bkA)); refine blk_put (cs := #[.int .i64 0, .int .i64 0, .slice none 0 0]) ?_ 0 _ rfl; (with_reducible repeat (first | apply bkN | apply bkD | apply bkA)); exact BK616.out) hb); have n8_ := Aside0.mk (below_step (by repeat (first | (with_reducible first | exact HB.out | apply bwA | apply bwN | apply bwD | refine below_set ?_ GE589.out | refine below_set ?_ GE590.out | refine below_set ?_ GE607.out | refine below_set ?_ GE616.out) | exact HB.out)) hb); clear HO_590002; clear HO_591002; clear HO_608002; clear HO614; clear BK589; clear BK590; clear BK607; clear BK616; clear HB; have HO_590002 := n0_; have HO_591002 := n1_; have HO_608002 := n2_; have HO614 := n3_; have BK589 := n4_; have BK590 := n5_; have BK607 := n6_; have BK616 := n7_; have HB := n8_; clear n0_ n1_ n2_ n3_ n4_ n5_ n6_ n7_ n8_; (try clear hb); (try clear hb2); (try clear hk); (try clear hi)))
             go_meet
             case rel => exact ⟨_, (true), (by first | rfl | (simp; done) | (simp [*]; done)), H', ⟨by have := HJ7.out; have := HJ38.out; have := HJ45.out; first | omega | exact Nat.le_refl _⟩, ⟨by (with_reducible repeat (first | apply rwA | apply rwN | apply rwD)); exact Kd.R_mono HO_590002.out (fun _ hk => ⟨hk.1.1, ⟨hk.1.2, hk.2⟩⟩)⟩, ⟨by (with_reducible repeat (first | apply rwA | apply rwN | apply rwD)); exact Kd.R_mono HO_591002.out (fun _ hk => ⟨hk.1.1, ⟨hk.1.2, hk.2⟩⟩)⟩, ⟨by (with_reducible repeat (first | apply rwA | apply rwN | apply rwD)); exact Kd.R_mono HO_608002.out (fun _ hk => ⟨hk.1.1, ⟨hk.1.2, hk.2⟩⟩)⟩, ⟨by (with_reducible repeat (first | apply rwA | apply rwN | apply rwD)); exact Kd.R_mono HO614.out (fun _ hk => ⟨hk.1.1.2, ⟨hk.1.2, hk.2⟩⟩)⟩, ⟨by (with_reducible repeat (first | apply bkN | apply bkD | apply bkA)); exact BK589.out⟩, ⟨by (with_reducible repeat (first | apply bkN | apply bkD | apply bkA)); exact BK590.out⟩, ⟨by (with_reducible repeat (first | apply bkN | apply bkD | apply bkA)); exact BK607.out⟩, ⟨by (with_reducible repeat (first | apply bkN | apply bkD | apply bkA)); exact BK616.out⟩, ⟨by repeat (first | (with_reducible first | exact HB.out | apply bwA | apply bwN | apply bwD | refine below_set ?_ GE589.out | refine below_set ?_ GE590.out | refine below_set ?_ GE607.out | refine below_set ?_ GE616.out) | exact HB.out)⟩⟩
           ·rw [if_neg c66] at H
            have c66b0 : decide (128 < a2) = false := decide_eq_false c66
            clear c66
            by_cases c72 : a2 ≥ 1
            ·rw [if_pos c72] at H
             have c72b0 : decide (1 ≤ a2) = true := decide_eq_true c72
             clear c72
             by_cases c73 : a2 ≤ 128
             ·rw [if_pos c73] at H
              have c73b0 : decide (a2 ≤ 128) = true := decide_eq_true c73
              clear c73
              have H' := Aside0.mk H
              clear H
              go_wp2_with (first | ((with_reducible refine gate_callee (f := 34) rfl ?_); refine goesL_ (some 45) rfl rfl Try.func34 (by kernel_rfl) rfl #[] rfl (by (try simp only [List.map_toArray, List.map_cons, List.map_nil]); first | done | rfl | (simp only [List.length_drop, List.length_take]; rfl)) ?_; (with_reducible refine (tillerlaw04_awake.calls kj45  true _ A57.out).mono ?_); rintro e w74 ⟨rfl, hb⟩; refine ⟨_, rfl, ?_⟩; have n0_ := Aside0.mk (Kd.R_below (by (with_reducible repeat (first | apply rwA | apply rwN | apply rwD)); exact (Kd.R_mono (Kd.R_far (p := ⟨gb616, 2, none⟩) (Kd.R_far (p := ⟨gb616, 1, none⟩) (Kd.R_far (p := ⟨gb616, 0, none⟩) (Kd.R_types HO_590002.out BK616.out (by decide)) (fun _ hk => hk.2) (.int .i64 t610)) (fun _ hk => hk.2) (.int .i64 t611)) (fun _ hk => hk.2) (.slice Ao56 t612.length co56)) (fun _ h_ => h_.1))) hb); have n1_ := Aside0.mk (Kd.R_below (by (with_reducible repeat (first | apply rwA | apply rwN | apply rwD)); exact (Kd.R_mono (Kd.R_far (p := ⟨gb616, 2, none⟩) (Kd.R_far (p := ⟨gb616, 1, none⟩) (Kd.R_far (p := ⟨gb616, 0, none⟩) (Kd.R_types HO_591002.out BK616.out (by decide)) (fun _ hk => hk.2) (.int .i64 t610)) (fun _ hk => hk.2) (.int .i64 t611)) (fun _ hk => hk.2) (.slice Ao56 t612.length co56)) (fun _ h_ => h_.1))) hb); have n2_ := Aside0.mk (Kd.R_below (by (with_reducible repeat (first | apply rwA | apply rwN | apply rwD)); exact (Kd.R_mono (Kd.R_far (p := ⟨gb616, 2, none⟩) (Kd.R_far (p := ⟨gb616, 1, none⟩) (Kd.R_far (p := ⟨gb616, 0, none⟩) (Kd.R_types HO_608002.out BK616.out (by decide)) (fun _ hk => hk.2) (.int .i64 t610)) (fun _ hk => hk.2) (.int .i64 t611)) (fun _ hk => hk.2) (.slice Ao56 t612.length co56)) (fun _ h_ => h_.1))) hb); have n3_ := Aside0.mk (Kd.R_below (by (with_reducible repeat (first | apply rwA | apply rwN | apply rwD)); exact (Kd.R_mono (Kd.R_far (p := ⟨gb616, 2, none⟩) (Kd.R_far (p := ⟨gb616, 1, none⟩) (Kd.R_far (p := ⟨gb616, 0, none⟩) (Kd.R_types HO614.out BK616.out (by decide)) (fun _ hk => hk.2) (.int .i64 t610)) (fun _ hk => hk.2) (.int .i64 t611)) (fun _ hk => hk.2) (.slice Ao56 t612.length co56)) (fun _ h_ => h_.1))) hb); have n4_ := Aside0.mk (blk_below (g := gb589) (o := .cells #[.int .i64 t591, .int .i64 t592, .slice Ao16 t593.length co16] 46 (0, 0)) (by (with_reducible repeat (first | apply bkN | apply bkD | apply bkA)); refine blk_far ?_ NB589_616.out _; (with_reducible repeat (first | apply bkN | apply bkD | apply bkA)); refine blk_far ?_ NB589_616.out _; (with_reducible repeat (first | apply bkN | apply bkD | apply bkA)); refine blk_far ?_ NB589_616.out _; (with_reducible repeat (first | apply bkN | apply bkD | apply bkA)); exact BK589.out) hb); have n5_ := Aside0.mk (blk_below (g := gb590) (o := .cells #[.int .i64 t596, .int .i64 t597, .slice Ao20 t598.length co20] 46 (0, 0)) (by (with_reducible repeat (first | apply bkN | apply bkD | apply bkA)); refine blk_far ?_ NB590_616.out _; (with_reducible repeat (first | apply bkN | apply bkD | apply bkA)); refine blk_far ?_ NB590_616.out _; (with_reducible repeat (first | apply bkN | apply bkD | apply bkA)); refine blk_far ?_ NB590_616.out _; (with_reducible repeat (first | apply bkN | apply bkD | apply bkA)); exact BK590.out) hb); have n6_ := Aside0.mk (blk_below (g := gb607) (o := .cells #[.int .i64 t601, .int .i64 t602, .slice Ao30 t603.length co30] 46 (0, 0)) (by (with_reducible repeat (first | apply bkN | apply bkD | apply bkA)); refine blk_far ?_ NB607_616.out _; (with_reducible repeat (first | apply bkN | apply bkD | apply bkA)); refine blk_far ?_ NB607_616.out _; (with_reducible repeat (first | apply bkN | apply bkD | apply bkA)); refine blk_far ?_ NB607_616.out _; (with_reducible repeat (first | apply bkN | apply bkD | apply bkA)); exact BK607.out) hb); have n7_ := Aside0.mk (blk_below (g := gb616) (o := .cells #[.int .i64 t610, .int .i64 t611, .slice Ao56 t612.length co56] 46 (0, 0)) (by (with_reducible repeat (first | apply bkN | apply bkD | apply bkA)); refine blk_put (cs := #[.int .i64 t610, .int .i64 t611, .slice none 0 0]) ?_ 2 _ rfl; (with_reducible repeat (first | apply bkN | apply bkD | apply bkA)); refine blk_put (cs := #[.int .i64 t610, .int .i64 0, .slice none 0 0]) ?_ 1 _ rfl; (with_reducible repeat (first | apply bkN | apply bkD | apply bkA)); refine blk_put (cs := #[.int .i64 0, .int .i64 0, .slice none 0 0]) ?_ 0 _ rfl; (with_reducible repeat (first | apply bkN | apply bkD | apply bkA)); exact BK616.out) hb); have n8_ := Aside0.mk (below_step (by repeat (first | (with_reducible first | exact HB.out | apply bwA | apply bwN | apply bwD | refine below_set ?_ GE589.out | refine below_set ?_ GE590.out | refine below_set ?_ GE607.out | refine below_set ?_ GE616.out) | exact HB.out)) hb); clear HO_590002; clear HO_591002; clear HO_608002; clear HO614; clear BK589; clear BK590; clear BK607; clear BK616; clear HB; have HO_590002 := n0_; have HO_591002 := n1_; have HO_608002 := n2_; have HO614 := n3_; have BK589 := n4_; have BK590 := n5_; have BK607 := n6_; have BK616 := n7_; have HB := n8_; clear n0_ n1_ n2_ n3_ n4_ n5_ n6_ n7_ n8_; (try clear hb); (try clear hb2); (try clear hk); (try clear hi)))
              go_meet
              case rel => exact ⟨_, ((t615 != 0)), (by first | rfl | (simp; done) | (simp [*]; done)), H', ⟨by have := HJ7.out; have := HJ38.out; have := HJ45.out; first | omega | exact Nat.le_refl _⟩, ⟨by (with_reducible repeat (first | apply rwA | apply rwN | apply rwD)); exact Kd.R_mono HO_590002.out (fun _ hk => ⟨hk.1.1, ⟨hk.1.2, hk.2⟩⟩)⟩, ⟨by (with_reducible repeat (first | apply rwA | apply rwN | apply rwD)); exact Kd.R_mono HO_591002.out (fun _ hk => ⟨hk.1.1, ⟨hk.1.2, hk.2⟩⟩)⟩, ⟨by (with_reducible repeat (first | apply rwA | apply rwN | apply rwD)); exact Kd.R_mono HO_608002.out (fun _ hk => ⟨hk.1.1, ⟨hk.1.2, hk.2⟩⟩)⟩, ⟨by (with_reducible repeat (first | apply rwA | apply rwN | apply rwD)); exact Kd.R_mono HO614.out (fun _ hk => ⟨hk.1.1.2, ⟨hk.1.2, hk.2⟩⟩)⟩, ⟨by (with_reducible repeat (first | apply bkN | apply bkD | apply bkA)); exact BK589.out⟩, ⟨by (with_reducible repeat (first | apply bkN | apply bkD | apply bkA)); exact BK590.out⟩, ⟨by (with_reducible repeat (first | apply bkN | apply bkD | apply bkA)); exact BK607.out⟩, ⟨by (with_reducible repeat (first | apply bkN | apply bkD | apply bkA)); exact BK616.out⟩, ⟨by repeat (first | (with_reducible first | exact HB.out | apply bwA | apply bwN | apply bwD | refine below_set ?_ GE589.out | refine below_set ?_ GE590.out | refine below_set ?_ GE607.out | refine below_set ?_ GE616.out) | exact HB.out)⟩⟩
             ·rw [if_neg c73] at H
              exfalso; clear H; have z0_ := of_decide_eq_false c60b0; have z1_ := of_decide_eq_false c66b0; have z2_ := of_decide_eq_true c72b0; omega
            ·rw [if_neg c72] at H
             exfalso; clear H; have z0_ := of_decide_eq_false c60b0; have z1_ := of_decide_eq_false c66b0; omega
         ·rw [if_neg c59] at H
          have c59b0 : (t606 == x9_45) = false := beq_eq_false_iff_ne.mpr c59
          have c59b1 : (t606 != x9_45) = true := bne_iff_ne.mpr c59
          (first | rw [c59b0] | (simp only [i64_w, i32_w]; rw [c59b0]) | skip)
          have H' := Aside0.mk H
          clear H
          go_wp2_with (first | ((with_reducible refine gate_callee (f := 34) rfl ?_); refine goesL_ (some 45) rfl rfl Try.func34 (by kernel_rfl) rfl #[] rfl (by (try simp only [List.map_toArray, List.map_cons, List.map_nil]); first | done | rfl | (simp only [List.length_drop, List.length_take]; rfl)) ?_; (with_reducible refine (tillerlaw04_awake.calls kj45  true _ A57.out).mono ?_); rintro e w75 ⟨rfl, hb⟩; refine ⟨_, rfl, ?_⟩; have n0_ := Aside0.mk (Kd.R_below (by (with_reducible repeat (first | apply rwA | apply rwN | apply rwD)); exact (Kd.R_mono (Kd.R_far (p := ⟨gb616, 2, none⟩) (Kd.R_far (p := ⟨gb616, 1, none⟩) (Kd.R_far (p := ⟨gb616, 0, none⟩) (Kd.R_types HO_590002.out BK616.out (by decide)) (fun _ hk => hk.2) (.int .i64 t610)) (fun _ hk => hk.2) (.int .i64 t611)) (fun _ hk => hk.2) (.slice Ao56 t612.length co56)) (fun _ h_ => h_.1))) hb); have n1_ := Aside0.mk (Kd.R_below (by (with_reducible repeat (first | apply rwA | apply rwN | apply rwD)); exact (Kd.R_mono (Kd.R_far (p := ⟨gb616, 2, none⟩) (Kd.R_far (p := ⟨gb616, 1, none⟩) (Kd.R_far (p := ⟨gb616, 0, none⟩) (Kd.R_types HO_591002.out BK616.out (by decide)) (fun _ hk => hk.2) (.int .i64 t610)) (fun _ hk => hk.2) (.int .i64 t611)) (fun _ hk => hk.2) (.slice Ao56 t612.length co56)) (fun _ h_ => h_.1))) hb); have n2_ := Aside0.mk (Kd.R_below (by (with_reducible repeat (first | apply rwA | apply rwN | apply rwD)); exact (Kd.R_mono (Kd.R_far (p := ⟨gb616, 2, none⟩) (Kd.R_far (p := ⟨gb616, 1, none⟩) (Kd.R_far (p := ⟨gb616, 0, none⟩) (Kd.R_types HO_608002.out BK616.out (by decide)) (fun _ hk => hk.2) (.int .i64 t610)) (fun _ hk => hk.2) (.int .i64 t611)) (fun _ hk => hk.2) (.slice Ao56 t612.length co56)) (fun _ h_ => h_.1))) hb); have n3_ := Aside0.mk (Kd.R_below (by (with_reducible repeat (first | apply rwA | apply rwN | apply rwD)); exact (Kd.R_mono (Kd.R_far (p := ⟨gb616, 2, none⟩) (Kd.R_far (p := ⟨gb616, 1, none⟩) (Kd.R_far (p := ⟨gb616, 0, none⟩) (Kd.R_types HO614.out BK616.out (by decide)) (fun _ hk => hk.2) (.int .i64 t610)) (fun _ hk => hk.2) (.int .i64 t611)) (fun _ hk => hk.2) (.slice Ao56 t612.length co56)) (fun _ h_ => h_.1))) hb); have n4_ := Aside0.mk (blk_below (g := gb589) (o := .cells #[.int .i64 t591, .int .i64 t592, .slice Ao16 t593.length co16] 46 (0, 0)) (by (with_reducible repeat (first | apply bkN | apply bkD | apply bkA)); refine blk_far ?_ NB589_616.out _; (with_reducible repeat (first | apply bkN | apply bkD | apply bkA)); refine blk_far ?_ NB589_616.out _; (with_reducible repeat (first | apply bkN | apply bkD | apply bkA)); refine blk_far ?_ NB589_616.out _; (with_reducible repeat (first | apply bkN | apply bkD | apply bkA)); exact BK589.out) hb); have n5_ := Aside0.mk (blk_below (g := gb590) (o := .cells #[.int .i64 t596, .int .i64 t597, .slice Ao20 t598.length co20] 46 (0, 0)) (by (with_reducible repeat (first | apply bkN | apply bkD | apply bkA)); refine blk_far ?_ NB590_616.out _; (with_reducible repeat (first | apply bkN | apply bkD | apply bkA)); refine blk_far ?_ NB590_616.out _; (with_reducible repeat (first | apply bkN | apply bkD | apply bkA)); refine blk_far ?_ NB590_616.out _; (with_reducible repeat (first | apply bkN | apply bkD | apply bkA)); exact BK590.out) hb); have n6_ := Aside0.mk (blk_below (g := gb607) (o := .cells #[.int .i64 t601, .int .i64 t602, .slice Ao30 t603.length co30] 46 (0, 0)) (by (with_reducible repeat (first | apply bkN | apply bkD | apply bkA)); refine blk_far ?_ NB607_616.out _; (with_reducible repeat (first | apply bkN | apply bkD | apply bkA)); refine blk_far ?_ NB607_616.out _; (with_reducible repeat (first | apply bkN | apply bkD | apply bkA)); refine blk_far ?_ NB607_616.out _; (with_reducible repeat (first | apply bkN | apply bkD | apply bkA)); exact BK607.out) hb); have n7_ := Aside0.mk (blk_below (g := gb616) (o := .cells #[.int .i64 t610, .int .i64 t611, .slice Ao56 t612.length co56] 46 (0, 0)) (by (with_reducible repeat (first | apply bkN | apply bkD | apply bkA)); refine blk_put (cs := #[.int .i64 t610, .int .i64 t611, .slice none 0 0]) ?_ 2 _ rfl; (with_reducible repeat (first | apply bkN | apply bkD | apply bkA)); refine blk_put (cs := #[.int .i64 t610, .int .i64 0, .slice none 0 0]) ?_ 1 _ rfl; (with_reducible repeat (first | apply bkN | apply bkD | apply bkA)); refine blk_put (cs := #[.int .i64 0, .int .i64 0, .slice none 0 0]) ?_ 0 _ rfl; (with_reducible repeat (first | apply bkN | apply bkD | apply bkA)); exact BK616.out) hb); have n8_ := Aside0.mk (below_step (by repeat (first | (with_reducible first | exact HB.out | apply bwA | apply bwN | apply bwD | refine below_set ?_ GE589.out | refine below_set ?_ GE590.out | refine below_set ?_ GE607.out | refine below_set ?_ GE616.out) | exact HB.out)) hb); clear HO_590002; clear HO_591002; clear HO_608002; clear HO614; clear BK589; clear BK590; clear BK607; clear BK616; clear HB; have HO_590002 := n0_; have HO_591002 := n1_; have HO_608002 := n2_; have HO614 := n3_; have BK589 := n4_; have BK590 := n5_; have BK607 := n6_; have BK616 := n7_; have HB := n8_; clear n0_ n1_ n2_ n3_ n4_ n5_ n6_ n7_ n8_; (try clear hb); (try clear hb2); (try clear hk); (try clear hi)))
          go_meet
          case rel => exact ⟨_, (true), (by first | rfl | (simp; done) | (simp [*]; done)), H', ⟨by have := HJ7.out; have := HJ38.out; have := HJ45.out; first | omega | exact Nat.le_refl _⟩, ⟨by (with_reducible repeat (first | apply rwA | apply rwN | apply rwD)); exact Kd.R_mono HO_590002.out (fun _ hk => ⟨hk.1.1, ⟨hk.1.2, hk.2⟩⟩)⟩, ⟨by (with_reducible repeat (first | apply rwA | apply rwN | apply rwD)); exact Kd.R_mono HO_591002.out (fun _ hk => ⟨hk.1.1, ⟨hk.1.2, hk.2⟩⟩)⟩, ⟨by (with_reducible repeat (first | apply rwA | apply rwN | apply rwD)); exact Kd.R_mono HO_608002.out (fun _ hk => ⟨hk.1.1, ⟨hk.1.2, hk.2⟩⟩)⟩, ⟨by (with_reducible repeat (first | apply rwA | apply rwN | apply rwD)); exact Kd.R_mono HO614.out (fun _ hk => ⟨hk.1.1.2, ⟨hk.1.2, hk.2⟩⟩)⟩, ⟨by (with_reducible repeat (first | apply bkN | apply bkD | apply bkA)); exact BK589.out⟩, ⟨by (with_reducible repeat (first | apply bkN | apply bkD | apply bkA)); exact BK590.out⟩, ⟨by (with_reducible repeat (first | apply bkN | apply bkD | apply bkA)); exact BK607.out⟩, ⟨by (with_reducible repeat (first | apply bkN | apply bkD | apply bkA)); exact BK616.out⟩, ⟨by repeat (first | (with_reducible first | exact HB.out | apply bwA | apply bwN | apply bwD | refine below_set ?_ GE589.out | refine below_set ?_ GE590.out | refine below_set ?_ GE607.out | refine below_set ?_ GE616.out) | exact HB.out)⟩⟩
        ·replace c58 := Bool.eq_false_iff.mpr c58
         subst c58
         have H1 : (tillerlaw04_MatTimes.j3 kj45 a2 x9_45 t615 true t591 t592 t593 t596 t597 t598 t601 t602 t603 t610 t611 t612) = some r := by rw [if_neg (show ¬ (false = true) by decide)] at H; exact H
         clear H
         have H := H1
         clear H1
         have H' := Aside0.mk H
         clear H
         go_wp2_with (first | ((with_reducible refine gate_callee (f := 34) rfl ?_); refine goesL_ (some 45) rfl rfl Try.func34 (by kernel_rfl) rfl #[] rfl (by (try simp only [List.map_toArray, List.map_cons, List.map_nil]); first | done | rfl | (simp only [List.length_drop, List.length_take]; rfl)) ?_; (with_reducible refine (tillerlaw04_awake.calls kj45  false _ A57.out).mono ?_); rintro e w76 ⟨rfl, hb⟩; refine ⟨_, rfl, ?_⟩; have n0_ := Aside0.mk (Kd.R_below (by (with_reducible repeat (first | apply rwA | apply rwN | apply rwD)); exact (Kd.R_mono (Kd.R_far (p := ⟨gb616, 2, none⟩) (Kd.R_far (p := ⟨gb616, 1, none⟩) (Kd.R_far (p := ⟨gb616, 0, none⟩) (Kd.R_types HO_590002.out BK616.out (by decide)) (fun _ hk => hk.2) (.int .i64 t610)) (fun _ hk => hk.2) (.int .i64 t611)) (fun _ hk => hk.2) (.slice Ao56 t612.length co56)) (fun _ h_ => h_.1))) hb); have n1_ := Aside0.mk (Kd.R_below (by (with_reducible repeat (first | apply rwA | apply rwN | apply rwD)); exact (Kd.R_mono (Kd.R_far (p := ⟨gb616, 2, none⟩) (Kd.R_far (p := ⟨gb616, 1, none⟩) (Kd.R_far (p := ⟨gb616, 0, none⟩) (Kd.R_types HO_591002.out BK616.out (by decide)) (fun _ hk => hk.2) (.int .i64 t610)) (fun _ hk => hk.2) (.int .i64 t611)) (fun _ hk => hk.2) (.slice Ao56 t612.length co56)) (fun _ h_ => h_.1))) hb); have n2_ := Aside0.mk (Kd.R_below (by (with_reducible repeat (first | apply rwA | apply rwN | apply rwD)); exact (Kd.R_mono (Kd.R_far (p := ⟨gb616, 2, none⟩) (Kd.R_far (p := ⟨gb616, 1, none⟩) (Kd.R_far (p := ⟨gb616, 0, none⟩) (Kd.R_types HO_608002.out BK616.out (by decide)) (fun _ hk => hk.2) (.int .i64 t610)) (fun _ hk => hk.2) (.int .i64 t611)) (fun _ hk => hk.2) (.slice Ao56 t612.length co56)) (fun _ h_ => h_.1))) hb); have n3_ := Aside0.mk (Kd.R_below (by (with_reducible repeat (first | apply rwA | apply rwN | apply rwD)); exact (Kd.R_mono (Kd.R_far (p := ⟨gb616, 2, none⟩) (Kd.R_far (p := ⟨gb616, 1, none⟩) (Kd.R_far (p := ⟨gb616, 0, none⟩) (Kd.R_types HO614.out BK616.out (by decide)) (fun _ hk => hk.2) (.int .i64 t610)) (fun _ hk => hk.2) (.int .i64 t611)) (fun _ hk => hk.2) (.slice Ao56 t612.length co56)) (fun _ h_ => h_.1))) hb); have n4_ := Aside0.mk (blk_below (g := gb589) (o := .cells #[.int .i64 t591, .int .i64 t592, .slice Ao16 t593.length co16] 46 (0, 0)) (by (with_reducible repeat (first | apply bkN | apply bkD | apply bkA)); refine blk_far ?_ NB589_616.out _; (with_reducible repeat (first | apply bkN | apply bkD | apply bkA)); refine blk_far ?_ NB589_616.out _; (with_reducible repeat (first | apply bkN | apply bkD | apply bkA)); refine blk_far ?_ NB589_616.out _; (with_reducible repeat (first | apply bkN | apply bkD | apply bkA)); exact BK589.out) hb); have n5_ := Aside0.mk (blk_below (g := gb590) (o := .cells #[.int .i64 t596, .int .i64 t597, .slice Ao20 t598.length co20] 46 (0, 0)) (by (with_reducible repeat (first | apply bkN | apply bkD | apply bkA)); refine blk_far ?_ NB590_616.out _; (with_reducible repeat (first | apply bkN | apply bkD | apply bkA)); refine blk_far ?_ NB590_616.out _; (with_reducible repeat (first | apply bkN | apply bkD | apply bkA)); refine blk_far ?_ NB590_616.out _; (with_reducible repeat (first | apply bkN | apply bkD | apply bkA)); exact BK590.out) hb); have n6_ := Aside0.mk (blk_below (g := gb607) (o := .cells #[.int .i64 t601, .int .i64 t602, .slice Ao30 t603.length co30] 46 (0, 0)) (by (with_reducible repeat (first | apply bkN | apply bkD | apply bkA)); refine blk_far ?_ NB607_616.out _; (with_reducible repeat (first | apply bkN | apply bkD | apply bkA)); refine blk_far ?_ NB607_616.out _; (with_reducible repeat (first | apply bkN | apply bkD | apply bkA)); refine blk_far ?_ NB607_616.out _; (with_reducible repeat (first | apply bkN | apply bkD | apply bkA)); exact BK607.out) hb); have n7_ := Aside0.mk (blk_below (g := gb616) (o := .cells #[.int .i64 t610, .int .i64 t611, .slice Ao56 t612.length co56] 46 (0, 0)) (by (with_reducible repeat (first | apply bkN | apply bkD | apply bkA)); refine blk_put (cs := #[.int .i64 t610, .int .i64 t611, .slice none 0 0]) ?_ 2 _ rfl; (with_reducible repeat (first | apply bkN | apply bkD | apply bkA)); refine blk_put (cs := #[.int .i64 t610, .int .i64 0, .slice none 0 0]) ?_ 1 _ rfl; (with_reducible repeat (first | apply bkN | apply bkD | apply bkA)); refine blk_put (cs := #[.int .i64 0, .int .i64 0, .slice none 0 0]) ?_ 0 _ rfl; (with_reducible repeat (first | apply bkN | apply bkD | apply bkA)); exact BK616.out) hb); have n8_ := Aside0.mk (below_step (by repeat (first | (with_reducible first | exact HB.out | apply bwA | apply bwN | apply bwD | refine below_set ?_ GE589.out | refine below_set ?_ GE590.out | refine below_set ?_ GE607.out | refine below_set ?_ GE616.out) | exact HB.out)) hb); clear HO_590002; clear HO_591002; clear HO_608002; clear HO614; clear BK589; clear BK590; clear BK607; clear BK616; clear HB; have HO_590002 := n0_; have HO_591002 := n1_; have HO_608002 := n2_; have HO614 := n3_; have BK589 := n4_; have BK590 := n5_; have BK607 := n6_; have BK616 := n7_; have HB := n8_; clear n0_ n1_ n2_ n3_ n4_ n5_ n6_ n7_ n8_; (try clear hb); (try clear hb2); (try clear hk); (try clear hi)))
         go_meet
         case rel => exact ⟨_, (true), (by first | rfl | (simp; done) | (simp [*]; done)), H', ⟨by have := HJ7.out; have := HJ38.out; have := HJ45.out; first | omega | exact Nat.le_refl _⟩, ⟨by (with_reducible repeat (first | apply rwA | apply rwN | apply rwD)); exact Kd.R_mono HO_590002.out (fun _ hk => ⟨hk.1.1, ⟨hk.1.2, hk.2⟩⟩)⟩, ⟨by (with_reducible repeat (first | apply rwA | apply rwN | apply rwD)); exact Kd.R_mono HO_591002.out (fun _ hk => ⟨hk.1.1, ⟨hk.1.2, hk.2⟩⟩)⟩, ⟨by (with_reducible repeat (first | apply rwA | apply rwN | apply rwD)); exact Kd.R_mono HO_608002.out (fun _ hk => ⟨hk.1.1, ⟨hk.1.2, hk.2⟩⟩)⟩, ⟨by (with_reducible repeat (first | apply rwA | apply rwN | apply rwD)); exact Kd.R_mono HO614.out (fun _ hk => ⟨hk.1.1.2, ⟨hk.1.2, hk.2⟩⟩)⟩, ⟨by (with_reducible repeat (first | apply bkN | apply bkD | apply bkA)); exact BK589.out⟩, ⟨by (with_reducible repeat (first | apply bkN | apply bkD | apply bkA)); exact BK590.out⟩, ⟨by (with_reducible repeat (first | apply bkN | apply bkD | apply bkA)); exact BK607.out⟩, ⟨by (with_reducible repeat (first | apply bkN | apply bkD | apply bkA)); exact BK616.out⟩, ⟨by repeat (first | (with_reducible first | exact HB.out | apply bwA | apply bwN | apply bwD | refine below_set ?_ GE589.out | refine below_set ?_ GE590.out | refine below_set ?_ GE607.out | refine below_set ?_ GE616.out) | exact HB.out)⟩⟩
       case rest =>
        clear HC49
        try clear c1
        try clear c2
        try clear p2
        try clear c3
        try clear c4
        try clear c5
        try clear c6
        try clear c7
        try clear c11
        try clear c22
        try clear c27
        try clear c28
        try clear c29
        try clear c30
        try clear c33
        try clear c33b0
        try clear c33b1
        try clear c34
        try clear c35
        try clear c36
        try clear c40
        try clear c40b0
        try clear c40b1
        try clear c41
        try clear c42
        try clear c44
        try clear c47
        try clear c52
        try clear c53
        try clear c54
        try clear c58
        try clear c59
        try clear c59b0
        try clear c59b1
        try clear c60
        try clear c60b0
        try clear c61
        try clear c61b0
        try clear c61b1
        try clear c62
        try clear c62b0
        try clear c63
        try clear c63b0
        try clear c66
        try clear c66b0
        try clear c67
        try clear c67b0
        try clear c67b1
        try clear c68
        try clear c68b0
        try clear c69
        try clear c69b0
        try clear c72
        try clear c72b0
        try clear c73
        try clear c73b0
        try clear hcz23_0
        try clear hcz23_1
        try clear hcz23_2
        try clear hcz24_0
        try clear hcz24_1
        try clear hcz24_2
        try clear hcz29_0
        try clear hcz29_1
        try clear hcz29_2
        try clear hcz31_0
        try clear hcz31_1
        try clear hcz31_2
        try clear hcz37_0
        try clear hcz37_1
        try clear hcz37_2
        try clear hcz43_0
        try clear hcz43_1
        try clear hcz43_2
        try clear hcz45_0
        try clear hcz45_1
        try clear hcz45_2
        try clear hcz55_0
        try clear hcz55_1
        try clear hcz55_2
        try clear hfz23_0
        try clear hfz23_1
        try clear hfz23_2
        try clear hfz24_0
        try clear hfz24_1
        try clear hfz24_2
        try clear hfz29_0
        try clear hfz29_1
        try clear hfz29_2
        try clear hfz31_0
        try clear hfz31_1
        try clear hfz31_2
        try clear hfz37_0
        try clear hfz37_1
        try clear hfz37_2
        try clear hfz43_0
        try clear hfz43_1
        try clear hfz43_2
        try clear hfz45_0
        try clear hfz45_1
        try clear hfz45_2
        try clear hfz55_0
        try clear hfz55_1
        try clear hfz55_2
        try clear p2
        obtain ⟨kq, x79_48, rfl, HA, HJ48, HO_590002, HO_591002, HO_608002, HO_617002, BK589, BK590, BK607, BK616, HB⟩ := hcut
        cases kq with
        | zero => exact absurd HA.out (by simp [tillerlaw04_MatTimes.j3])
        | succ kj48 =>
         have H := HA.out
         clear HA
         simp only [tillerlaw04_MatTimes.j3] at H
         by_cases c77 : x79_48 = true
         ·subst c77
          have H1 : (some false) = some r := by rw [if_pos rfl] at H; exact H
          clear H
          have H := H1
          clear H1
          exact absurd (Option.some.inj H) (by rw [hr_.out]; decide)
         ·replace c77 := Bool.eq_false_iff.mpr c77
          subst c77
          have H1 : (if t615 = 0 then (tillerlaw04_MatTimes.j4 kj48 a2 x9_45 t615 false t591 t592 t593 t596 t597 t598 t601 t602 t603 t610 t611 t612) else ((tillerref04_Same.f kj48 t610 t611 t612 0 0 ([] : List Int)).bind fun t618 => (tillerlaw04_MatTimes.j4 kj48 a2 x9_45 t615 (!t618) t591 t592 t593 t596 t597 t598 t601 t602 t603 t610 t611 t612))) = some r := by rw [if_neg (show ¬ (false = true) by decide)] at H; exact H
          clear H
          have H := H1
          clear H1
          have HC78 := Aside0.mk H
          clear H
          go_upto_region 11 with (fail)
          go_cut [87] (fun v87 wc => ∃ (kq : Nat) (x87_77 : Bool), v87 = .bool x87_77 ∧ Aside0 (tillerlaw04_MatTimes.j4 kq a2 x9_45 t615 x87_77 t591 t592 t593 t596 t597 t598 t601 t602 t603 t610 t611 t612 = some r) ∧ Aside0 (kq ≤ kj48) ∧ Aside0 (Kd.R (Kd.int .i32) 24 wc w.heap.size (fun k_ => some k_ ≠ ((.slice Ao20 t598.length co20) : Value).ownBlock ∧ some k_ ≠ ((.slice Ao30 t603.length co30) : Value).ownBlock ∧ some k_ ≠ ((.slice Ao56 t612.length co56) : Value).ownBlock) (.slice Ao16 t593.length co16) t593) ∧ Aside0 (Kd.R (Kd.int .i32) 24 wc w.heap.size (fun k_ => some k_ ≠ ((.slice Ao16 t593.length co16) : Value).ownBlock ∧ some k_ ≠ ((.slice Ao30 t603.length co30) : Value).ownBlock ∧ some k_ ≠ ((.slice Ao56 t612.length co56) : Value).ownBlock) (.slice Ao20 t598.length co20) t598) ∧ Aside0 (Kd.R (Kd.int .i32) 24 wc w.heap.size (fun k_ => some k_ ≠ ((.slice Ao16 t593.length co16) : Value).ownBlock ∧ some k_ ≠ ((.slice Ao20 t598.length co20) : Value).ownBlock ∧ some k_ ≠ ((.slice Ao56 t612.length co56) : Value).ownBlock) (.slice Ao30 t603.length co30) t603) ∧ Aside0 (Kd.R (Kd.int .i32) 24 wc w.heap.size (fun k_ => some k_ ≠ ((.slice Ao16 t593.length co16) : Value).ownBlock ∧ some k_ ≠ ((.slice Ao20 t598.length co20) : Value).ownBlock ∧ some k_ ≠ ((.slice Ao30 t603.length co30) : Value).ownBlock) (.slice Ao56 t612.length co56) t612) ∧ Aside0 (wc.heap[gb589]? = some (.cells #[.int .i64 t591, .int .i64 t592, (.slice Ao16 t593.length co16)] 46 (0, 0))) ∧ Aside0 (wc.heap[gb590]? = some (.cells #[.int .i64 t596, .int .i64 t597, (.slice Ao20 t598.length co20)] 46 (0, 0))) ∧ Aside0 (wc.heap[gb607]? = some (.cells #[.int .i64 t601, .int .i64 t602, (.slice Ao30 t603.length co30)] 46 (0, 0))) ∧ Aside0 (wc.heap[gb616]? = some (.cells #[.int .i64 t610, .int .i64 t611, (.slice Ao56 t612.length co56)] 46 (0, 0))) ∧ Aside0 (Below w.heap.size w wc))
          case first =>
           have H := HC78.out
           clear HC78
           by_cases c79 : t615 = 0
           ·rw [if_pos c79] at H
            have c79b0 : (t615 == 0) = true := beq_iff_eq.mpr c79
            have c79b1 : (t615 != 0) = false := bne_eq_false_iff_eq.mpr c79
            clear c79
            (first | rw [c79b0] | (simp only [i64_w, i32_w]; rw [c79b0]) | skip)
            have H' := Aside0.mk H
            clear H
            go_wp2
            go_meet
            case rel => exact ⟨_, (false), (by first | rfl | (simp; done) | (simp [*]; done)), H', ⟨by have := HJ7.out; have := HJ38.out; have := HJ45.out; have := HJ48.out; first | omega | exact Nat.le_refl _⟩, ⟨by (with_reducible repeat (first | apply rwA | apply rwN | apply rwD)); exact HO_590002.out⟩, ⟨by (with_reducible repeat (first | apply rwA | apply rwN | apply rwD)); exact HO_591002.out⟩, ⟨by (with_reducible repeat (first | apply rwA | apply rwN | apply rwD)); exact HO_608002.out⟩, ⟨by (with_reducible repeat (first | apply rwA | apply rwN | apply rwD)); exact HO_617002.out⟩, ⟨by (with_reducible repeat (first | apply bkN | apply bkD | apply bkA)); exact BK589.out⟩, ⟨by (with_reducible repeat (first | apply bkN | apply bkD | apply bkA)); exact BK590.out⟩, ⟨by (with_reducible repeat (first | apply bkN | apply bkD | apply bkA)); exact BK607.out⟩, ⟨by (with_reducible repeat (first | apply bkN | apply bkD | apply bkA)); exact BK616.out⟩, ⟨by repeat (first | (with_reducible first | exact HB.out | apply bwA | apply bwN | apply bwD | refine below_set ?_ GE589.out | refine below_set ?_ GE590.out | refine below_set ?_ GE607.out | refine below_set ?_ GE616.out) | exact HB.out)⟩⟩
           ·rw [if_neg c79] at H
            have c79b0 : (t615 == 0) = false := beq_eq_false_iff_ne.mpr c79
            have c79b1 : (t615 != 0) = true := bne_iff_ne.mpr c79
            (first | rw [c79b0] | (simp only [i64_w, i32_w]; rw [c79b0]) | skip)
            replace H := Option.bind_eq_some_iff.mp H
            obtain ⟨t618, A800, H⟩ := H
            replace H : (tillerlaw04_MatTimes.j4 kj48 a2 x9_45 t615 (!t618) t591 t592 t593 t596 t597 t598 t601 t602 t603 t610 t611 t612) = some r := H
            have A80 := Aside0.mk A800
            clear A800
            have H' := Aside0.mk H
            clear H
            have hnb81 := NB616_589.out
            have hnc81 := NB589_616.out
            have hnb82 := NB616_590.out
            have hnc82 := NB590_616.out
            have hnb83 := NB616_607.out
            have hnc83 := NB607_616.out
            have hcz84_0 : wc.cell? ⟨gb616, 0, none⟩ = some (.int .i64 t610) := (blk_cell BK616.out 0).trans rfl
            have hcz84_1 : wc.cell? ⟨gb616, 1, none⟩ = some (.int .i64 t611) := (blk_cell BK616.out 1).trans rfl
            have hcz84_2 : wc.cell? ⟨gb616, 2, none⟩ = some (.slice Ao56 t612.length co56) := (blk_cell BK616.out 2).trans rfl
            have hfz84_0 := blk_frozen BK616.out 0
            have hfz84_1 := blk_frozen BK616.out 1
            have hfz84_2 := blk_frozen BK616.out 2
            go_wp2_with (first | (go_at_call 36; (refine (tillerref04_Same.calls kj48 t610 t611 _ _ t612 0 0 _ _ ([] : List Int) t618 _ ?side1 ?side2 ?side3 ?side4 A80.out).mono ?_); (case side1 => repeat (first | exact (Kd.R_reads' HO_617002.out).2.2 | (with_reducible refine Kd.C_alloc ?_ _) | (with_reducible refine Kd.C_drewN ?_ _) | (with_reducible refine Kd.C_drew ?_))); (case side2 => exact (Kd.R_reads' HO_617002.out).2.1); (case side3 => exact Kd.C_nil _ _); (case side4 => exact Nat.le_refl _); rintro e w85 ⟨rfl, hb⟩; have n0_ := Aside0.mk (Kd.R_below (by (with_reducible repeat (first | apply rwA | apply rwN | apply rwD)); exact HO_590002.out) hb); have n1_ := Aside0.mk (Kd.R_below (by (with_reducible repeat (first | apply rwA | apply rwN | apply rwD)); exact HO_591002.out) hb); have n2_ := Aside0.mk (Kd.R_below (by (with_reducible repeat (first | apply rwA | apply rwN | apply rwD)); exact HO_608002.out) hb); have n3_ := Aside0.mk (Kd.R_below (by (with_reducible repeat (first | apply rwA | apply rwN | apply rwD)); exact HO_617002.out) hb); have n4_ := Aside0.mk (blk_below (g := gb589) (o := .cells #[.int .i64 t591, .int .i64 t592, .slice Ao16 t593.length co16] 46 (0, 0)) (by (with_reducible repeat (first | apply bkN | apply bkD | apply bkA)); exact BK589.out) hb); have n5_ := Aside0.mk (blk_below (g := gb590) (o := .cells #[.int .i64 t596, .int .i64 t597, .slice Ao20 t598.length co20] 46 (0, 0)) (by (with_reducible repeat (first | apply bkN | apply bkD | apply bkA)); exact BK590.out) hb); have n6_ := Aside0.mk (blk_below (g := gb607) (o := .cells #[.int .i64 t601, .int .i64 t602, .slice Ao30 t603.length co30] 46 (0, 0)) (by (with_reducible repeat (first | apply bkN | apply bkD | apply bkA)); exact BK607.out) hb); have n7_ := Aside0.mk (blk_below (g := gb616) (o := .cells #[.int .i64 t610, .int .i64 t611, .slice Ao56 t612.length co56] 46 (0, 0)) (by (with_reducible repeat (first | apply bkN | apply bkD | apply bkA)); exact BK616.out) hb); have n8_ := Aside0.mk (below_step (by repeat (first | (with_reducible first | exact HB.out | apply bwA | apply bwN | apply bwD | refine below_set ?_ GE589.out | refine below_set ?_ GE590.out | refine below_set ?_ GE607.out | refine below_set ?_ GE616.out) | exact HB.out)) hb); clear HO_590002; clear HO_591002; clear HO_608002; clear HO_617002; clear BK589; clear BK590; clear BK607; clear BK616; clear HB; have HO_590002 := n0_; have HO_591002 := n1_; have HO_608002 := n2_; have HO_617002 := n3_; have BK589 := n4_; have BK590 := n5_; have BK607 := n6_; have BK616 := n7_; have HB := n8_; clear n0_ n1_ n2_ n3_ n4_ n5_ n6_ n7_ n8_; (try clear hb); (try clear hb2); (try clear hk); (try clear hi)))
            go_meet
            case rel => exact ⟨_, (!t618), (by first | rfl | (simp; done) | (simp [*]; done)), H', ⟨by have := HJ7.out; have := HJ38.out; have := HJ45.out; have := HJ48.out; first | omega | exact Nat.le_refl _⟩, ⟨by (with_reducible repeat (first | apply rwA | apply rwN | apply rwD)); exact HO_590002.out⟩, ⟨by (with_reducible repeat (first | apply rwA | apply rwN | apply rwD)); exact HO_591002.out⟩, ⟨by (with_reducible repeat (first | apply rwA | apply rwN | apply rwD)); exact HO_608002.out⟩, ⟨by (with_reducible repeat (first | apply rwA | apply rwN | apply rwD)); exact HO_617002.out⟩, ⟨by (with_reducible repeat (first | apply bkN | apply bkD | apply bkA)); exact BK589.out⟩, ⟨by (with_reducible repeat (first | apply bkN | apply bkD | apply bkA)); exact BK590.out⟩, ⟨by (with_reducible repeat (first | apply bkN | apply bkD | apply bkA)); exact BK607.out⟩, ⟨by (with_reducible repeat (first | apply bkN | apply bkD | apply bkA)); exact BK616.out⟩, ⟨by repeat (first | (with_reducible first | exact HB.out | apply bwA | apply bwN | apply bwD | refine below_set ?_ GE589.out | refine below_set ?_ GE590.out | refine below_set ?_ GE607.out | refine below_set ?_ GE616.out) | exact HB.out)⟩⟩
          case rest =>
           clear HC78
           try clear c1
           try clear c2
           try clear p2
           try clear c3
           try clear c4
           try clear c5
           try clear c6
           try clear c7
           try clear c8
           try clear c11
           try clear c22
           try clear c27
           try clear c28
           try clear c29
           try clear c30
           try clear c33
           try clear c33b0
           try clear c33b1
           try clear c34
           try clear c35
           try clear c36
           try clear c40
           try clear c40b0
           try clear c40b1
           try clear c41
           try clear c42
           try clear c44
           try clear c47
           try clear c52
           try clear c53
           try clear c54
           try clear c58
           try clear c59
           try clear c59b0
           try clear c59b1
           try clear c60
           try clear c60b0
           try clear c61
           try clear c61b0
           try clear c61b1
           try clear c62
           try clear c62b0
           try clear c63
           try clear c63b0
           try clear c66
           try clear c66b0
           try clear c67
           try clear c67b0
           try clear c67b1
           try clear c68
           try clear c68b0
           try clear c69
           try clear c69b0
           try clear c72
           try clear c72b0
           try clear c73
           try clear c73b0
           try clear c77
           try clear c79
           try clear c79b0
           try clear c79b1
           try clear c81
           try clear c82
           try clear c83
           try clear hcz23_0
           try clear hcz23_1
           try clear hcz23_2
           try clear hcz24_0
           try clear hcz24_1
           try clear hcz24_2
           try clear hcz29_0
           try clear hcz29_1
           try clear hcz29_2
           try clear hcz31_0
           try clear hcz31_1
           try clear hcz31_2
           try clear hcz37_0
           try clear hcz37_1
           try clear hcz37_2
           try clear hcz43_0
           try clear hcz43_1
           try clear hcz43_2
           try clear hcz45_0
           try clear hcz45_1
           try clear hcz45_2
           try clear hcz55_0
           try clear hcz55_1
           try clear hcz55_2
           try clear hcz84_0
           try clear hcz84_1
           try clear hcz84_2
           try clear hfz23_0
           try clear hfz23_1
           try clear hfz23_2
           try clear hfz24_0
           try clear hfz24_1
           try clear hfz24_2
           try clear hfz29_0
           try clear hfz29_1
           try clear hfz29_2
           try clear hfz31_0
           try clear hfz31_1
           try clear hfz31_2
           try clear hfz37_0
           try clear hfz37_1
           try clear hfz37_2
           try clear hfz43_0
           try clear hfz43_1
           try clear hfz43_2
           try clear hfz45_0
           try clear hfz45_1
           try clear hfz45_2
           try clear hfz55_0
           try clear hfz55_1
           try clear hfz55_2
           try clear hfz84_0
           try clear hfz84_1
           try clear hfz84_2
           try clear p2
           obtain ⟨kq, x87_77, rfl, HA, HJ77, HO_590002, HO_591002, HO_608002, HO_617002, BK589, BK590, BK607, BK616, HB⟩ := hcut
           cases kq with
           | zero => exact absurd HA.out (by simp [tillerlaw04_MatTimes.j4])
           | succ kj77 =>
            have H := HA.out
            clear HA
            simp only [tillerlaw04_MatTimes.j4] at H
            by_cases c86 : x87_77 = true
            ·subst c86
             have H1 : (some false) = some r := by rw [if_pos rfl] at H; exact H
             clear H
             have H := H1
             clear H1
             exact absurd (Option.some.inj H) (by rw [hr_.out]; decide)
            ·replace c86 := Bool.eq_false_iff.mpr c86
             subst c86
             have H1 : (tillerlaw04_MatTimes.l0 kj77 a2 x9_45 t615 0 t591 t592 t593 t596 t597 t598 t601 t602 t603 t610 t611 t612) = some r := by rw [if_neg (show ¬ (false = true) by decide)] at H; exact H
             clear H
             have H := H1
             clear H1
             have H' := Aside0.mk H
             clear H
             go_wp2
             go_loopg [12] kj77 (fun kq v12 w' => ∃ (x12_6 : Int), v12 = .int .i64 x12_6 ∧ Aside0 (tillerlaw04_MatTimes.l0 kq a2 x9_45 t615 x12_6 t591 t592 t593 t596 t597 t598 t601 t602 t603 t610 t611 t612 = some r) ∧ Aside0 (kq ≤ kj77) ∧ Aside0 (Kd.R (Kd.int .i32) 24 w' w.heap.size (fun k_ => some k_ ≠ ((.slice Ao20 t598.length co20) : Value).ownBlock ∧ some k_ ≠ ((.slice Ao30 t603.length co30) : Value).ownBlock ∧ some k_ ≠ ((.slice Ao56 t612.length co56) : Value).ownBlock) (.slice Ao16 t593.length co16) t593) ∧ Aside0 (Kd.R (Kd.int .i32) 24 w' w.heap.size (fun k_ => some k_ ≠ ((.slice Ao16 t593.length co16) : Value).ownBlock ∧ some k_ ≠ ((.slice Ao30 t603.length co30) : Value).ownBlock ∧ some k_ ≠ ((.slice Ao56 t612.length co56) : Value).ownBlock) (.slice Ao20 t598.length co20) t598) ∧ Aside0 (Kd.R (Kd.int .i32) 24 w' w.heap.size (fun k_ => some k_ ≠ ((.slice Ao16 t593.length co16) : Value).ownBlock ∧ some k_ ≠ ((.slice Ao20 t598.length co20) : Value).ownBlock ∧ some k_ ≠ ((.slice Ao56 t612.length co56) : Value).ownBlock) (.slice Ao30 t603.length co30) t603) ∧ Aside0 (Kd.R (Kd.int .i32) 24 w' w.heap.size (fun k_ => some k_ ≠ ((.slice Ao16 t593.length co16) : Value).ownBlock ∧ some k_ ≠ ((.slice Ao20 t598.length co20) : Value).ownBlock ∧ some k_ ≠ ((.slice Ao30 t603.length co30) : Value).ownBlock) (.slice Ao56 t612.length co56) t612) ∧ Aside0 (w'.heap[gb589]? = some (.cells #[.int .i64 t591, .int .i64 t592, (.slice Ao16 t593.length co16)] 46 (0, 0))) ∧ Aside0 (w'.heap[gb590]? = some (.cells #[.int .i64 t596, .int .i64 t597, (.slice Ao20 t598.length co20)] 46 (0, 0))) ∧ Aside0 (w'.heap[gb607]? = some (.cells #[.int .i64 t601, .int .i64 t602, (.slice Ao30 t603.length co30)] 46 (0, 0))) ∧ Aside0 (w'.heap[gb616]? = some (.cells #[.int .i64 t610, .int .i64 t611, (.slice Ao56 t612.length co56)] 46 (0, 0))) ∧ Aside0 (Below w.heap.size w w'))
             case atStart => exact ⟨(0), (by first | rfl | (simp; done) | (simp [*]; done)), H', ⟨Nat.le_refl _⟩, ⟨by (with_reducible repeat (first | apply rwA | apply rwN | apply rwD)); exact HO_590002.out⟩, ⟨by (with_reducible repeat (first | apply rwA | apply rwN | apply rwD)); exact HO_591002.out⟩, ⟨by (with_reducible repeat (first | apply rwA | apply rwN | apply rwD)); exact HO_608002.out⟩, ⟨by (with_reducible repeat (first | apply rwA | apply rwN | apply rwD)); exact HO_617002.out⟩, ⟨by (with_reducible repeat (first | apply bkN | apply bkD | apply bkA)); exact BK589.out⟩, ⟨by (with_reducible repeat (first | apply bkN | apply bkD | apply bkA)); exact BK590.out⟩, ⟨by (with_reducible repeat (first | apply bkN | apply bkD | apply bkA)); exact BK607.out⟩, ⟨by (with_reducible repeat (first | apply bkN | apply bkD | apply bkA)); exact BK616.out⟩, ⟨by repeat (first | (with_reducible first | exact HB.out | apply bwA | apply bwN | apply bwD | refine below_set ?_ GE589.out | refine below_set ?_ GE590.out | refine below_set ?_ GE607.out | refine below_set ?_ GE616.out) | exact HB.out)⟩⟩
             case round =>
              clear H'
              try clear c1
              try clear c2
              try clear p2
              try clear c3
              try clear c4
              try clear c5
              try clear c6
              try clear c7
              try clear c8
              try clear c11
              try clear c22
              try clear c27
              try clear c28
              try clear c29
              try clear c30
              try clear c33
              try clear c33b0
              try clear c33b1
              try clear c34
              try clear c35
              try clear c36
              try clear c40
              try clear c40b0
              try clear c40b1
              try clear c41
              try clear c42
              try clear c44
              try clear c47
              try clear c52
              try clear c53
              try clear c54
              try clear c58
              try clear c59
              try clear c59b0
              try clear c59b1
              try clear c60
              try clear c60b0
              try clear c61
              try clear c61b0
              try clear c61b1
              try clear c62
              try clear c62b0
              try clear c63
              try clear c63b0
              try clear c66
              try clear c66b0
              try clear c67
              try clear c67b0
              try clear c67b1
              try clear c68
              try clear c68b0
              try clear c69
              try clear c69b0
              try clear c72
              try clear c72b0
              try clear c73
              try clear c73b0
              try clear c77
              try clear c79
              try clear c79b0
              try clear c79b1
              try clear c81
              try clear c82
              try clear c83
              try clear c86
              try clear hcz23_0
              try clear hcz23_1
              try clear hcz23_2
              try clear hcz24_0
              try clear hcz24_1
              try clear hcz24_2
              try clear hcz29_0
              try clear hcz29_1
              try clear hcz29_2
              try clear hcz31_0
              try clear hcz31_1
              try clear hcz31_2
              try clear hcz37_0
              try clear hcz37_1
              try clear hcz37_2
              try clear hcz43_0
              try clear hcz43_1
              try clear hcz43_2
              try clear hcz45_0
              try clear hcz45_1
              try clear hcz45_2
              try clear hcz55_0
              try clear hcz55_1
              try clear hcz55_2
              try clear hcz84_0
              try clear hcz84_1
              try clear hcz84_2
              try clear hfz23_0
              try clear hfz23_1
              try clear hfz23_2
              try clear hfz24_0
              try clear hfz24_1
              try clear hfz24_2
              try clear hfz29_0
              try clear hfz29_1
              try clear hfz29_2
              try clear hfz31_0
              try clear hfz31_1
              try clear hfz31_2
              try clear hfz37_0
              try clear hfz37_1
              try clear hfz37_2
              try clear hfz43_0
              try clear hfz43_1
              try clear hfz43_2
              try clear hfz45_0
              try clear hfz45_1
              try clear hfz45_2
              try clear hfz55_0
              try clear hfz55_1
              try clear hfz55_2
              try clear hfz84_0
              try clear hfz84_1
              try clear hfz84_2
              try clear p2
              obtain ⟨x12_6, rfl, HA, HK6, HO_590002, HO_591002, HO_608002, HO_617002, BK589, BK590, BK607, BK616, HB⟩ := hrel
              cases gk with
              | zero => exact absurd HA.out (by simp [tillerlaw04_MatTimes.l0])
              | succ k6 =>
               have H := HA.out
               clear HA
               simp only [tillerlaw04_MatTimes.l0] at H
               have HC87 := Aside0.mk H
               clear H
               go_upto_region 14 with (fail)
               go_cut [94] (fun v94 wc => ∃ (kq : Nat) (x94_86 : Bool), v94 = .bool x94_86 ∧ Aside0 (tillerlaw04_MatTimes.j6 kq a2 x9_45 t615 x12_6 x94_86 t591 t592 t593 t596 t597 t598 t601 t602 t603 t610 t611 t612 = some r) ∧ Aside0 (kq ≤ k6) ∧ Aside0 (Kd.R (Kd.int .i32) 24 wc w.heap.size (fun k_ => some k_ ≠ ((.slice Ao20 t598.length co20) : Value).ownBlock ∧ some k_ ≠ ((.slice Ao30 t603.length co30) : Value).ownBlock ∧ some k_ ≠ ((.slice Ao56 t612.length co56) : Value).ownBlock) (.slice Ao16 t593.length co16) t593) ∧ Aside0 (Kd.R (Kd.int .i32) 24 wc w.heap.size (fun k_ => some k_ ≠ ((.slice Ao16 t593.length co16) : Value).ownBlock ∧ some k_ ≠ ((.slice Ao30 t603.length co30) : Value).ownBlock ∧ some k_ ≠ ((.slice Ao56 t612.length co56) : Value).ownBlock) (.slice Ao20 t598.length co20) t598) ∧ Aside0 (Kd.R (Kd.int .i32) 24 wc w.heap.size (fun k_ => some k_ ≠ ((.slice Ao16 t593.length co16) : Value).ownBlock ∧ some k_ ≠ ((.slice Ao20 t598.length co20) : Value).ownBlock ∧ some k_ ≠ ((.slice Ao56 t612.length co56) : Value).ownBlock) (.slice Ao30 t603.length co30) t603) ∧ Aside0 (Kd.R (Kd.int .i32) 24 wc w.heap.size (fun k_ => some k_ ≠ ((.slice Ao16 t593.length co16) : Value).ownBlock ∧ some k_ ≠ ((.slice Ao20 t598.length co20) : Value).ownBlock ∧ some k_ ≠ ((.slice Ao30 t603.length co30) : Value).ownBlock) (.slice Ao56 t612.length co56) t612) ∧ Aside0 (wc.heap[gb589]? = some (.cells #[.int .i64 t591, .int .i64 t592, (.slice Ao16 t593.length co16)] 46 (0, 0))) ∧ Aside0 (wc.heap[gb590]? = some (.cells #[.int .i64 t596, .int .i64 t597, (.slice Ao20 t598.length co20)] 46 (0, 0))) ∧ Aside0 (wc.heap[gb607]? = some (.cells #[.int .i64 t601, .int .i64 t602, (.slice Ao30 t603.length co30)] 46 (0, 0))) ∧ Aside0 (wc.heap[gb616]? = some (.cells #[.int .i64 t610, .int .i64 t611, (.slice Ao56 t612.length co56)] 46 (0, 0))) ∧ Aside0 (Below w.heap.size w wc))
               case first =>
                have H := HC87.out
                clear HC87
                by_cases c88 : t615 = 0
                ·rw [if_pos c88] at H
                 have c88b0 : (t615 == 0) = true := beq_iff_eq.mpr c88
                 have c88b1 : (t615 != 0) = false := bne_eq_false_iff_eq.mpr c88
                 clear c88
                 (first | rw [c88b0] | (simp only [i64_w, i32_w]; rw [c88b0]) | skip)
                 have H' := Aside0.mk H
                 clear H
                 go_wp2
                 go_meet
                 case rel => exact ⟨_, (decide (x12_6 < a2)), (by first | rfl | (simp; done) | (simp [*]; done)), H', ⟨by have := HJ7.out; have := HJ38.out; have := HJ45.out; have := HJ48.out; have := HJ77.out; have := HK6.out; first | omega | exact Nat.le_refl _⟩, ⟨by (with_reducible repeat (first | apply rwA | apply rwN | apply rwD)); exact HO_590002.out⟩, ⟨by (with_reducible repeat (first | apply rwA | apply rwN | apply rwD)); exact HO_591002.out⟩, ⟨by (with_reducible repeat (first | apply rwA | apply rwN | apply rwD)); exact HO_608002.out⟩, ⟨by (with_reducible repeat (first | apply rwA | apply rwN | apply rwD)); exact HO_617002.out⟩, ⟨by (with_reducible repeat (first | apply bkN | apply bkD | apply bkA)); exact BK589.out⟩, ⟨by (with_reducible repeat (first | apply bkN | apply bkD | apply bkA)); exact BK590.out⟩, ⟨by (with_reducible repeat (first | apply bkN | apply bkD | apply bkA)); exact BK607.out⟩, ⟨by (with_reducible repeat (first | apply bkN | apply bkD | apply bkA)); exact BK616.out⟩, ⟨by repeat (first | (with_reducible first | exact HB.out | apply bwA | apply bwN | apply bwD | refine below_set ?_ GE589.out | refine below_set ?_ GE590.out | refine below_set ?_ GE607.out | refine below_set ?_ GE616.out) | exact HB.out)⟩⟩
                ·rw [if_neg c88] at H
                 have c88b0 : (t615 == 0) = false := beq_eq_false_iff_ne.mpr c88
                 have c88b1 : (t615 != 0) = true := bne_iff_ne.mpr c88
                 (first | rw [c88b0] | (simp only [i64_w, i32_w]; rw [c88b0]) | skip)
                 have H' := Aside0.mk H
                 clear H
                 go_wp2
                 go_meet
                 case rel => exact ⟨_, (false), (by first | rfl | (simp; done) | (simp [*]; done)), H', ⟨by have := HJ7.out; have := HJ38.out; have := HJ45.out; have := HJ48.out; have := HJ77.out; have := HK6.out; first | omega | exact Nat.le_refl _⟩, ⟨by (with_reducible repeat (first | apply rwA | apply rwN | apply rwD)); exact HO_590002.out⟩, ⟨by (with_reducible repeat (first | apply rwA | apply rwN | apply rwD)); exact HO_591002.out⟩, ⟨by (with_reducible repeat (first | apply rwA | apply rwN | apply rwD)); exact HO_608002.out⟩, ⟨by (with_reducible repeat (first | apply rwA | apply rwN | apply rwD)); exact HO_617002.out⟩, ⟨by (with_reducible repeat (first | apply bkN | apply bkD | apply bkA)); exact BK589.out⟩, ⟨by (with_reducible repeat (first | apply bkN | apply bkD | apply bkA)); exact BK590.out⟩, ⟨by (with_reducible repeat (first | apply bkN | apply bkD | apply bkA)); exact BK607.out⟩, ⟨by (with_reducible repeat (first | apply bkN | apply bkD | apply bkA)); exact BK616.out⟩, ⟨by repeat (first | (with_reducible first | exact HB.out | apply bwA | apply bwN | apply bwD | refine below_set ?_ GE589.out | refine below_set ?_ GE590.out | refine below_set ?_ GE607.out | refine below_set ?_ GE616.out) | exact HB.out)⟩⟩
               case rest =>
                clear HC87
                try clear c1
                try clear c2
                try clear p2
                try clear c3
                try clear c4
                try clear c5
                try clear c6
                try clear c7
                try clear c8
                try clear c11
                try clear c22
                try clear c27
                try clear c28
                try clear c29
                try clear c30
                try clear c33
                try clear c33b0
                try clear c33b1
                try clear c34
                try clear c35
                try clear c36
                try clear c40
                try clear c40b0
                try clear c40b1
                try clear c41
                try clear c42
                try clear c44
                try clear c47
                try clear c52
                try clear c53
                try clear c54
                try clear c58
                try clear c59
                try clear c59b0
                try clear c59b1
                try clear c60
                try clear c60b0
                try clear c61
                try clear c61b0
                try clear c61b1
                try clear c62
                try clear c62b0
                try clear c63
                try clear c63b0
                try clear c66
                try clear c66b0
                try clear c67
                try clear c67b0
                try clear c67b1
                try clear c68
                try clear c68b0
                try clear c69
                try clear c69b0
                try clear c72
                try clear c72b0
                try clear c73
                try clear c73b0
                try clear c77
                try clear c79
                try clear c79b0
                try clear c79b1
                try clear c81
                try clear c82
                try clear c83
                try clear c86
                try clear c88
                try clear c88b0
                try clear c88b1
                try clear hcz23_0
                try clear hcz23_1
                try clear hcz23_2
                try clear hcz24_0
                try clear hcz24_1
                try clear hcz24_2
                try clear hcz29_0
                try clear hcz29_1
                try clear hcz29_2
                try clear hcz31_0
                try clear hcz31_1
                try clear hcz31_2
                try clear hcz37_0
                try clear hcz37_1
                try clear hcz37_2
                try clear hcz43_0
                try clear hcz43_1
                try clear hcz43_2
                try clear hcz45_0
                try clear hcz45_1
                try clear hcz45_2
                try clear hcz55_0
                try clear hcz55_1
                try clear hcz55_2
                try clear hcz84_0
                try clear hcz84_1
                try clear hcz84_2
                try clear hfz23_0
                try clear hfz23_1
                try clear hfz23_2
                try clear hfz24_0
                try clear hfz24_1
                try clear hfz24_2
                try clear hfz29_0
                try clear hfz29_1
                try clear hfz29_2
                try clear hfz31_0
                try clear hfz31_1
                try clear hfz31_2
                try clear hfz37_0
                try clear hfz37_1
                try clear hfz37_2
                try clear hfz43_0
                try clear hfz43_1
                try clear hfz43_2
                try clear hfz45_0
                try clear hfz45_1
                try clear hfz45_2
                try clear hfz55_0
                try clear hfz55_1
                try clear hfz55_2
                try clear hfz84_0
                try clear hfz84_1
                try clear hfz84_2
                try clear p2
                obtain ⟨kq, x94_86, rfl, HA, HJ86, HO_590002, HO_591002, HO_608002, HO_617002, BK589, BK590, BK607, BK616, HB⟩ := hcut
                cases kq with
                | zero => exact absurd HA.out (by simp [tillerlaw04_MatTimes.j6])
                | succ kj86 =>
                 have H := HA.out
                 clear HA
                 simp only [tillerlaw04_MatTimes.j6] at H
                 by_cases c89 : x94_86 = true
                 ·subst c89
                  have H1 : (tillerlaw04_MatTimes.l1 kj86 a2 x9_45 t615 x12_6 0 t591 t592 t593 t596 t597 t598 t601 t602 t603 t610 t611 t612) = some r := by rw [if_pos rfl] at H; exact H
                  clear H
                  have H := H1
                  clear H1
                  have H' := Aside0.mk H
                  clear H
                  go_wp2
                  go_loopg [13] kj86 (fun kq v13 w' => ∃ (x13_8 : Int), v13 = .int .i64 x13_8 ∧ Aside0 (tillerlaw04_MatTimes.l1 kq a2 x9_45 t615 x12_6 x13_8 t591 t592 t593 t596 t597 t598 t601 t602 t603 t610 t611 t612 = some r) ∧ Aside0 (kq ≤ kj86) ∧ Aside0 (Kd.R (Kd.int .i32) 24 w' w.heap.size (fun k_ => some k_ ≠ ((.slice Ao20 t598.length co20) : Value).ownBlock ∧ some k_ ≠ ((.slice Ao30 t603.length co30) : Value).ownBlock ∧ some k_ ≠ ((.slice Ao56 t612.length co56) : Value).ownBlock) (.slice Ao16 t593.length co16) t593) ∧ Aside0 (Kd.R (Kd.int .i32) 24 w' w.heap.size (fun k_ => some k_ ≠ ((.slice Ao16 t593.length co16) : Value).ownBlock ∧ some k_ ≠ ((.slice Ao30 t603.length co30) : Value).ownBlock ∧ some k_ ≠ ((.slice Ao56 t612.length co56) : Value).ownBlock) (.slice Ao20 t598.length co20) t598) ∧ Aside0 (Kd.R (Kd.int .i32) 24 w' w.heap.size (fun k_ => some k_ ≠ ((.slice Ao16 t593.length co16) : Value).ownBlock ∧ some k_ ≠ ((.slice Ao20 t598.length co20) : Value).ownBlock ∧ some k_ ≠ ((.slice Ao56 t612.length co56) : Value).ownBlock) (.slice Ao30 t603.length co30) t603) ∧ Aside0 (Kd.R (Kd.int .i32) 24 w' w.heap.size (fun k_ => some k_ ≠ ((.slice Ao16 t593.length co16) : Value).ownBlock ∧ some k_ ≠ ((.slice Ao20 t598.length co20) : Value).ownBlock ∧ some k_ ≠ ((.slice Ao30 t603.length co30) : Value).ownBlock) (.slice Ao56 t612.length co56) t612) ∧ Aside0 (w'.heap[gb589]? = some (.cells #[.int .i64 t591, .int .i64 t592, (.slice Ao16 t593.length co16)] 46 (0, 0))) ∧ Aside0 (w'.heap[gb590]? = some (.cells #[.int .i64 t596, .int .i64 t597, (.slice Ao20 t598.length co20)] 46 (0, 0))) ∧ Aside0 (w'.heap[gb607]? = some (.cells #[.int .i64 t601, .int .i64 t602, (.slice Ao30 t603.length co30)] 46 (0, 0))) ∧ Aside0 (w'.heap[gb616]? = some (.cells #[.int .i64 t610, .int .i64 t611, (.slice Ao56 t612.length co56)] 46 (0, 0))) ∧ Aside0 (Below w.heap.size w w'))
                  case atStart => exact ⟨(0), (by first | rfl | (simp; done) | (simp [*]; done)), H', ⟨Nat.le_refl _⟩, ⟨by (with_reducible repeat (first | apply rwA | apply rwN | apply rwD)); exact HO_590002.out⟩, ⟨by (with_reducible repeat (first | apply rwA | apply rwN | apply rwD)); exact HO_591002.out⟩, ⟨by (with_reducible repeat (first | apply rwA | apply rwN | apply rwD)); exact HO_608002.out⟩, ⟨by (with_reducible repeat (first | apply rwA | apply rwN | apply rwD)); exact HO_617002.out⟩, ⟨by (with_reducible repeat (first | apply bkN | apply bkD | apply bkA)); exact BK589.out⟩, ⟨by (with_reducible repeat (first | apply bkN | apply bkD | apply bkA)); exact BK590.out⟩, ⟨by (with_reducible repeat (first | apply bkN | apply bkD | apply bkA)); exact BK607.out⟩, ⟨by (with_reducible repeat (first | apply bkN | apply bkD | apply bkA)); exact BK616.out⟩, ⟨by repeat (first | (with_reducible first | exact HB.out | apply bwA | apply bwN | apply bwD | refine below_set ?_ GE589.out | refine below_set ?_ GE590.out | refine below_set ?_ GE607.out | refine below_set ?_ GE616.out) | exact HB.out)⟩⟩
                  case round =>
                   clear H'
                   try clear c1
                   try clear c2
                   try clear p2
                   try clear c3
                   try clear c4
                   try clear c5
                   try clear c6
                   try clear c7
                   try clear c8
                   try clear c11
                   try clear c22
                   try clear c27
                   try clear c28
                   try clear c29
                   try clear c30
                   try clear c33
                   try clear c33b0
                   try clear c33b1
                   try clear c34
                   try clear c35
                   try clear c36
                   try clear c40
                   try clear c40b0
                   try clear c40b1
                   try clear c41
                   try clear c42
                   try clear c44
                   try clear c47
                   try clear c52
                   try clear c53
                   try clear c54
                   try clear c58
                   try clear c59
                   try clear c59b0
                   try clear c59b1
                   try clear c60
                   try clear c60b0
                   try clear c61
                   try clear c61b0
                   try clear c61b1
                   try clear c62
                   try clear c62b0
                   try clear c63
                   try clear c63b0
                   try clear c66
                   try clear c66b0
                   try clear c67
                   try clear c67b0
                   try clear c67b1
                   try clear c68
                   try clear c68b0
                   try clear c69
                   try clear c69b0
                   try clear c72
                   try clear c72b0
                   try clear c73
                   try clear c73b0
                   try clear c77
                   try clear c79
                   try clear c79b0
                   try clear c79b1
                   try clear c81
                   try clear c82
                   try clear c83
                   try clear c86
                   try clear c88
                   try clear c88b0
                   try clear c88b1
                   try clear c89
                   try clear hcz23_0
                   try clear hcz23_1
                   try clear hcz23_2
                   try clear hcz24_0
                   try clear hcz24_1
                   try clear hcz24_2
                   try clear hcz29_0
                   try clear hcz29_1
                   try clear hcz29_2
                   try clear hcz31_0
                   try clear hcz31_1
                   try clear hcz31_2
                   try clear hcz37_0
                   try clear hcz37_1
                   try clear hcz37_2
                   try clear hcz43_0
                   try clear hcz43_1
                   try clear hcz43_2
                   try clear hcz45_0
                   try clear hcz45_1
                   try clear hcz45_2
                   try clear hcz55_0
                   try clear hcz55_1
                   try clear hcz55_2
                   try clear hcz84_0
                   try clear hcz84_1
                   try clear hcz84_2
                   try clear hfz23_0
                   try clear hfz23_1
                   try clear hfz23_2
                   try clear hfz24_0
                   try clear hfz24_1
                   try clear hfz24_2
                   try clear hfz29_0
                   try clear hfz29_1
                   try clear hfz29_2
                   try clear hfz31_0
                   try clear hfz31_1
                   try clear hfz31_2
                   try clear hfz37_0
                   try clear hfz37_1
                   try clear hfz37_2
                   try clear hfz43_0
                   try clear hfz43_1
                   try clear hfz43_2
                   try clear hfz45_0
                   try clear hfz45_1
                   try clear hfz45_2
                   try clear hfz55_0
                   try clear hfz55_1
                   try clear hfz55_2
                   try clear hfz84_0
                   try clear hfz84_1
                   try clear hfz84_2
                   try clear p2
                   obtain ⟨x13_8, rfl, HA, HK8, HO_590002, HO_591002, HO_608002, HO_617002, BK589, BK590, BK607, BK616, HB⟩ := hrel
                   cases gk with
                   | zero => exact absurd HA.out (by simp [tillerlaw04_MatTimes.l1])
                   | succ k8 =>
                    have H := HA.out
                    clear HA
                    simp only [tillerlaw04_MatTimes.l1] at H
                    by_cases c90 : x13_8 < a2
                    ·rw [if_pos c90] at H
                     have c90b0 : decide (x13_8 < a2) = true := decide_eq_true c90
                     clear c90
                     by_cases c91 : x12_6 = x13_8
                     ·rw [if_pos c91] at H
                      have c91b0 : (x12_6 == x13_8) = true := beq_iff_eq.mpr c91
                      have c91b1 : (x12_6 != x13_8) = false := bne_eq_false_iff_eq.mpr c91
                      clear c91
                      replace H := Option.bind_eq_some_iff.mp H
                      obtain ⟨t626, A920, H⟩ := H
                      replace H : (if t626 = 0 then (if t610 = a2 then (if t611 = a2 then (if 0 ≤ (wrap64 ((wrap64 (x12_6 * a2)) + x13_8)) then (if (wrap64 ((wrap64 (x12_6 * a2)) + x13_8)) < (t612.length : Int) then (if (rd t612 (wrap64 ((wrap64 (x12_6 * a2)) + x13_8))) = 65536 then (tillerlaw04_MatTimes.l1 k8 a2 x9_45 t615 x12_6 (wrap64 (x13_8 + 1)) t591 t592 t593 t596 t597 t598 t601 t602 t603 t610 t611 t612) else (some false)) else (none)) else (none)) else (some false)) else (some false)) else (some false)) = some r := H
                      have A92 := Aside0.mk A920
                      clear A920
                      by_cases c93 : t626 = 0
                      ·rw [if_pos c93] at H
                       have c93b0 : (t626 == 0) = true := beq_iff_eq.mpr c93
                       have c93b1 : (t626 != 0) = false := bne_eq_false_iff_eq.mpr c93
                       clear c93
                       by_cases c94 : t610 = a2
                       ·rw [if_pos c94] at H
                        have c94b0 : (t610 == a2) = true := beq_iff_eq.mpr c94
                        have c94b1 : (t610 != a2) = false := bne_eq_false_iff_eq.mpr c94
                        clear c94
                        by_cases c95 : t611 = a2
                        ·rw [if_pos c95] at H
                         have c95b0 : (t611 == a2) = true := beq_iff_eq.mpr c95
                         have c95b1 : (t611 != a2) = false := bne_eq_false_iff_eq.mpr c95
                         clear c95
                         obtain ⟨ji96, hji96⟩ : ∃ j_ : Int, (wrap64 ((wrap64 (x12_6 * a2)) + x13_8)) = j_ := ⟨_, rfl⟩
                         replace H : (if 0 ≤ (ji96) then (if (ji96) < (t612.length : Int) then (if (rd t612 (ji96)) = 65536 then (tillerlaw04_MatTimes.l1 k8 a2 x9_45 t615 x12_6 (wrap64 (x13_8 + 1)) t591 t592 t593 t596 t597 t598 t601 t602 t603 t610 t611 t612) else (some false)) else (none)) else (none)) = some r := by first | (rw [hji96] at H; exact H) | (simp only [hji96] at H ⊢; exact H)
                         (try rw [hji96] at A92)
                         have hji96w : (IntKind.i64.wrap ((wrap64 (x12_6 * a2)) + x13_8)) = ji96 := (i64_w _).trans hji96
                         by_cases c97 : 0 ≤ (ji96)
                         ·rw [if_pos c97] at H
                          have c97b0 : decide (0 ≤ (ji96)) = true := decide_eq_true c97
                          clear c97
                          by_cases c98 : (ji96) < (t612.length : Int)
                          ·rw [if_pos c98] at H
                           have c98b0 : decide ((ji96) < (t612.length : Int)) = true := decide_eq_true c98
                           clear c98
                           by_cases c99 : (rd t612 (ji96)) = 65536
                           ·rw [if_pos c99] at H
                            have c99b0 : ((rd t612 (ji96)) == 65536) = true := beq_iff_eq.mpr c99
                            have c99b1 : ((rd t612 (ji96)) != 65536) = false := bne_eq_false_iff_eq.mpr c99
                            clear c99
                            have H' := Aside0.mk H
                            clear H
                            have hnb100 := NB616_589.out
                            have hnc100 := NB589_616.out
                            have hnb101 := NB616_590.out
                            have hnc101 := NB590_616.out
                            have hnb102 := NB616_607.out
                            have hnc102 := NB607_616.out
                            have hcz103_0 : wr.cell? ⟨gb616, 0, none⟩ = some (.int .i64 t610) := (blk_cell BK616.out 0).trans rfl
                            have hcz103_1 : wr.cell? ⟨gb616, 1, none⟩ = some (.int .i64 t611) := (blk_cell BK616.out 1).trans rfl
                            have hcz103_2 : wr.cell? ⟨gb616, 2, none⟩ = some (.slice Ao56 t612.length co56) := (blk_cell BK616.out 2).trans rfl
                            have hfz103_0 := blk_frozen BK616.out 0
                            have hfz103_1 := blk_frozen BK616.out 1
                            have hfz103_2 := blk_frozen BK616.out 2
                            go_wp2_with (first | ((with_reducible refine gate_callee (f := 30) rfl ?_); refine goesL_ (some 106) rfl rfl Try.func30 (by kernel_rfl) rfl #[.agg #[.int .i64 t610, .int .i64 t611, .slice Ao56 t612.length co56]] rfl (by (try simp only [List.map_toArray, List.map_cons, List.map_nil]); first | done | rfl | (simp only [List.length_drop, List.length_take]; rfl)) ?_; (with_reducible refine (tillerref04_Check.calls k8 t610 t611 _ _ t612 t626 _ ?side1 ?side2 A92.out).mono ?_); (case side1 => repeat (first | exact (Kd.R_reads' HO_617002.out).2.2 | (with_reducible refine Kd.C_alloc ?_ _) | (with_reducible refine Kd.C_drewN ?_ _) | (with_reducible refine Kd.C_drew ?_))); (case side2 => exact (Kd.R_reads' HO_617002.out).2.1); rintro e w104 ⟨rfl, hb⟩; refine ⟨_, rfl, ?_⟩; have n0_ := Aside0.mk (Kd.R_below (by (with_reducible repeat (first | apply rwA | apply rwN | apply rwD)); exact HO_590002.out) hb); have n1_ := Aside0.mk (Kd.R_below (by (with_reducible repeat (first | apply rwA | apply rwN | apply rwD)); exact HO_591002.out) hb); have n2_ := Aside0.mk (Kd.R_below (by (with_reducible repeat (first | apply rwA | apply rwN | apply rwD)); exact HO_608002.out) hb); have n3_ := Aside0.mk (Kd.R_below (by (with_reducible repeat (first | apply rwA | apply rwN | apply rwD)); exact HO_617002.out) hb); have n4_ := Aside0.mk (blk_below (g := gb589) (o := .cells #[.int .i64 t591, .int .i64 t592, .slice Ao16 t593.length co16] 46 (0, 0)) (by (with_reducible repeat (first | apply bkN | apply bkD | apply bkA)); exact BK589.out) hb); have n5_ := Aside0.mk (blk_below (g := gb590) (o := .cells #[.int .i64 t596, .int .i64 t597, .slice Ao20 t598.length co20] 46 (0, 0)) (by (with_reducible repeat (first | apply bkN | apply bkD | apply bkA)); exact BK590.out) hb); have n6_ := Aside0.mk (blk_below (g := gb607) (o := .cells #[.int .i64 t601, .int .i64 t602, .slice Ao30 t603.length co30] 46 (0, 0)) (by (with_reducible repeat (first | apply bkN | apply bkD | apply bkA)); exact BK607.out) hb); have n7_ := Aside0.mk (blk_below (g := gb616) (o := .cells #[.int .i64 t610, .int .i64 t611, .slice Ao56 t612.length co56] 46 (0, 0)) (by (with_reducible repeat (first | apply bkN | apply bkD | apply bkA)); exact BK616.out) hb); have n8_ := Aside0.mk (below_step (by repeat (first | (with_reducible first | exact HB.out | apply bwA | apply bwN | apply bwD | refine below_set ?_ GE589.out | refine below_set ?_ GE590.out | refine below_set ?_ GE607.out | refine below_set ?_ GE616.out) | exact HB.out)) hb); clear HO_590002; clear HO_591002; clear HO_608002; clear HO_617002; clear BK589; clear BK590; clear BK607; clear BK616; clear HB; have HO_590002 := n0_; have HO_591002 := n1_; have HO_608002 := n2_; have HO_617002 := n3_; have BK589 := n4_; have BK590 := n5_; have BK607 := n6_; have BK616 := n7_; have HB := n8_; clear n0_ n1_ n2_ n3_ n4_ n5_ n6_ n7_ n8_; (try clear hb); (try clear hb2); (try clear hk); (try clear hi); have hcz105_0 : w104.cell? ⟨gb616, 0, none⟩ = some (.int .i64 t610) := (blk_cell BK616.out 0).trans rfl; have hcz105_1 : w104.cell? ⟨gb616, 1, none⟩ = some (.int .i64 t611) := (blk_cell BK616.out 1).trans rfl; have hcz105_2 : w104.cell? ⟨gb616, 2, none⟩ = some (.slice Ao56 t612.length co56) := (blk_cell BK616.out 2).trans rfl; have hfz105_0 := blk_frozen BK616.out 0; have hfz105_1 := blk_frozen BK616.out 1; have hfz105_2 := blk_frozen BK616.out 2; have p627 : 0 ≤ ((ji96) : Int) := ofd_; have q627 : (ji96) < (t612.length : Int) := ofd_; obtain ⟨ad627, e627, hx627_0⟩ := Kd.at_int (Kd.R_reads' HO_617002.out).2.2 (ji96) p627 q627; cases e627; replace p627 := eq_true p627; replace q627 := eq_true q627))
                            go_roundg k8
                            case measure => have := HJ7.out; have := HJ38.out; have := HJ45.out; have := HJ48.out; have := HJ77.out; have := HK6.out; have := HJ86.out; have := HK8.out; omega
                            case rel => exact ⟨(wrap64 (x13_8 + 1)), (by first | rfl | (simp; done) | (simp [*]; done)), H', ⟨by have := HJ7.out; have := HJ38.out; have := HJ45.out; have := HJ48.out; have := HJ77.out; have := HK6.out; have := HJ86.out; have := HK8.out; omega⟩, ⟨by (with_reducible repeat (first | apply rwA | apply rwN | apply rwD)); exact HO_590002.out⟩, ⟨by (with_reducible repeat (first | apply rwA | apply rwN | apply rwD)); exact HO_591002.out⟩, ⟨by (with_reducible repeat (first | apply rwA | apply rwN | apply rwD)); exact HO_608002.out⟩, ⟨by (with_reducible repeat (first | apply rwA | apply rwN | apply rwD)); exact HO_617002.out⟩, ⟨by (with_reducible repeat (first | apply bkN | apply bkD | apply bkA)); exact BK589.out⟩, ⟨by (with_reducible repeat (first | apply bkN | apply bkD | apply bkA)); exact BK590.out⟩, ⟨by (with_reducible repeat (first | apply bkN | apply bkD | apply bkA)); exact BK607.out⟩, ⟨by (with_reducible repeat (first | apply bkN | apply bkD | apply bkA)); exact BK616.out⟩, ⟨by repeat (first | (with_reducible first | exact HB.out | apply bwA | apply bwN | apply bwD | refine below_set ?_ GE589.out | refine below_set ?_ GE590.out | refine below_set ?_ GE607.out | refine below_set ?_ GE616.out) | exact HB.out)⟩⟩
                           ·rw [if_neg c99] at H
                            exact absurd (Option.some.inj H) (by rw [hr_.out]; decide)
                          ·rw [if_neg c98] at H
                           exact absurd H (by simp)
                         ·rw [if_neg c97] at H
                          exact absurd H (by simp)
                        ·rw [if_neg c95] at H
                         exact absurd (Option.some.inj H) (by rw [hr_.out]; decide)
                       ·rw [if_neg c94] at H
                        exact absurd (Option.some.inj H) (by rw [hr_.out]; decide)
                      ·rw [if_neg c93] at H
                       exact absurd (Option.some.inj H) (by rw [hr_.out]; decide)
                     ·rw [if_neg c91] at H
                      have c91b0 : (x12_6 == x13_8) = false := beq_eq_false_iff_ne.mpr c91
                      have c91b1 : (x12_6 != x13_8) = true := bne_iff_ne.mpr c91
                      replace H := Option.bind_eq_some_iff.mp H
                      obtain ⟨t628, A1060, H⟩ := H
                      replace H : (if t628 = 0 then (if t610 = a2 then (if t611 = a2 then (if 0 ≤ (wrap64 ((wrap64 (x12_6 * a2)) + x13_8)) then (if (wrap64 ((wrap64 (x12_6 * a2)) + x13_8)) < (t612.length : Int) then (if (rd t612 (wrap64 ((wrap64 (x12_6 * a2)) + x13_8))) = 0 then (tillerlaw04_MatTimes.l1 k8 a2 x9_45 t615 x12_6 (wrap64 (x13_8 + 1)) t591 t592 t593 t596 t597 t598 t601 t602 t603 t610 t611 t612) else (some false)) else (none)) else (none)) else (some false)) else (some false)) else (some false)) = some r := H
                      have A106 := Aside0.mk A1060
                      clear A1060
                      by_cases c107 : t628 = 0
                      ·rw [if_pos c107] at H
                       have c107b0 : (t628 == 0) = true := beq_iff_eq.mpr c107
                       have c107b1 : (t628 != 0) = false := bne_eq_false_iff_eq.mpr c107
                       clear c107
                       by_cases c108 : t610 = a2
                       ·rw [if_pos c108] at H
                        have c108b0 : (t610 == a2) = true := beq_iff_eq.mpr c108
                        have c108b1 : (t610 != a2) = false := bne_eq_false_iff_eq.mpr c108
                        clear c108
                        by_cases c109 : t611 = a2
                        ·rw [if_pos c109] at H
                         have c109b0 : (t611 == a2) = true := beq_iff_eq.mpr c109
                         have c109b1 : (t611 != a2) = false := bne_eq_false_iff_eq.mpr c109
                         clear c109
                         obtain ⟨ji110, hji110⟩ : ∃ j_ : Int, (wrap64 ((wrap64 (x12_6 * a2)) + x13_8)) = j_ := ⟨_, rfl⟩
                         replace H : (if 0 ≤ (ji110) then (if (ji110) < (t612.length : Int) then (if (rd t612 (ji110)) = 0 then (tillerlaw04_MatTimes.l1 k8 a2 x9_45 t615 x12_6 (wrap64 (x13_8 + 1)) t591 t592 t593 t596 t597 t598 t601 t602 t603 t610 t611 t612) else (some false)) else (none)) else (none)) = some r := by first | (rw [hji110] at H; exact H) | (simp only [hji110] at H ⊢; exact H)
                         (try rw [hji110] at A106)
                         have hji110w : (IntKind.i64.wrap ((wrap64 (x12_6 * a2)) + x13_8)) = ji110 := (i64_w _).trans hji110
                         by_cases c111 : 0 ≤ (ji110)
                         ·rw [if_pos c111] at H
                          have c111b0 : decide (0 ≤ (ji110)) = true := decide_eq_true c111
                          clear c111
                          by_cases c112 : (ji110) < (t612.length : Int)
                          ·rw [if_pos c112] at H
                           have c112b0 : decide ((ji110) < (t612.length : Int)) = true := decide_eq_true c112
                           clear c112
                           by_cases c113 : (rd t612 (ji110)) = 0
                           ·rw [if_pos c113] at H
                            have c113b0 : ((rd t612 (ji110)) == 0) = true := beq_iff_eq.mpr c113
                            have c113b1 : ((rd t612 (ji110)) != 0) = false := bne_eq_false_iff_eq.mpr c113
                            clear c113
                            have H' := Aside0.mk H
                            clear H
                            have hnb114 := NB616_589.out
                            have hnc114 := NB589_616.out
                            have hnb115 := NB616_590.out
                            have hnc115 := NB590_616.out
                            have hnb116 := NB616_607.out
                            have hnc116 := NB607_616.out
                            have hcz117_0 : wr.cell? ⟨gb616, 0, none⟩ = some (.int .i64 t610) := (blk_cell BK616.out 0).trans rfl
                            have hcz117_1 : wr.cell? ⟨gb616, 1, none⟩ = some (.int .i64 t611) := (blk_cell BK616.out 1).trans rfl
                            have hcz117_2 : wr.cell? ⟨gb616, 2, none⟩ = some (.slice Ao56 t612.length co56) := (blk_cell BK616.out 2).trans rfl
                            have hfz117_0 := blk_frozen BK616.out 0
                            have hfz117_1 := blk_frozen BK616.out 1
                            have hfz117_2 := blk_frozen BK616.out 2
                            go_wp2_with (first | ((with_reducible refine gate_callee (f := 30) rfl ?_); refine goesL_ (some 106) rfl rfl Try.func30 (by kernel_rfl) rfl #[.agg #[.int .i64 t610, .int .i64 t611, .slice Ao56 t612.length co56]] rfl (by (try simp only [List.map_toArray, List.map_cons, List.map_nil]); first | done | rfl | (simp only [List.length_drop, List.length_take]; rfl)) ?_; (with_reducible refine (tillerref04_Check.calls k8 t610 t611 _ _ t612 t628 _ ?side1 ?side2 A106.out).mono ?_); (case side1 => repeat (first | exact (Kd.R_reads' HO_617002.out).2.2 | (with_reducible refine Kd.C_alloc ?_ _) | (with_reducible refine Kd.C_drewN ?_ _) | (with_reducible refine Kd.C_drew ?_))); (case side2 => exact (Kd.R_reads' HO_617002.out).2.1); rintro e w118 ⟨rfl, hb⟩; refine ⟨_, rfl, ?_⟩; have n0_ := Aside0.mk (Kd.R_below (by (with_reducible repeat (first | apply rwA | apply rwN | apply rwD)); exact HO_590002.out) hb); have n1_ := Aside0.mk (Kd.R_below (by (with_reducible repeat (first | apply rwA | apply rwN | apply rwD)); exact HO_591002.out) hb); have n2_ := Aside0.mk (Kd.R_below (by (with_reducible repeat (first | apply rwA | apply rwN | apply rwD)); exact HO_608002.out) hb); have n3_ := Aside0.mk (Kd.R_below (by (with_reducible repeat (first | apply rwA | apply rwN | apply rwD)); exact HO_617002.out) hb); have n4_ := Aside0.mk (blk_below (g := gb589) (o := .cells #[.int .i64 t591, .int .i64 t592, .slice Ao16 t593.length co16] 46 (0, 0)) (by (with_reducible repeat (first | apply bkN | apply bkD | apply bkA)); exact BK589.out) hb); have n5_ := Aside0.mk (blk_below (g := gb590) (o := .cells #[.int .i64 t596, .int .i64 t597, .slice Ao20 t598.length co20] 46 (0, 0)) (by (with_reducible repeat (first | apply bkN | apply bkD | apply bkA)); exact BK590.out) hb); have n6_ := Aside0.mk (blk_below (g := gb607) (o := .cells #[.int .i64 t601, .int .i64 t602, .slice Ao30 t603.length co30] 46 (0, 0)) (by (with_reducible repeat (first | apply bkN | apply bkD | apply bkA)); exact BK607.out) hb); have n7_ := Aside0.mk (blk_below (g := gb616) (o := .cells #[.int .i64 t610, .int .i64 t611, .slice Ao56 t612.length co56] 46 (0, 0)) (by (with_reducible repeat (first | apply bkN | apply bkD | apply bkA)); exact BK616.out) hb); have n8_ := Aside0.mk (below_step (by repeat (first | (with_reducible first | exact HB.out | apply bwA | apply bwN | apply bwD | refine below_set ?_ GE589.out | refine below_set ?_ GE590.out | refine below_set ?_ GE607.out | refine below_set ?_ GE616.out) | exact HB.out)) hb); clear HO_590002; clear HO_591002; clear HO_608002; clear HO_617002; clear BK589; clear BK590; clear BK607; clear BK616; clear HB; have HO_590002 := n0_; have HO_591002 := n1_; have HO_608002 := n2_; have HO_617002 := n3_; have BK589 := n4_; have BK590 := n5_; have BK607 := n6_; have BK616 := n7_; have HB := n8_; clear n0_ n1_ n2_ n3_ n4_ n5_ n6_ n7_ n8_; (try clear hb); (try clear hb2); (try clear hk); (try clear hi); have hcz119_0 : w118.cell? ⟨gb616, 0, none⟩ = some (.int .i64 t610) := (blk_cell BK616.out 0).trans rfl; have hcz119_1 : w118.cell? ⟨gb616, 1, none⟩ = some (.int .i64 t611) := (blk_cell BK616.out 1).trans rfl; have hcz119_2 : w118.cell? ⟨gb616, 2, none⟩ = some (.slice Ao56 t612.length co56) := (blk_cell BK616.out 2).trans rfl; have hfz119_0 := blk_frozen BK616.out 0; have hfz119_1 := blk_frozen BK616.out 1; have hfz119_2 := blk_frozen BK616.out 2; have p629 : 0 ≤ ((ji110) : Int) := ofd_; have q629 : (ji110) < (t612.length : Int) := ofd_; obtain ⟨ad629, e629, hx629_0⟩ := Kd.at_int (Kd.R_reads' HO_617002.out).2.2 (ji110) p629 q629; cases e629; replace p629 := eq_true p629; replace q629 := eq_true q629))
                            go_roundg k8
                            case measure => have := HJ7.out; have := HJ38.out; have := HJ45.out; have := HJ48.out; have := HJ77.out; have := HK6.out; have := HJ86.out; have := HK8.out; omega
                            case rel => exact ⟨(wrap64 (x13_8 + 1)), (by first | rfl | (simp; done) | (simp [*]; done)), H', ⟨by have := HJ7.out; have := HJ38.out; have := HJ45.out; have := HJ48.out; have := HJ77.out; have := HK6.out; have := HJ86.out; have := HK8.out; omega⟩, ⟨by (with_reducible repeat (first | apply rwA | apply rwN | apply rwD)); exact HO_590002.out⟩, ⟨by (with_reducible repeat (first | apply rwA | apply rwN | apply rwD)); exact HO_591002.out⟩, ⟨by (with_reducible repeat (first | apply rwA | apply rwN | apply rwD)); exact HO_608002.out⟩, ⟨by (with_reducible repeat (first | apply rwA | apply rwN | apply rwD)); exact HO_617002.out⟩, ⟨by (with_reducible repeat (first | apply bkN | apply bkD | apply bkA)); exact BK589.out⟩, ⟨by (with_reducible repeat (first | apply bkN | apply bkD | apply bkA)); exact BK590.out⟩, ⟨by (with_reducible repeat (first | apply bkN | apply bkD | apply bkA)); exact BK607.out⟩, ⟨by (with_reducible repeat (first | apply bkN | apply bkD | apply bkA)); exact BK616.out⟩, ⟨by repeat (first | (with_reducible first | exact HB.out | apply bwA | apply bwN | apply bwD | refine below_set ?_ GE589.out | refine below_set ?_ GE590.out | refine below_set ?_ GE607.out | refine below_set ?_ GE616.out) | exact HB.out)⟩⟩
                           ·rw [if_neg c113] at H
                            exact absurd (Option.some.inj H) (by rw [hr_.out]; decide)
                          ·rw [if_neg c112] at H
                           exact absurd H (by simp)
                         ·rw [if_neg c111] at H
                          exact absurd H (by simp)
                        ·rw [if_neg c109] at H
                         exact absurd (Option.some.inj H) (by rw [hr_.out]; decide)
                       ·rw [if_neg c108] at H
                        exact absurd (Option.some.inj H) (by rw [hr_.out]; decide)
                      ·rw [if_neg c107] at H
                       exact absurd (Option.some.inj H) (by rw [hr_.out]; decide)
                    ·rw [if_neg c90] at H
                     have c90b0 : decide (x13_8 < a2) = false := decide_eq_false c90
                     clear c90
                     have H' := Aside0.mk H
                     clear H
                     go_wp2
                     go_roundg k8
                     case measure => have := HJ7.out; have := HJ38.out; have := HJ45.out; have := HJ48.out; have := HJ77.out; have := HK6.out; have := HJ86.out; have := HK8.out; omega
                     case rel => exact ⟨(wrap64 (x12_6 + 1)), (by first | rfl | (simp; done) | (simp [*]; done)), H', ⟨by have := HJ7.out; have := HJ38.out; have := HJ45.out; have := HJ48.out; have := HJ77.out; have := HK6.out; have := HJ86.out; have := HK8.out; omega⟩, ⟨by (with_reducible repeat (first | apply rwA | apply rwN | apply rwD)); exact HO_590002.out⟩, ⟨by (with_reducible repeat (first | apply rwA | apply rwN | apply rwD)); exact HO_591002.out⟩, ⟨by (with_reducible repeat (first | apply rwA | apply rwN | apply rwD)); exact HO_608002.out⟩, ⟨by (with_reducible repeat (first | apply rwA | apply rwN | apply rwD)); exact HO_617002.out⟩, ⟨by (with_reducible repeat (first | apply bkN | apply bkD | apply bkA)); exact BK589.out⟩, ⟨by (with_reducible repeat (first | apply bkN | apply bkD | apply bkA)); exact BK590.out⟩, ⟨by (with_reducible repeat (first | apply bkN | apply bkD | apply bkA)); exact BK607.out⟩, ⟨by (with_reducible repeat (first | apply bkN | apply bkD | apply bkA)); exact BK616.out⟩, ⟨by repeat (first | (with_reducible first | exact HB.out | apply bwA | apply bwN | apply bwD | refine below_set ?_ GE589.out | refine below_set ?_ GE590.out | refine below_set ?_ GE607.out | refine below_set ?_ GE616.out) | exact HB.out)⟩⟩
                 ·replace c89 := Bool.eq_false_iff.mpr c89
                  subst c89
                  have H1 : (if x9_45 = 0 then ((tillerref04_Times.f kj86 t591 t592 t593 t596 t597 t598).bind fun bt619 => ((tillerref04_Same.f kj86 t601 t602 t603 bt619.1 bt619.2.1 bt619.2.2).bind fun t624 => (some t624))) else ((tillerref04_Same.f kj86 t601 t602 t603 0 0 ([] : List Int)).bind fun t625 => (if t625 = true then (some true) else (some false)))) = some r := by rw [if_neg (show ¬ (false = true) by decide)] at H; exact H
                  clear H
                  have H := H1
                  clear H1
                  by_cases c120 : x9_45 = 0
                  ·rw [if_pos c120] at H
                   have c120b0 : (x9_45 == 0) = true := beq_iff_eq.mpr c120
                   have c120b1 : (x9_45 != 0) = false := bne_eq_false_iff_eq.mpr c120
                   clear c120
                   replace H := Option.bind_eq_some_iff.mp H
                   obtain ⟨⟨t619, t620, t621⟩, A1210, H⟩ := H
                   replace H : ((tillerref04_Same.f kj86 t601 t602 t603 t619 t620 t621).bind fun t624 => (some t624)) = some r := H
                   have A121 := Aside0.mk A1210
                   clear A1210
                   replace H := Option.bind_eq_some_iff.mp H
                   obtain ⟨t624, A1220, H⟩ := H
                   replace H : (some t624) = some r := H
                   have A122 := Aside0.mk A1220
                   clear A1220
                   obtain rfl := Option.some.inj H
                   try go_wp2
                   have n0_ := Aside0.mk (Kd.R_drew HO_590002.out)
                   have n1_ := Aside0.mk (Kd.R_drew HO_591002.out)
                   have n2_ := Aside0.mk (Kd.R_drew HO_608002.out)
                   have n3_ := Aside0.mk (Kd.R_drew HO_617002.out)
                   have n4_ := Aside0.mk (blk_drew BK589.out)
                   have n5_ := Aside0.mk (blk_drew BK590.out)
                   have n6_ := Aside0.mk (blk_drew BK607.out)
                   have n7_ := Aside0.mk (blk_drew BK616.out)
                   have n8_ := Aside0.mk (below_drew1 HB.out)
                   clear HO_590002
                   clear HO_591002
                   clear HO_608002
                   clear HO_617002
                   clear BK589
                   clear BK590
                   clear BK607
                   clear BK616
                   clear HB
                   have HO_590002 := n0_
                   have HO_591002 := n1_
                   have HO_608002 := n2_
                   have HO_617002 := n3_
                   have BK589 := n4_
                   have BK590 := n5_
                   have BK607 := n6_
                   have BK616 := n7_
                   have HB := n8_
                   clear n0_ n1_ n2_ n3_ n4_ n5_ n6_ n7_ n8_
                   refine start_ (n := 19) (S := fun w' => w'.cell? ⟨gb607, 0, none⟩ = some (.int .i64 t601) ∧ w'.cell? ⟨gb607, 1, none⟩ = some (.int .i64 t602) ∧ w'.cell? ⟨gb607, 2, none⟩ = some (.slice Ao30 t603.length co30) ∧ w'.cell? ⟨gb589, 0, none⟩ = some (.int .i64 t591) ∧ w'.cell? ⟨gb589, 1, none⟩ = some (.int .i64 t592) ∧ w'.cell? ⟨gb589, 2, none⟩ = some (.slice Ao16 t593.length co16) ∧ w'.cell? ⟨gb590, 0, none⟩ = some (.int .i64 t596) ∧ w'.cell? ⟨gb590, 1, none⟩ = some (.int .i64 t597) ∧ w'.cell? ⟨gb590, 2, none⟩ = some (.slice Ao20 t598.length co20)) (ds := []) T93384_0 (by kernel_rfl) rfl rfl ⟨(blk_cell BK607.out 0).trans rfl, (blk_cell BK607.out 1).trans rfl, (blk_cell BK607.out 2).trans rfl, (blk_cell BK589.out 0).trans rfl, (blk_cell BK589.out 1).trans rfl, (blk_cell BK589.out 2).trans rfl, (blk_cell BK590.out 0).trans rfl, (blk_cell BK590.out 1).trans rfl, (blk_cell BK590.out 2).trans rfl⟩ (fun hHeld => ?_); refine with_tabW tillerlaw04_MatTimes.tab24 tillerlaw04_MatTimes.bits24 (fun HT_ HW_ => ?_)
                   generalize wc.drew = w123 at HO_590002 HO_591002 HO_608002 HO_617002 BK589 BK590 BK607 BK616 HB hHeld ⊢
                   refine pure_ (i := 0) (N := some 133) (v := ?_) (a' := ?_) T93384_1 rfl rfl (any_of HT_.out (by kernel_rfl)) idq (.inl ⟨by rfl, ?_⟩) ?_ ?_
                   rotate_left; ·intro w'; go_simp; with_reducible rfl
                   rotate_left; ·simp only [Act.put, sqA, sqB, sqC, i64_w, i32_w]; rfl
                   refine pure_ (i := 1) (N := some 134) (v := ?_) (a' := ?_) T93384_2 rfl rfl (any_of HT_.out (by kernel_rfl)) idq (.inl ⟨by rfl, ?_⟩) ?_ ?_
                   rotate_left; ·intro w'; go_simp; with_reducible rfl
                   rotate_left; ·simp only [Act.put, sqA, sqB, sqC, i64_w, i32_w]; rfl
                   refine pure_ (i := 2) (N := some 135) (v := ?_) (a' := ?_) T93384_3 rfl rfl (any_of HT_.out (by kernel_rfl)) idq (.inl ⟨by rfl, ?_⟩) ?_ ?_
                   rotate_left; ·intro w'; go_simp; with_reducible rfl
                   rotate_left; ·simp only [Act.put, sqA, sqB, sqC, i64_w, i32_w]; rfl
                   refine pure_ (i := 3) (N := some 136) (v := undef) (a' := ?_) T93384_4 rfl rfl (any_of HT_.out (by kernel_rfl)) (fun _ _ _ h => h) (Or.inr ⟨by rfl, rfl⟩) ?_ ?_
                   rotate_left; ·simp only [Act.put, sqA, sqB, sqC, i64_w, i32_w]; rfl
                   refine pure_ (i := 4) (N := some 137) (v := undef) (a' := ?_) T93384_5 rfl rfl (any_of HT_.out (by kernel_rfl)) (fun _ _ _ h => h) (Or.inr ⟨by rfl, rfl⟩) ?_ ?_
                   rotate_left; ·simp only [Act.put, sqA, sqB, sqC, i64_w, i32_w]; rfl
                   refine pure_ (i := 5) (N := some 138) (v := undef) (a' := ?_) T93384_6 rfl rfl (any_of HT_.out (by kernel_rfl)) (fun _ _ _ h => h) (Or.inr ⟨by rfl, rfl⟩) ?_ ?_
                   rotate_left; ·simp only [Act.put, sqA, sqB, sqC, i64_w, i32_w]; rfl
                   refine pure_ (i := 6) (N := some 139) (v := ?_) (a' := ?_) T93384_7 rfl rfl (any_of HT_.out (by kernel_rfl)) idq (.inl ⟨by rfl, ?_⟩) ?_ ?_
                   rotate_left; ·intro w'; go_simp; with_reducible rfl
                   rotate_left; ·simp only [Act.put, sqA, sqB, sqC, i64_w, i32_w]; rfl
                   refine pure_ (i := 7) (N := some 140) (v := ?_) (a' := ?_) T93384_8 rfl rfl (any_of HT_.out (by kernel_rfl)) idq (.inl ⟨by rfl, ?_⟩) ?_ ?_
                   rotate_left; ·intro w'; go_simp; with_reducible rfl
                   rotate_left; ·simp only [Act.put, sqA, sqB, sqC, i64_w, i32_w]; rfl
                   refine pure_ (i := 8) (N := some 141) (v := ?_) (a' := ?_) T93384_9 rfl rfl (any_of HT_.out (by kernel_rfl)) idq (.inl ⟨by rfl, ?_⟩) ?_ ?_
                   rotate_left; ·intro w'; go_simp; with_reducible rfl
                   rotate_left; ·simp only [Act.put, sqA, sqB, sqC, i64_w, i32_w]; rfl
                   refine pure_ (i := 9) (N := some 142) (v := ?_) (a' := ?_) T93384_10 rfl rfl (any_of HT_.out (by kernel_rfl)) idq (.inl ⟨by rfl, ?_⟩) ?_ ?_
                   rotate_left; ·intro w'; go_simp; with_reducible rfl
                   rotate_left; ·simp only [Act.put, sqA, sqB, sqC, i64_w, i32_w]; rfl
                   refine pure_ (i := 10) (N := some 143) (v := ?_) (a' := ?_) T93384_11 rfl rfl (any_of HT_.out (by kernel_rfl)) idq (.inl ⟨by rfl, ?_⟩) ?_ ?_
                   rotate_left; ·intro w'; go_simp; with_reducible rfl
                   rotate_left; ·simp only [Act.put, sqA, sqB, sqC, i64_w, i32_w]; rfl
                   refine take_ (i := 11) (N := some 144) (v := ?_) (a' := ?_) T93384_12 rfl rfl (take_ofW HT_.out HW_.out (by kernel_rfl)) idq (.inl ⟨by rfl, ?_⟩) hHeld ?_ ?_
                   rotate_left
                   ·rintro w' ⟨s0, s1, s2, s3, s4, s5, s6, s7, s8⟩
                    go_simp
                    with_reducible rfl
                   rotate_left; ·simp only [Act.put, sqA, sqB, sqC, i64_w, i32_w]; rfl
                   refine take_ (i := 12) (N := some 145) (v := ?_) (a' := ?_) T93384_13 rfl rfl (take_ofW HT_.out HW_.out (by kernel_rfl)) idq (.inl ⟨by rfl, ?_⟩) hHeld ?_ ?_
                   rotate_left
                   ·rintro w' ⟨s0, s1, s2, s3, s4, s5, s6, s7, s8⟩
                    go_simp
                    with_reducible rfl
                   rotate_left; ·simp only [Act.put, sqA, sqB, sqC, i64_w, i32_w]; rfl
                   refine take_ (i := 13) (N := some 146) (v := ?_) (a' := ?_) T93384_14 rfl rfl (take_ofW HT_.out HW_.out (by kernel_rfl)) idq (.inl ⟨by rfl, ?_⟩) hHeld ?_ ?_
                   rotate_left
                   ·rintro w' ⟨s0, s1, s2, s3, s4, s5, s6, s7, s8⟩
                    go_simp
                    with_reducible rfl
                   rotate_left; ·simp only [Act.put, sqA, sqB, sqC, i64_w, i32_w]; rfl
                   refine one_ (i := 14) (N := some 147) T93384_15 rfl rfl (one_of HT_.out (by kernel_rfl)) (by decide) (fun K hK => ?_)
                   refine goes_ Try.func42 (by kernel_rfl) rfl #[.agg #[.int .i64 t591, .int .i64 t592, .slice Ao16 t593.length co16], .agg #[.int .i64 t596, .int .i64 t597, .slice Ao20 t598.length co20]] (by rfl) rfl rfl (by (try simp only [List.map_toArray, List.map_cons, List.map_nil]); first | done | rfl | (simp only [List.length_drop, List.length_take]; rfl)) ?_
                   with_reducible refine (tillerref04_Times.calls kj86 t591 t592 _ _ t593 t596 t597 _ _ t598 t619 t620 t621 _ ?side1 ?side2 ?side3 ?side4 A121.out).mono ?_
                   (case side1 => repeat (first | exact (Kd.R_reads' HO_590002.out).2.2 | (with_reducible refine Kd.C_alloc ?_ _) | (with_reducible refine Kd.C_drewN ?_ _) | (with_reducible refine Kd.C_drew ?_)))
                   (case side2 => exact (Kd.R_reads' HO_590002.out).2.1)
                   (case side3 => repeat (first | exact (Kd.R_reads' HO_591002.out).2.2 | (with_reducible refine Kd.C_alloc ?_ _) | (with_reducible refine Kd.C_drewN ?_ _) | (with_reducible refine Kd.C_drew ?_)))
                   (case side4 => exact (Kd.R_reads' HO_591002.out).2.1)
                   rintro e w124 ⟨v622, rfl, ho0, hb⟩
                   refine ⟨_, rfl, ?_⟩
                   have n0_ := Aside0.mk (Kd.R_elder' (by (with_reducible repeat (first | apply rwA | apply rwN | apply rwD)); exact HO_590002.out) (Kd.R_base ho0) hb)
                   have n1_ := Aside0.mk (Kd.R_elder' (by (with_reducible repeat (first | apply rwA | apply rwN | apply rwD)); exact HO_591002.out) (Kd.R_base ho0) hb)
                   have n2_ := Aside0.mk (Kd.R_elder' (by (with_reducible repeat (first | apply rwA | apply rwN | apply rwD)); exact HO_608002.out) (Kd.R_base ho0) hb)
                   have n3_ := Aside0.mk (Kd.R_elder' (by (with_reducible repeat (first | apply rwA | apply rwN | apply rwD)); exact HO_617002.out) (Kd.R_base ho0) hb)
                   have n4_ := Aside0.mk (Kd.R_lower (Kd.R_new' (Kd.R_new' (Kd.R_new' (Kd.R_new' ho0 (Kd.R_lt (by (with_reducible repeat (first | apply rwA | apply rwN | apply rwD)); exact HO_590002.out))) (Kd.R_lt (by (with_reducible repeat (first | apply rwA | apply rwN | apply rwD)); exact HO_591002.out))) (Kd.R_lt (by (with_reducible repeat (first | apply rwA | apply rwN | apply rwD)); exact HO_608002.out))) (Kd.R_lt (by (with_reducible repeat (first | apply rwA | apply rwN | apply rwD)); exact HO_617002.out))) (below_size (by repeat (first | (with_reducible first | exact HB.out | apply bwA | apply bwN | apply bwD | refine below_set ?_ GE589.out | refine below_set ?_ GE590.out | refine below_set ?_ GE607.out | refine below_set ?_ GE616.out) | exact HB.out))))
                   have n5_ := Aside0.mk (blk_below (g := gb589) (o := .cells #[.int .i64 t591, .int .i64 t592, .slice Ao16 t593.length co16] 46 (0, 0)) (by (with_reducible repeat (first | apply bkN | apply bkD | apply bkA)); exact BK589.out) hb)
                   have n6_ := Aside0.mk (blk_below (g := gb590) (o := .cells #[.int .i64 t596, .int .i64 t597, .slice Ao20 t598.length co20] 46 (0, 0)) (by (with_reducible repeat (first | apply bkN | apply bkD | apply bkA)); exact BK590.out) hb)
                   have n7_ := Aside0.mk (blk_below (g := gb607) (o := .cells #[.int .i64 t601, .int .i64 t602, .slice Ao30 t603.length co30] 46 (0, 0)) (by (with_reducible repeat (first | apply bkN | apply bkD | apply bkA)); exact BK607.out) hb)
                   have n8_ := Aside0.mk (blk_below (g := gb616) (o := .cells #[.int .i64 t610, .int .i64 t611, .slice Ao56 t612.length co56] 46 (0, 0)) (by (with_reducible repeat (first | apply bkN | apply bkD | apply bkA)); exact BK616.out) hb)
                   have n9_ := Aside0.mk (below_step (by repeat (first | (with_reducible first | exact HB.out | apply bwA | apply bwN | apply bwD | refine below_set ?_ GE589.out | refine below_set ?_ GE590.out | refine below_set ?_ GE607.out | refine below_set ?_ GE616.out) | exact HB.out)) hb)
                   clear HO_590002
                   clear HO_591002
                   clear HO_608002
                   clear HO_617002
                   clear BK589
                   clear BK590
                   clear BK607
                   clear BK616
                   clear HB
                   have HO_590002 := n0_
                   have HO_591002 := n1_
                   have HO_608002 := n2_
                   have HO_617002 := n3_
                   have HO623 := n4_
                   have BK589 := n5_
                   have BK590 := n6_
                   have BK607 := n7_
                   have BK616 := n8_
                   have HB := n9_
                   clear n0_ n1_ n2_ n3_ n4_ n5_ n6_ n7_ n8_ n9_
                   (try clear hb)
                   (try clear hb2)
                   (try clear hk)
                   (try clear hi)
                   (try clear ho0)
                   obtain ⟨Ao125, co125, eo125⟩ := Kd.R_slice HO623.out
                   (first | subst eo125 | (injection eo125 with f1_ f2_ f3_; have f4_ := f1_.symm; have f5_ := f3_.symm; clear f1_ f2_ f3_; subst f4_; subst f5_))
                   refine hK.out _ _ ⟨(blk_cell BK607.out 0).trans rfl, (blk_cell BK607.out 1).trans rfl, (blk_cell BK607.out 2).trans rfl, (blk_cell BK589.out 0).trans rfl, (blk_cell BK589.out 1).trans rfl, (blk_cell BK589.out 2).trans rfl, (blk_cell BK590.out 0).trans rfl, (blk_cell BK590.out 1).trans rfl, (blk_cell BK590.out 2).trans rfl⟩ (fun hHeld => ?_)
                   clear hK K
                   refine norm_ (a' := ?_) ?_ ?_
                   rotate_left
                   ·show Act.put _ (some 147) _ = _
                    simp only [Act.put, sqA, sqB, sqC, i64_w, i32_w]
                    rfl
                   refine one_ (i := 15) (N := some 148) T93384_16 rfl rfl (one_of HT_.out (by kernel_rfl)) (by decide) (fun K hK => ?_)
                   refine goes_ Try.func36 (by kernel_rfl) rfl #[.agg #[.int .i64 t601, .int .i64 t602, .slice Ao30 t603.length co30], .agg #[.int .i64 t619, .int .i64 t620, .slice Ao125 t621.length co125]] (by rfl) rfl rfl (by (try simp only [List.map_toArray, List.map_cons, List.map_nil]); first | done | rfl | (simp only [List.length_drop, List.length_take]; rfl)) ?_
                   with_reducible refine (tillerref04_Same.calls kj86 t601 t602 _ _ t603 t619 t620 _ _ t621 t624 _ ?side1 ?side2 ?side3 ?side4 A122.out).mono ?_
                   (case side1 => repeat (first | exact (Kd.R_reads' HO_608002.out).2.2 | (with_reducible refine Kd.C_alloc ?_ _) | (with_reducible refine Kd.C_drewN ?_ _) | (with_reducible refine Kd.C_drew ?_)))
                   (case side2 => exact (Kd.R_reads' HO_608002.out).2.1)
                   (case side3 => repeat (first | exact (Kd.R_reads' HO623.out).2.2 | (with_reducible refine Kd.C_alloc ?_ _) | (with_reducible refine Kd.C_drewN ?_ _) | (with_reducible refine Kd.C_drew ?_)))
                   (case side4 => exact (Kd.R_reads' HO623.out).2.1)
                   rintro e w126 ⟨rfl, hb⟩
                   refine ⟨_, rfl, ?_⟩
                   have n0_ := Aside0.mk (Kd.R_below (by (with_reducible repeat (first | apply rwA | apply rwN | apply rwD)); exact HO_590002.out) hb)
                   have n1_ := Aside0.mk (Kd.R_below (by (with_reducible repeat (first | apply rwA | apply rwN | apply rwD)); exact HO_591002.out) hb)
                   have n2_ := Aside0.mk (Kd.R_below (by (with_reducible repeat (first | apply rwA | apply rwN | apply rwD)); exact HO_608002.out) hb)
                   have n3_ := Aside0.mk (Kd.R_below (by (with_reducible repeat (first | apply rwA | apply rwN | apply rwD)); exact HO_617002.out) hb)
                   have n4_ := Aside0.mk (Kd.R_below (by (with_reducible repeat (first | apply rwA | apply rwN | apply rwD)); exact HO623.out) hb)
                   have n5_ := Aside0.mk (blk_below (g := gb589) (o := .cells #[.int .i64 t591, .int .i64 t592, .slice Ao16 t593.length co16] 46 (0, 0)) (by (with_reducible repeat (first | apply bkN | apply bkD | apply bkA)); exact BK589.out) hb)
                   have n6_ := Aside0.mk (blk_below (g := gb590) (o := .cells #[.int .i64 t596, .int .i64 t597, .slice Ao20 t598.length co20] 46 (0, 0)) (by (with_reducible repeat (first | apply bkN | apply bkD | apply bkA)); exact BK590.out) hb)
                   have n7_ := Aside0.mk (blk_below (g := gb607) (o := .cells #[.int .i64 t601, .int .i64 t602, .slice Ao30 t603.length co30] 46 (0, 0)) (by (with_reducible repeat (first | apply bkN | apply bkD | apply bkA)); exact BK607.out) hb)
                   have n8_ := Aside0.mk (blk_below (g := gb616) (o := .cells #[.int .i64 t610, .int .i64 t611, .slice Ao56 t612.length co56] 46 (0, 0)) (by (with_reducible repeat (first | apply bkN | apply bkD | apply bkA)); exact BK616.out) hb)
                   have n9_ := Aside0.mk (below_step (by repeat (first | (with_reducible first | exact HB.out | apply bwA | apply bwN | apply bwD | refine below_set ?_ GE589.out | refine below_set ?_ GE590.out | refine below_set ?_ GE607.out | refine below_set ?_ GE616.out) | exact HB.out)) hb)
                   clear HO_590002
                   clear HO_591002
                   clear HO_608002
                   clear HO_617002
                   clear HO623
                   clear BK589
                   clear BK590
                   clear BK607
                   clear BK616
                   clear HB
                   have HO_590002 := n0_
                   have HO_591002 := n1_
                   have HO_608002 := n2_
                   have HO_617002 := n3_
                   have HO623 := n4_
                   have BK589 := n5_
                   have BK590 := n6_
                   have BK607 := n7_
                   have BK616 := n8_
                   have HB := n9_
                   clear n0_ n1_ n2_ n3_ n4_ n5_ n6_ n7_ n8_ n9_
                   (try clear hb)
                   (try clear hb2)
                   (try clear hk)
                   (try clear hi)
                   refine hK.out _ _ ⟨(blk_cell BK607.out 0).trans rfl, (blk_cell BK607.out 1).trans rfl, (blk_cell BK607.out 2).trans rfl, (blk_cell BK589.out 0).trans rfl, (blk_cell BK589.out 1).trans rfl, (blk_cell BK589.out 2).trans rfl, (blk_cell BK590.out 0).trans rfl, (blk_cell BK590.out 1).trans rfl, (blk_cell BK590.out 2).trans rfl⟩ (fun hHeld => ?_)
                   clear hK K
                   refine norm_ (a' := ?_) ?_ ?_
                   rotate_left
                   ·show Act.put _ (some 148) _ = _
                    simp only [Act.put, sqA, sqB, sqC, i64_w, i32_w]
                    rfl
                   refine pure_ (i := 16) (N := some 149) (v := ?_) (a' := ?_) T93384_17 rfl rfl (any_of HT_.out (by kernel_rfl)) idq (.inl ⟨by rfl, ?_⟩) ?_ ?_
                   rotate_left; ·intro w'; go_simp; with_reducible rfl
                   rotate_left; ·simp only [Act.put, sqA, sqB, sqC, i64_w, i32_w]; rfl
                   refine pure_ (i := 17) (N := some 150) (v := ?_) (a' := ?_) T93384_18 rfl rfl (any_of HT_.out (by kernel_rfl)) idq (.inl ⟨by rfl, ?_⟩) ?_ ?_
                   rotate_left; ·intro w'; go_simp; with_reducible rfl
                   rotate_left; ·simp only [Act.put, sqA, sqB, sqC, i64_w, i32_w]; rfl
                   refine pure_ (i := 18) (N := some 6) (v := ?_) (a' := ?_) T93384_19 rfl rfl (any_of HT_.out (by kernel_rfl)) idq (.inl ⟨by rfl, ?_⟩) ?_ ?_
                   rotate_left; ·intro w'; go_simp; with_reducible rfl
                   rotate_left; ·simp only [Act.put, sqA, sqB, sqC, i64_w, i32_w]; rfl
                   refine done_ (done_of HT_.out (by kernel_rfl)) ?_
                   try go_wp2
                   go_ret
                   exact ⟨by first | rfl | (simp [errW_none, errW_some] <;> rfl) | (simp [*, errW_none, errW_some] <;> rfl), by repeat (first | (with_reducible first | exact HB.out | apply bwA | apply bwN | apply bwD | refine below_set ?_ GE589.out | refine below_set ?_ GE590.out | refine below_set ?_ GE607.out | refine below_set ?_ GE616.out) | exact HB.out)⟩
                  ·rw [if_neg c120] at H
                   have c120b0 : (x9_45 == 0) = false := beq_eq_false_iff_ne.mpr c120
                   have c120b1 : (x9_45 != 0) = true := bne_iff_ne.mpr c120
                   replace H := Option.bind_eq_some_iff.mp H
                   obtain ⟨t625, A1270, H⟩ := H
                   replace H : (if t625 = true then (some true) else (some false)) = some r := H
                   have A127 := Aside0.mk A1270
                   clear A1270
                   by_cases c128 : t625 = true
                   ·subst c128
                    have H1 : (some true) = some r := by rw [if_pos rfl] at H; exact H
                    clear H
                    have H := H1
                    clear H1
                    obtain rfl := Option.some.inj H
                    try go_wp2
                    have n0_ := Aside0.mk (Kd.R_drew HO_590002.out)
                    have n1_ := Aside0.mk (Kd.R_drew HO_591002.out)
                    have n2_ := Aside0.mk (Kd.R_drew HO_608002.out)
                    have n3_ := Aside0.mk (Kd.R_drew HO_617002.out)
                    have n4_ := Aside0.mk (blk_drew BK589.out)
                    have n5_ := Aside0.mk (blk_drew BK590.out)
                    have n6_ := Aside0.mk (blk_drew BK607.out)
                    have n7_ := Aside0.mk (blk_drew BK616.out)
                    have n8_ := Aside0.mk (below_drew1 HB.out)
                    clear HO_590002
                    clear HO_591002
                    clear HO_608002
                    clear HO_617002
                    clear BK589
                    clear BK590
                    clear BK607
                    clear BK616
                    clear HB
                    have HO_590002 := n0_
                    have HO_591002 := n1_
                    have HO_608002 := n2_
                    have HO_617002 := n3_
                    have BK589 := n4_
                    have BK590 := n5_
                    have BK607 := n6_
                    have BK616 := n7_
                    have HB := n8_
                    clear n0_ n1_ n2_ n3_ n4_ n5_ n6_ n7_ n8_
                    refine start_ (n := 19) (S := fun w' => w'.cell? ⟨gb607, 0, none⟩ = some (.int .i64 t601) ∧ w'.cell? ⟨gb607, 1, none⟩ = some (.int .i64 t602) ∧ w'.cell? ⟨gb607, 2, none⟩ = some (.slice Ao30 t603.length co30)) (ds := []) T93384_0 (by kernel_rfl) rfl rfl ⟨(blk_cell BK607.out 0).trans rfl, (blk_cell BK607.out 1).trans rfl, (blk_cell BK607.out 2).trans rfl⟩ (fun hHeld => ?_); refine with_tabW tillerlaw04_MatTimes.tab24 tillerlaw04_MatTimes.bits24 (fun HT_ HW_ => ?_)
                    generalize wc.drew = w129 at HO_590002 HO_591002 HO_608002 HO_617002 BK589 BK590 BK607 BK616 HB hHeld ⊢
                    refine pure_ (i := 0) (N := some 133) (v := ?_) (a' := ?_) T93384_1 rfl rfl (any_of HT_.out (by kernel_rfl)) idq (.inl ⟨by rfl, ?_⟩) ?_ ?_
                    rotate_left; ·intro w'; go_simp; with_reducible rfl
                    rotate_left; ·simp only [Act.put, sqA, sqB, sqC, i64_w, i32_w]; rfl
                    refine pure_ (i := 1) (N := some 134) (v := ?_) (a' := ?_) T93384_2 rfl rfl (any_of HT_.out (by kernel_rfl)) idq (.inl ⟨by rfl, ?_⟩) ?_ ?_
                    rotate_left; ·intro w'; go_simp; with_reducible rfl
                    rotate_left; ·simp only [Act.put, sqA, sqB, sqC, i64_w, i32_w]; rfl
                    refine pure_ (i := 2) (N := some 135) (v := ?_) (a' := ?_) T93384_3 rfl rfl (any_of HT_.out (by kernel_rfl)) idq (.inl ⟨by rfl, ?_⟩) ?_ ?_
                    rotate_left; ·intro w'; go_simp; with_reducible rfl
                    rotate_left; ·simp only [Act.put, sqA, sqB, sqC, i64_w, i32_w]; rfl
                    refine pure_ (i := 4) (N := some 137) (v := ?_) (a' := ?_) T93384_20 rfl rfl (any_of HT_.out (by kernel_rfl)) idq (.inl ⟨by rfl, ?_⟩) ?_ ?_
                    rotate_left; ·intro w'; go_simp; with_reducible rfl
                    rotate_left; ·simp only [Act.put, sqA, sqB, sqC, i64_w, i32_w]; rfl
                    refine take_ (i := 3) (N := some 136) (v := ?_) (a' := ?_) T93384_5 rfl rfl (take_ofW HT_.out HW_.out (by kernel_rfl)) idq (.inl ⟨by rfl, ?_⟩) hHeld ?_ ?_
                    rotate_left
                    ·rintro w' ⟨s0, s1, s2⟩
                     go_simp
                     with_reducible rfl
                    rotate_left; ·simp only [Act.put, sqA, sqB, sqC, i64_w, i32_w]; rfl
                    refine one_ (i := 5) (N := some 138) T93384_6 rfl rfl (one_of HT_.out (by kernel_rfl)) (by decide) (fun K hK => ?_)
                    refine goes_ Try.func36 (by kernel_rfl) rfl #[.agg #[.int .i64 t601, .int .i64 t602, .slice Ao30 t603.length co30], .agg #[.int .i64 0, .int .i64 0, .slice none 0 0]] (by rfl) rfl rfl (by (try simp only [List.map_toArray, List.map_cons, List.map_nil]); first | done | rfl | (simp only [List.length_drop, List.length_take]; rfl)) ?_
                    refine (tillerref04_Same.calls kj86 t601 t602 _ _ t603 0 0 _ _ ([] : List Int) true _ ?side1 ?side2 ?side3 ?side4 A127.out).mono ?_
                    (case side1 => repeat (first | exact (Kd.R_reads' HO_608002.out).2.2 | (with_reducible refine Kd.C_alloc ?_ _) | (with_reducible refine Kd.C_drewN ?_ _) | (with_reducible refine Kd.C_drew ?_)))
                    (case side2 => exact (Kd.R_reads' HO_608002.out).2.1)
                    (case side3 => exact Kd.C_nil _ _)
                    (case side4 => exact Nat.le_refl _)
                    rintro e w130 ⟨rfl, hb⟩
                    refine ⟨_, rfl, ?_⟩
                    have n0_ := Aside0.mk (Kd.R_below (by (with_reducible repeat (first | apply rwA | apply rwN | apply rwD)); exact HO_590002.out) hb)
                    have n1_ := Aside0.mk (Kd.R_below (by (with_reducible repeat (first | apply rwA | apply rwN | apply rwD)); exact HO_591002.out) hb)
                    have n2_ := Aside0.mk (Kd.R_below (by (with_reducible repeat (first | apply rwA | apply rwN | apply rwD)); exact HO_608002.out) hb)
                    have n3_ := Aside0.mk (Kd.R_below (by (with_reducible repeat (first | apply rwA | apply rwN | apply rwD)); exact HO_617002.out) hb)
                    have n4_ := Aside0.mk (blk_below (g := gb589) (o := .cells #[.int .i64 t591, .int .i64 t592, .slice Ao16 t593.length co16] 46 (0, 0)) (by (with_reducible repeat (first | apply bkN | apply bkD | apply bkA)); exact BK589.out) hb)
                    have n5_ := Aside0.mk (blk_below (g := gb590) (o := .cells #[.int .i64 t596, .int .i64 t597, .slice Ao20 t598.length co20] 46 (0, 0)) (by (with_reducible repeat (first | apply bkN | apply bkD | apply bkA)); exact BK590.out) hb)
                    have n6_ := Aside0.mk (blk_below (g := gb607) (o := .cells #[.int .i64 t601, .int .i64 t602, .slice Ao30 t603.length co30] 46 (0, 0)) (by (with_reducible repeat (first | apply bkN | apply bkD | apply bkA)); exact BK607.out) hb)
                    have n7_ := Aside0.mk (blk_below (g := gb616) (o := .cells #[.int .i64 t610, .int .i64 t611, .slice Ao56 t612.length co56] 46 (0, 0)) (by (with_reducible repeat (first | apply bkN | apply bkD | apply bkA)); exact BK616.out) hb)
                    have n8_ := Aside0.mk (below_step (by repeat (first | (with_reducible first | exact HB.out | apply bwA | apply bwN | apply bwD | refine below_set ?_ GE589.out | refine below_set ?_ GE590.out | refine below_set ?_ GE607.out | refine below_set ?_ GE616.out) | exact HB.out)) hb)
                    clear HO_590002
                    clear HO_591002
                    clear HO_608002
                    clear HO_617002
                    clear BK589
                    clear BK590
                    clear BK607
                    clear BK616
                    clear HB
                    have HO_590002 := n0_
                    have HO_591002 := n1_
                    have HO_608002 := n2_
                    have HO_617002 := n3_
                    have BK589 := n4_
                    have BK590 := n5_
                    have BK607 := n6_
                    have BK616 := n7_
                    have HB := n8_
                    clear n0_ n1_ n2_ n3_ n4_ n5_ n6_ n7_ n8_
                    (try clear hb)
                    (try clear hb2)
                    (try clear hk)
                    (try clear hi)
                    refine hK.out _ _ ⟨(blk_cell BK607.out 0).trans rfl, (blk_cell BK607.out 1).trans rfl, (blk_cell BK607.out 2).trans rfl⟩ (fun hHeld => ?_)
                    clear hK K
                    refine norm_ (a' := ?_) ?_ ?_
                    rotate_left
                    ·show Act.put _ (some 138) _ = _
                     simp only [Act.put, sqA, sqB, sqC, i64_w, i32_w]
                     rfl
                    refine pure_ (i := 6) (N := some 139) (v := ?_) (a' := ?_) T93384_7 rfl rfl (any_of HT_.out (by kernel_rfl)) idq (.inl ⟨by rfl, ?_⟩) ?_ ?_
                    rotate_left; ·intro w'; go_simp; with_reducible rfl
                    rotate_left; ·simp only [Act.put, sqA, sqB, sqC, i64_w, i32_w]; rfl
                    refine pure_ (i := 7) (N := some 140) (v := ?_) (a' := ?_) T93384_8 rfl rfl (any_of HT_.out (by kernel_rfl)) idq (.inl ⟨by rfl, ?_⟩) ?_ ?_
                    rotate_left; ·intro w'; go_simp; with_reducible rfl
                    rotate_left; ·simp only [Act.put, sqA, sqB, sqC, i64_w, i32_w]; rfl
                    refine pure_ (i := 8) (N := some 141) (v := undef) (a' := ?_) T93384_9 rfl rfl (any_of HT_.out (by kernel_rfl)) (fun _ _ _ h => h) (Or.inr ⟨by rfl, rfl⟩) ?_ ?_
                    rotate_left; ·simp only [Act.put, sqA, sqB, sqC, i64_w, i32_w]; rfl
                    refine pure_ (i := 9) (N := some 142) (v := undef) (a' := ?_) T93384_10 rfl rfl (any_of HT_.out (by kernel_rfl)) (fun _ _ _ h => h) (Or.inr ⟨by rfl, rfl⟩) ?_ ?_
                    rotate_left; ·simp only [Act.put, sqA, sqB, sqC, i64_w, i32_w]; rfl
                    refine pure_ (i := 10) (N := some 143) (v := undef) (a' := ?_) T93384_11 rfl rfl (any_of HT_.out (by kernel_rfl)) (fun _ _ _ h => h) (Or.inr ⟨by rfl, rfl⟩) ?_ ?_
                    rotate_left; ·simp only [Act.put, sqA, sqB, sqC, i64_w, i32_w]; rfl
                    refine pure_ (i := 11) (N := some 144) (v := undef) (a' := ?_) T93384_12 rfl rfl (any_of HT_.out (by kernel_rfl)) (fun _ _ _ h => h) (Or.inr ⟨by rfl, rfl⟩) ?_ ?_
                    rotate_left; ·simp only [Act.put, sqA, sqB, sqC, i64_w, i32_w]; rfl
                    refine pure_ (i := 12) (N := some 145) (v := undef) (a' := ?_) T93384_13 rfl rfl (any_of HT_.out (by kernel_rfl)) (fun _ _ _ h => h) (Or.inr ⟨by rfl, rfl⟩) ?_ ?_
                    rotate_left; ·simp only [Act.put, sqA, sqB, sqC, i64_w, i32_w]; rfl
                    refine pure_ (i := 13) (N := some 146) (v := undef) (a' := ?_) T93384_14 rfl rfl (any_of HT_.out (by kernel_rfl)) (fun _ _ _ h => h) (Or.inr ⟨by rfl, rfl⟩) ?_ ?_
                    rotate_left; ·simp only [Act.put, sqA, sqB, sqC, i64_w, i32_w]; rfl
                    refine pure_ (i := 14) (N := some 147) (v := undef) (a' := ?_) T93384_15 rfl rfl (any_of HT_.out (by kernel_rfl)) (fun _ _ _ h => h) (Or.inr ⟨by rfl, rfl⟩) ?_ ?_
                    rotate_left; ·simp only [Act.put, sqA, sqB, sqC, i64_w, i32_w]; rfl
                    refine pure_ (i := 15) (N := some 148) (v := undef) (a' := ?_) T93384_16 rfl rfl (any_of HT_.out (by kernel_rfl)) (fun _ _ _ h => h) (Or.inr ⟨by rfl, rfl⟩) ?_ ?_
                    rotate_left; ·simp only [Act.put, sqA, sqB, sqC, i64_w, i32_w]; rfl
                    refine pure_ (i := 16) (N := some 149) (v := undef) (a' := ?_) T93384_17 rfl rfl (any_of HT_.out (by kernel_rfl)) (fun _ _ _ h => h) (Or.inr ⟨by rfl, rfl⟩) ?_ ?_
                    rotate_left; ·simp only [Act.put, sqA, sqB, sqC, i64_w, i32_w]; rfl
                    refine pure_ (i := 17) (N := some 150) (v := ?_) (a' := ?_) T93384_18 rfl rfl (any_of HT_.out (by kernel_rfl)) idq (.inl ⟨by rfl, ?_⟩) ?_ ?_
                    rotate_left; ·intro w'; go_simp; with_reducible rfl
                    rotate_left; ·simp only [Act.put, sqA, sqB, sqC, i64_w, i32_w]; rfl
                    refine pure_ (i := 18) (N := some 6) (v := ?_) (a' := ?_) T93384_19 rfl rfl (any_of HT_.out (by kernel_rfl)) idq (.inl ⟨by rfl, ?_⟩) ?_ ?_
                    rotate_left; ·intro w'; go_simp; with_reducible rfl
                    rotate_left; ·simp only [Act.put, sqA, sqB, sqC, i64_w, i32_w]; rfl
                    refine done_ (done_of HT_.out (by kernel_rfl)) ?_
                    try go_wp2
                    go_ret
                    exact ⟨by first | rfl | (simp [errW_none, errW_some] <;> rfl) | (simp [*, errW_none, errW_some] <;> rfl), by repeat (first | (with_reducible first | exact HB.out | apply bwA | apply bwN | apply bwD | refine below_set ?_ GE589.out | refine below_set ?_ GE590.out | refine below_set ?_ GE607.out | refine below_set ?_ GE616.out) | exact HB.out)⟩
                   ·replace c128 := Bool.eq_false_iff.mpr c128
                    subst c128
                    have H1 : (some false) = some r := by rw [if_neg (show ¬ (false = true) by decide)] at H; exact H
                    clear H
                    have H := H1
                    clear H1
                    exact absurd (Option.some.inj H) (by rw [hr_.out]; decide)

end Go.Proofs.Ytefimleoffaggaa.GQ
