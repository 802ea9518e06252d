-- written by this session's program gprint.py
import Derived.Test.YtefimleoffaggaaGQx0
import Derived.Test.YtefimleoffaggaaGQx1
import Derived.Test.YtefimleoffaggaaGQx2
import Derived.Test.YtefimleoffaggaaGQx4
import Derived.Test.YtefimleoffaggaaGQx5
namespace Go.Proofs.Ytefimleoffaggaa.GQ
open Go.RowKit Go.Proofs.YtefimleoffaggaaW.PrintWords Go.Proofs.YtefimleoffaggaaW.PrintLast Go.Proofs.YtefimleoffaggaaW.PrintMore
attribute [local go_sem] max2_int min2_int max_two min_two max_three min_three max_four min_four   -- for this text's walks alone
set_option linter.unusedVariables false
set_option linter.unusedSimpArgs false
abbrev T54481_0 : Array Bool := #[false, false, false, false, false, false, false, false, false, false, false, false, false, false, false, false, false, false, false, false, false, false, false, false, false, false, false, false, false, false, false, false, false, false, false, false, false, false, false, false, false, false, false, false, false, false, false, false, false, false, false]
abbrev T54481_1 : Array Bool := #[true, false, false, false, false, false, false, false, false, false, false, false, false, false, false, false, false, false, false, false, false, false, false, false, false, false, false, false, false, false, false, false, false, false, false, false, false, false, false, false, false, false, false, false, false, false, false, false, false, false, false]
abbrev T54481_2 : Array Bool := #[true, true, false, false, false, false, false, false, false, false, false, false, false, false, false, false, false, false, false, false, false, false, false, false, false, false, false, false, false, false, false, false, false, false, false, false, false, false, false, false, false, false, false, false, false, false, false, false, false, false, false]
abbrev T54481_3 : Array Bool := #[true, true, true, false, false, false, false, false, false, false, false, false, false, false, false, false, false, false, false, false, false, false, false, false, false, false, false, false, false, false, false, false, false, false, false, false, false, false, false, false, false, false, false, false, false, false, false, false, false, false, false]
abbrev T54481_4 : Array Bool := #[true, true, true, true, false, false, false, false, false, false, false, false, false, false, false, false, false, false, false, false, false, false, false, false, false, false, false, false, false, false, false, false, false, false, false, false, false, false, false, false, false, false, false, false, false, false, false, false, false, false, false]
abbrev T54481_5 : Array Bool := #[true, true, true, true, true, false, false, false, false, false, false, false, false, false, false, false, false, false, false, false, false, false, false, false, false, false, false, false, false, false, false, false, false, false, false, false, false, false, false, false, false, false, false, false, false, false, false, false, false, false, false]
abbrev T54481_6 : Array Bool := #[true, true, true, true, true, true, false, false, false, false, false, false, false, false, false, false, false, false, false, false, false, false, false, false, false, false, false, false, false, false, false, false, false, false, false, false, false, false, false, false, false, false, false, false, false, false, false, false, false, false, false]
abbrev T54481_7 : Array Bool := #[true, true, true, true, true, true, false, true, false, false, false, false, false, false, false, false, false, false, false, false, false, false, false, false, false, false, false, false, false, false, false, false, false, false, false, false, false, false, false, false, false, false, false, false, false, false, false, false, false, false, false]
abbrev T54481_8 : Array Bool := #[true, true, true, true, true, true, false, true, true, false, false, false, false, false, false, false, false, false, false, false, false, false, false, false, false, false, false, false, false, false, false, false, false, false, false, false, false, false, false, false, false, false, false, false, false, false, false, false, false, false, false]
abbrev T54481_9 : Array Bool := #[true, true, true, true, true, true, false, true, true, true, false, false, false, false, false, false, false, false, false, false, false, false, false, false, false, false, false, false, false, false, false, false, false, false, false, false, false, false, false, false, false, false, false, false, false, false, false, false, false, false, false]
abbrev T54481_10 : Array Bool := #[true, true, true, true, true, true, false, true, true, true, true, false, false, false, false, false, false, false, false, false, false, false, false, false, false, false, false, false, false, false, false, false, false, false, false, false, false, false, false, false, false, false, false, false, false, false, false, false, false, false, false]
abbrev T54481_11 : Array Bool := #[true, true, true, true, true, true, false, true, true, true, true, true, false, false, false, false, false, false, false, false, false, false, false, false, false, false, false, false, false, false, false, false, false, false, false, false, false, false, false, false, false, false, false, false, false, false, false, false, false, false, false]
abbrev T54481_12 : Array Bool := #[true, true, true, true, true, true, true, true, true, true, true, true, false, false, false, false, false, false, false, false, false, false, false, false, false, false, false, false, false, false, false, false, false, false, false, false, false, false, false, false, false, false, false, false, false, false, false, false, false, false, false]
abbrev T54481_13 : Array Bool := #[true, true, true, true, true, true, true, true, true, true, true, true, true, false, false, false, false, false, false, false, false, false, false, false, false, false, false, false, false, false, false, false, false, false, false, false, false, false, false, false, false, false, false, false, false, false, false, false, false, false, false]
abbrev T54481_14 : Array Bool := #[true, true, true, true, true, true, true, true, true, true, true, true, true, true, false, false, false, false, false, false, false, false, false, false, false, false, false, false, false, false, false, false, false, false, false, false, false, false, false, false, false, false, false, false, false, false, false, false, false, false, false]
abbrev T54481_15 : Array Bool := #[true, true, true, true, true, true, true, true, true, true, true, true, true, true, true, false, false, false, false, false, false, false, false, false, false, false, false, false, false, false, false, false, false, false, false, false, false, false, false, false, false, false, false, false, false, false, false, false, false, false, false]
abbrev T54481_16 : Array Bool := #[true, true, true, true, true, true, true, true, true, true, true, true, true, true, true, true, false, false, false, false, false, false, false, false, false, false, false, false, false, false, false, false, false, false, false, false, false, false, false, false, false, false, false, false, false, false, false, false, false, false, false]
abbrev T54481_17 : Array Bool := #[true, true, true, true, true, true, true, true, true, true, true, true, true, true, true, true, true, false, false, false, false, false, false, false, false, false, false, false, false, false, false, false, false, false, false, false, false, false, false, false, false, false, false, false, false, false, false, false, false, false, false]
abbrev T54481_18 : Array Bool := #[true, true, true, true, true, true, true, true, true, true, true, true, true, true, true, true, true, true, false, false, false, false, false, false, false, false, false, false, false, false, false, false, false, false, false, false, false, false, false, false, false, false, false, false, false, false, false, false, false, false, false]
abbrev T54481_19 : Array Bool := #[true, true, true, true, true, true, true, true, true, true, true, true, true, true, true, true, true, true, true, false, false, false, false, false, false, false, false, false, false, false, false, false, false, false, false, false, false, false, false, false, false, false, false, false, false, false, false, false, false, false, false]
abbrev T54481_20 : Array Bool := #[true, true, true, true, true, true, true, true, true, true, true, true, true, true, true, true, true, true, true, true, false, false, false, false, false, false, false, false, false, false, false, false, false, false, false, false, false, false, false, false, false, false, false, false, false, false, false, false, false, false, false]
abbrev T54481_21 : Array Bool := #[true, true, true, true, true, true, true, true, true, true, true, true, true, true, true, true, true, true, true, true, true, false, false, false, false, false, false, false, false, false, false, false, false, false, false, false, false, false, false, false, false, false, false, false, false, false, false, false, false, false, false]
abbrev T54481_22 : Array Bool := #[true, true, true, true, true, true, true, true, true, true, true, true, true, true, true, true, true, true, true, true, true, true, false, false, false, false, false, false, false, false, false, false, false, false, false, false, false, false, false, false, false, false, false, false, false, false, false, false, false, false, false]
abbrev T54481_23 : Array Bool := #[true, true, true, true, true, true, true, true, true, true, true, true, true, true, true, true, true, true, true, true, true, true, false, true, false, false, false, false, false, false, false, false, false, false, false, false, false, false, false, false, false, false, false, false, false, false, false, false, false, false, false]
abbrev T54481_24 : Array Bool := #[true, true, true, true, true, true, true, true, true, true, true, true, true, true, true, true, true, true, true, true, true, true, false, true, true, false, false, false, false, false, false, false, false, false, false, false, false, false, false, false, false, false, false, false, false, false, false, false, false, false, false]
abbrev T54481_25 : Array Bool := #[true, true, true, true, true, true, true, true, true, true, true, true, true, true, true, true, true, true, true, true, true, true, true, true, true, false, false, false, false, false, false, false, false, false, false, false, false, false, false, false, false, false, false, false, false, false, false, false, false, false, false]
abbrev T54481_26 : Array Bool := #[true, true, true, true, true, true, true, true, true, true, true, true, true, true, true, true, true, true, true, true, true, true, true, true, true, true, false, false, false, false, false, false, false, false, false, false, false, false, false, false, false, false, false, false, false, false, false, false, false, false, false]
abbrev T54481_27 : Array Bool := #[true, true, true, true, true, true, true, true, true, true, true, true, true, true, true, true, true, true, true, true, true, true, true, true, true, true, true, false, false, false, false, false, false, false, false, false, false, false, false, false, false, false, false, false, false, false, false, false, false, false, false]
abbrev T54481_28 : Array Bool := #[true, true, true, true, true, true, true, true, true, true, true, true, true, true, true, true, true, true, true, true, true, true, true, true, true, true, true, true, false, false, false, false, false, false, false, false, false, false, false, false, false, false, false, false, false, false, false, false, false, false, false]
abbrev T54481_29 : Array Bool := #[true, true, true, true, true, true, true, true, true, true, true, true, true, true, true, true, true, true, true, true, true, true, true, true, true, true, true, true, true, false, false, false, false, false, false, false, false, false, false, false, false, false, false, false, false, false, false, false, false, false, false]
abbrev T54481_30 : Array Bool := #[true, true, true, true, true, true, true, true, true, true, true, true, true, true, true, true, true, true, true, true, true, true, true, true, true, true, true, true, true, true, false, false, false, false, false, false, false, false, false, false, false, false, false, false, false, false, false, false, false, false, false]
abbrev T54481_31 : Array Bool := #[true, true, true, true, true, true, true, true, true, true, true, true, true, true, true, true, true, true, true, true, true, true, true, true, true, true, true, true, true, true, true, false, false, false, false, false, false, false, false, false, false, false, false, false, false, false, false, false, false, false, false]
abbrev T54481_32 : Array Bool := #[true, true, true, true, true, true, true, true, true, true, true, true, true, true, true, true, true, true, true, true, true, true, true, true, true, true, true, true, true, true, true, true, false, false, false, false, false, false, false, false, false, false, false, false, false, false, false, false, false, false, false]
abbrev T54481_33 : Array Bool := #[true, true, true, true, true, true, true, true, true, true, true, true, true, true, true, true, true, true, true, true, true, true, true, true, true, true, true, true, true, true, true, true, true, false, false, false, false, false, false, false, false, false, false, false, false, false, false, false, false, false, false]
abbrev T54481_34 : Array Bool := #[true, true, true, true, true, true, true, true, true, true, true, true, true, true, true, true, true, true, true, true, true, true, true, true, true, true, true, true, true, true, true, true, true, true, false, false, false, false, false, false, false, false, false, false, false, false, false, false, false, false, false]
abbrev T54481_35 : Array Bool := #[true, true, true, true, true, true, true, true, true, true, true, true, true, true, true, true, true, true, true, true, true, true, true, true, true, true, true, true, true, true, true, true, true, true, true, false, false, false, false, false, false, false, false, false, false, false, false, false, false, false, false]
abbrev T54481_36 : Array Bool := #[true, true, true, true, true, true, true, true, true, true, true, true, true, true, true, true, true, true, true, true, true, true, true, true, true, true, true, true, true, true, true, true, true, true, true, false, true, false, false, false, false, false, false, false, false, false, false, false, false, false, false]
abbrev T54481_37 : Array Bool := #[true, true, true, true, true, true, true, true, true, true, true, true, true, true, true, true, true, true, true, true, true, true, true, true, true, true, true, true, true, true, true, true, true, true, true, true, true, false, false, false, false, false, false, false, false, false, false, false, false, false, false]
abbrev T54481_38 : Array Bool := #[true, true, true, true, true, true, true, true, true, true, true, true, true, true, true, true, true, true, true, true, true, true, true, true, true, true, true, true, true, true, true, true, true, true, true, true, true, true, false, false, false, false, false, false, false, false, false, false, false, false, false]
abbrev T54481_39 : Array Bool := #[true, true, true, true, true, true, true, true, true, true, true, true, true, true, true, true, true, true, true, true, true, true, true, true, true, true, true, true, true, true, true, true, true, true, true, true, true, true, true, false, false, false, false, false, false, false, false, false, false, false, false]
abbrev T54481_40 : Array Bool := #[true, true, true, true, true, true, true, true, true, true, true, true, true, true, true, true, true, true, true, true, true, true, true, true, true, true, true, true, true, true, true, true, true, true, true, true, true, true, true, true, false, false, false, false, false, false, false, false, false, false, false]
abbrev T54481_41 : Array Bool := #[true, true, true, true, true, true, true, true, true, true, true, true, true, true, true, true, true, true, true, true, true, true, true, true, true, true, true, true, true, true, true, true, true, true, true, true, true, true, true, true, true, false, false, false, false, false, false, false, false, false, false]
abbrev T54481_42 : Array Bool := #[true, true, true, true, true, true, true, true, true, true, true, true, true, true, true, true, true, true, true, true, true, true, true, true, true, true, true, true, true, true, true, true, true, true, true, true, true, true, true, true, true, true, false, false, false, false, false, false, false, false, false]
abbrev T54481_43 : Array Bool := #[true, true, true, true, true, true, true, true, true, true, true, true, true, true, true, true, true, true, true, true, true, true, true, true, true, true, true, true, true, true, true, true, true, true, true, true, true, true, true, true, true, true, true, false, false, false, false, false, false, false, false]
abbrev T54481_44 : Array Bool := #[true, true, true, true, true, true, true, true, true, true, true, true, true, true, true, true, true, true, true, true, true, true, true, true, true, true, true, true, true, true, true, true, true, true, true, true, true, true, true, true, true, true, true, true, false, false, false, false, false, false, false]
abbrev T54481_45 : Array Bool := #[true, true, true, true, true, true, true, true, true, true, true, true, true, true, true, true, true, true, true, true, true, true, true, true, true, true, true, true, true, true, true, true, true, true, true, true, true, true, true, true, true, true, true, true, true, false, false, false, false, false, false]
abbrev T54481_46 : Array Bool := #[true, true, true, true, true, true, true, true, true, true, true, true, true, true, true, true, true, true, true, true, true, true, true, true, true, true, true, true, true, true, true, true, true, true, true, true, true, true, true, true, true, true, true, true, true, true, false, false, false, false, false]
abbrev T54481_47 : Array Bool := #[true, true, true, true, true, true, true, true, true, true, true, true, true, true, true, true, true, true, true, true, true, true, true, true, true, true, true, true, true, true, true, true, true, true, true, true, true, true, true, true, true, true, true, true, true, true, true, false, false, false, false]
abbrev T54481_48 : Array Bool := #[true, true, true, true, true, true, true, true, true, true, true, true, true, true, true, true, true, true, true, true, true, true, true, true, true, true, true, true, true, true, true, true, true, true, true, true, true, true, true, true, true, true, true, true, true, true, true, true, false, false, false]
abbrev T54481_49 : Array Bool := #[true, true, true, true, true, true, true, true, true, true, true, true, true, true, true, true, true, true, true, true, true, true, true, true, true, true, true, true, true, true, true, true, true, true, true, true, true, true, true, true, true, true, true, true, true, true, true, true, true, false, false]
abbrev T54481_50 : Array Bool := #[true, true, true, true, true, true, true, true, true, true, true, true, true, true, true, true, true, true, true, true, true, true, true, true, true, true, true, true, true, true, true, true, true, true, true, true, true, true, true, true, true, true, true, true, true, true, true, true, true, true, false]
abbrev T54481_51 : Array Bool := #[true, true, true, true, true, true, true, true, true, true, true, true, true, true, true, true, true, true, true, true, true, true, true, true, true, true, true, true, true, true, true, true, true, true, true, true, true, true, true, true, true, true, true, true, true, true, true, true, true, true, true]
abbrev T54481_52 : Array Bool := #[true, true, true, true, true, true, true, true, true, true, true, true, true, true, true, true, true, true, true, true, true, true, true, true, true, true, true, true, true, true, true, true, true, true, true, true, false, false, false, false, false, false, false, false, false, false, false, false, false, false, false]
abbrev T54481_53 : Array Bool := #[true, true, true, true, true, true, true, false, false, false, false, false, false, false, false, false, false, false, false, false, false, false, false, false, false, false, false, false, false, false, false, false, false, false, false, false, false, false, false, false, false, false, false, false, false, false, false, false, false, false, false]
abbrev T54481_54 : Array Bool := #[true, true, true, true, true, true, true, true, false, false, false, false, false, false, false, false, false, false, false, false, false, false, false, false, false, false, false, false, false, false, false, false, false, false, false, false, false, false, false, false, false, false, false, false, false, false, false, false, false, false, false]
abbrev T54481_55 : Array Bool := #[true, true, true, true, true, true, true, true, true, false, false, false, false, false, false, false, false, false, false, false, false, false, false, false, false, false, false, false, false, false, false, false, false, false, false, false, false, false, false, false, false, false, false, false, false, false, false, false, false, false, false]
abbrev T54481_56 : Array Bool := #[true, true, true, true, true, true, true, true, true, true, false, false, false, false, false, false, false, false, false, false, false, false, false, false, false, false, false, false, false, false, false, false, false, false, false, false, false, false, false, false, false, false, false, false, false, false, false, false, false, false, false]
abbrev T54481_57 : Array Bool := #[true, true, true, true, true, true, true, true, true, true, true, false, false, false, false, false, false, false, false, false, false, false, false, false, false, false, false, false, false, false, false, false, false, false, false, false, false, false, false, false, false, false, false, false, false, false, false, false, false, false, false]

/-! ### tillerlaw03_VecPlaces: function 6 -/
mutual
def tillerlaw03_VecPlaces.j0 : Nat → List Int → List Int → Int → List Int → List Int → List Int → Int → Bool → Option (Bool)
 | 0, _, _, _, _, _, _, _, _ => none
 | k + 1, x0, x1, x2, x7, x9, x10, x11, x79 => if x79 = true then (some false) else (tillerlaw03_VecPlaces.l0 k x1 x2 x7 x9 x10 x11 x0 (x0.length : Int) 0)
def tillerlaw03_VecPlaces.l0 : Nat → List Int → Int → List Int → List Int → List Int → Int → List Int → Int → Int → Option (Bool)
 | 0, _, _, _, _, _, _, _, _, _ => none
 | k + 1, x1, x2, x7, x9, x10, x11, x80, x81, x82 => if x82 < x81 then (if 0 ≤ x82 then (if x82 < (x80.length : Int) then (if x11 = 0 then (if x82 < (x7.length : Int) then (if x82 < (x1.length : Int) then ((tillerref01_Sat.f (wrap64 ((wrap64 (rd x80 x82)) + (wrap64 (rd x1 x82))))).bind fun t291 => (if (rd x7 x82) = t291 then (if x82 < (x9.length : Int) then ((tillerref01_Mul.f k (rd x80 x82) x2).bind fun t293 => (if (rd x9 x82) = t293 then (if (rd x80 x82) ≥ 0 then (if x82 < (x10.length : Int) then (if (rd x10 x82) = (rd x80 x82) then (if (rd x80 x82) < 0 then (if (rd x10 x82) = 0 then (tillerlaw03_VecPlaces.l0 k x1 x2 x7 x9 x10 x11 x80 x81 (wrap64 (x82 + 1))) else (some false)) else (tillerlaw03_VecPlaces.l0 k x1 x2 x7 x9 x10 x11 x80 x81 (wrap64 (x82 + 1)))) else (some false)) else (none)) else (if (rd x80 x82) < 0 then (if x82 < (x10.length : Int) then (if (rd x10 x82) = 0 then (tillerlaw03_VecPlaces.l0 k x1 x2 x7 x9 x10 x11 x80 x81 (wrap64 (x82 + 1))) else (some false)) else (none)) else (tillerlaw03_VecPlaces.l0 k x1 x2 x7 x9 x10 x11 x80 x81 (wrap64 (x82 + 1))))) else (some false))) else (none)) else (some false))) else (none)) else (none)) else (if x82 < (x9.length : Int) then ((tillerref01_Mul.f k (rd x80 x82) x2).bind fun t298 => (if (rd x9 x82) = t298 then (if (rd x80 x82) ≥ 0 then (if x82 < (x10.length : Int) then (if (rd x10 x82) = (rd x80 x82) then (if (rd x80 x82) < 0 then (if (rd x10 x82) = 0 then (tillerlaw03_VecPlaces.l0 k x1 x2 x7 x9 x10 x11 x80 x81 (wrap64 (x82 + 1))) else (some false)) else (tillerlaw03_VecPlaces.l0 k x1 x2 x7 x9 x10 x11 x80 x81 (wrap64 (x82 + 1)))) else (some false)) else (none)) else (if (rd x80 x82) < 0 then (if x82 < (x10.length : Int) then (if (rd x10 x82) = 0 then (tillerlaw03_VecPlaces.l0 k x1 x2 x7 x9 x10 x11 x80 x81 (wrap64 (x82 + 1))) else (some false)) else (none)) else (tillerlaw03_VecPlaces.l0 k x1 x2 x7 x9 x10 x11 x80 x81 (wrap64 (x82 + 1))))) else (some false))) else (none))) else (none)) else (none)) else (some true)
end
def tillerlaw03_VecPlaces.f (k : Nat) (l0 : List Int) (l1 : List Int) (a2 : Int) : Option (Bool) := (tillerlaw03_Few.f l0 5000).bind fun t266 => ((tillerlaw03_Few.f l1 5000).bind fun t269 => ((vec_Add.f k t266 t269).bind fun bt272 => ((vec_Scale.f k t266 a2).bind fun t276 => ((vec_Rise.f k t266).bind fun t279 => ((tillerref03_Fit.f k t266 t269).bind fun t282 => ((tillerlaw03_awake.f k).bind fun t283 => (if t283 = true then (if bt272.2 = t282 then (if t282 = 0 then (if (bt272.1.length : Int) = (t266.length : Int) then (if (t276.length : Int) = (t266.length : Int) then (if (t279.length : Int) = (t266.length : Int) then ((vec_Argmax.f k t266).bind fun t284 => ((tillerref03_Argmax.f k t266).bind fun t285 => (tillerlaw03_VecPlaces.j0 k t266 t269 a2 bt272.1 t276 t279 t282 (t284 != t285)))) else (tillerlaw03_VecPlaces.j0 k t266 t269 a2 bt272.1 t276 t279 t282 true)) else (tillerlaw03_VecPlaces.j0 k t266 t269 a2 bt272.1 t276 t279 t282 true)) else (tillerlaw03_VecPlaces.j0 k t266 t269 a2 bt272.1 t276 t279 t282 true)) else (if (bt272.1.length : Int) = 0 then (if (t276.length : Int) = (t266.length : Int) then (if (t279.length : Int) = (t266.length : Int) then ((vec_Argmax.f k t266).bind fun t286 => ((tillerref03_Argmax.f k t266).bind fun t287 => (tillerlaw03_VecPlaces.j0 k t266 t269 a2 bt272.1 t276 t279 t282 (t286 != t287)))) else (tillerlaw03_VecPlaces.j0 k t266 t269 a2 bt272.1 t276 t279 t282 true)) else (tillerlaw03_VecPlaces.j0 k t266 t269 a2 bt272.1 t276 t279 t282 true)) else (tillerlaw03_VecPlaces.j0 k t266 t269 a2 bt272.1 t276 t279 t282 true))) else (tillerlaw03_VecPlaces.j0 k t266 t269 a2 bt272.1 t276 t279 t282 true)) else (tillerlaw03_VecPlaces.j0 k t266 t269 a2 bt272.1 t276 t279 t282 true))))))))
theorem tillerlaw03_VecPlaces.mono_l : ∀ k, (∀ y0 y1 y2 y3 y4 y5 y6 y7, LeO (tillerlaw03_VecPlaces.j0 k y0 y1 y2 y3 y4 y5 y6 y7) (tillerlaw03_VecPlaces.j0 (k + 1) y0 y1 y2 y3 y4 y5 y6 y7)) ∧ (∀ y0 y1 y2 y3 y4 y5 y6 y7 y8, LeO (tillerlaw03_VecPlaces.l0 k y0 y1 y2 y3 y4 y5 y6 y7 y8) (tillerlaw03_VecPlaces.l0 (k + 1) y0 y1 y2 y3 y4 y5 y6 y7 y8))
 | 0 => ⟨fun _ _ _ _ _ _ _ _ r h => by simp [tillerlaw03_VecPlaces.j0] at h, fun _ _ _ _ _ _ _ _ _ r h => by simp [tillerlaw03_VecPlaces.l0] at h⟩
 | k + 1 => by
  obtain ⟨ih0, ih1⟩ := tillerlaw03_VecPlaces.mono_l k
  refine ⟨?_, ?_⟩
  ·intro y0 y1 y2 y3 y4 y5 y6 y7
   unfold tillerlaw03_VecPlaces.j0
   repeat' first
   | (with_reducible exact ih0 _ _ _ _ _ _ _ _)
   | (with_reducible exact ih1 _ _ _ _ _ _ _ _ _)
   | (with_reducible exact tillerlaw03_awake.mono _)
   | (with_reducible exact tillerref01_Mul.mono _ _ _)
   | (with_reducible exact tillerref03_Argmax.mono _ _)
   | (with_reducible exact tillerref03_Fit.mono _ _ _)
   | (with_reducible exact vec_Add.mono _ _ _)
   | (with_reducible exact vec_Argmax.mono _ _)
   | (with_reducible exact vec_Rise.mono _ _)
   | (with_reducible exact vec_Scale.mono _ _ _)
   | (with_reducible exact LeO.refl _)
   | (with_reducible exact LeO.none _)
   | (with_reducible refine LeO.ite ?_ ?_)
   | (with_reducible refine LeO.bind ?_ (fun _ => ?_))
   | exact ih0 _ _ _ _ _ _ _ _
   | exact ih1 _ _ _ _ _ _ _ _ _
   | exact tillerlaw03_awake.mono _
   | exact tillerref01_Mul.mono _ _ _
   | exact tillerref03_Argmax.mono _ _
   | exact tillerref03_Fit.mono _ _ _
   | exact vec_Add.mono _ _ _
   | exact vec_Argmax.mono _ _
   | exact vec_Rise.mono _ _
   | exact vec_Scale.mono _ _ _
   | exact LeO.none _
   | refine LeO.ite ?_ ?_
   | refine LeO.bind ?_ (fun _ => ?_)
  ·intro y0 y1 y2 y3 y4 y5 y6 y7 y8
   unfold tillerlaw03_VecPlaces.l0
   repeat' first
   | (with_reducible exact ih0 _ _ _ _ _ _ _ _)
   | (with_reducible exact ih1 _ _ _ _ _ _ _ _ _)
   | (with_reducible exact tillerlaw03_awake.mono _)
   | (with_reducible exact tillerref01_Mul.mono _ _ _)
   | (with_reducible exact tillerref03_Argmax.mono _ _)
   | (with_reducible exact tillerref03_Fit.mono _ _ _)
   | (with_reducible exact vec_Add.mono _ _ _)
   | (with_reducible exact vec_Argmax.mono _ _)
   | (with_reducible exact vec_Rise.mono _ _)
   | (with_reducible exact vec_Scale.mono _ _ _)
   | (with_reducible exact LeO.refl _)
   | (with_reducible exact LeO.none _)
   | (with_reducible refine LeO.ite ?_ ?_)
   | (with_reducible refine LeO.bind ?_ (fun _ => ?_))
   | exact ih0 _ _ _ _ _ _ _ _
   | exact ih1 _ _ _ _ _ _ _ _ _
   | exact tillerlaw03_awake.mono _
   | exact tillerref01_Mul.mono _ _ _
   | exact tillerref03_Argmax.mono _ _
   | exact tillerref03_Fit.mono _ _ _
   | exact vec_Add.mono _ _ _
   | exact vec_Argmax.mono _ _
   | exact vec_Rise.mono _ _
   | exact vec_Scale.mono _ _ _
   | exact LeO.none _
   | refine LeO.ite ?_ ?_
   | refine LeO.bind ?_ (fun _ => ?_)
theorem tillerlaw03_VecPlaces.mono : ∀ a0 a1 a2 k, LeO (tillerlaw03_VecPlaces.f k a0 a1 a2) (tillerlaw03_VecPlaces.f (k + 1) a0 a1 a2) := by
 intro a0 a1 a2 k
 obtain ⟨ih0, ih1⟩ := tillerlaw03_VecPlaces.mono_l k
 unfold tillerlaw03_VecPlaces.f
 repeat' first
   | (with_reducible exact ih0 _ _ _ _ _ _ _ _)
   | (with_reducible exact ih1 _ _ _ _ _ _ _ _ _)
   | (with_reducible exact tillerlaw03_awake.mono _)
   | (with_reducible exact tillerref01_Mul.mono _ _ _)
   | (with_reducible exact tillerref03_Argmax.mono _ _)
   | (with_reducible exact tillerref03_Fit.mono _ _ _)
   | (with_reducible exact vec_Add.mono _ _ _)
   | (with_reducible exact vec_Argmax.mono _ _)
   | (with_reducible exact vec_Rise.mono _ _)
   | (with_reducible exact vec_Scale.mono _ _ _)
   | (with_reducible exact LeO.refl _)
   | (with_reducible exact LeO.none _)
   | (with_reducible refine LeO.ite ?_ ?_)
   | (with_reducible refine LeO.bind ?_ (fun _ => ?_))
   | exact ih0 _ _ _ _ _ _ _ _
   | exact ih1 _ _ _ _ _ _ _ _ _
   | exact tillerlaw03_awake.mono _
   | exact tillerref01_Mul.mono _ _ _
   | exact tillerref03_Argmax.mono _ _
   | exact tillerref03_Fit.mono _ _ _
   | exact vec_Add.mono _ _ _
   | exact vec_Argmax.mono _ _
   | exact vec_Rise.mono _ _
   | exact vec_Scale.mono _ _ _
   | exact LeO.none _
   | refine LeO.ite ?_ ?_
   | refine LeO.bind ?_ (fun _ => ?_)
def tillerlaw03_VecPlaces.T10 : Bool × List (List Nat × List Nat) := (true, [([], []), ([0], [0]), ([1], [1]), ([2], [2]), ([2], [2]), ([3, 4, 2], [2, 3, 4]), ([5, 2], [2, 5]), ([2], [2]), ([7, 2], [2, 7]), ([2], [2]), ([2], [2]), ([9, 10, 2], [2, 9, 10]), ([11, 2], [2, 11]), ([12, 2], [2, 12]), ([8, 13, 2], [2, 8, 13]), ([14, 2, 2], [2, 14]), ([6, 15, 2], [2, 6, 15]), ([2, 16], [2, 16]), ([17, 15], [17]), ([18], [18]), ([18], [18]), ([19, 20, 18], [18, 19, 20]), ([21, 18], [18, 21]), ([18], [18]), ([18], [18]), ([23, 24, 18, 18], [18, 23, 24]), ([22, 25, 18], [18, 22, 25]), ([18, 26], [18, 26]), ([27, 25], [27]), ([28], [28]), ([29, 28], [28, 29]), ([30, 28, 28], [28, 30]), ([31], [31]), ([31], [31]), ([32, 33, 31], [31, 32, 33]), ([34, 31], [31, 34]), ([31], [31]), ([35, 36, 31], [31, 35, 36]), ([31, 37, 28], [28, 31, 37]), ([28, 38], [28, 38]), ([39, 31], [39]), ([40], [40]), ([41, 40], [40, 41]), ([42, 40, 40], [40, 42]), ([43], [43]), ([43], [43]), ([44, 45, 43], [43, 44, 45]), ([46, 43], [43, 46]), ([47, 43], [43, 47]), ([43, 48, 40], [40, 43, 48]), ([40, 49], [40, 49])])
def tillerlaw03_VecPlaces.B10 : List Nat := [0, 1, 3, 7, 7, 31, 63, 7, 135, 7, 7, 1543, 3591, 7687, 16263, 32647, 65535, 131071, 262143, 524287, 524287, 2097151, 4194303, 524287, 524287, 25690111, 67108863, 134217727, 268435455, 536870911, 1073741823, 2147483647, 4294967295, 4294967295, 17179869183, 34359738367, 4294967295, 137438953471, 274877906943, 549755813887, 1099511627775, 2199023255551, 4398046511103, 8796093022207, 17592186044415, 17592186044415, 70368744177663, 140737488355327, 281474976710655, 562949953421311, 1125899906842623]
theorem tillerlaw03_VecPlaces.tab10 : rtab .any (opsOf Try.f6 10) = tillerlaw03_VecPlaces.T10 := by kernel_rfl
theorem tillerlaw03_VecPlaces.bits10 : waitsOk tillerlaw03_VecPlaces.T10.2 tillerlaw03_VecPlaces.B10 = true := by kernel_rfl
set_option maxHeartbeats 8000000 in
set_option maxRecDepth 100000 in
theorem tillerlaw03_VecPlaces.calls (k : Nat) (A0 : Option Addr) (c0 : Nat) (l0 : List Int) (A1 : Option Addr) (c1 : Nat) (l1 : List Int) (a2 : Int) (r : Bool) (w : World) (hr0 : Kd.C (Kd.int .i32) w A0 l0.length l0) (hc0 : l0.length ≤ c0) (hr1 : Kd.C (Kd.int .i32) w A1 l1.length l1) (hc1 : l1.length ≤ c1) (hr_ : Aside0 (r = true)) (h : tillerlaw03_VecPlaces.f k l0 l1 a2 = some r) :
  Calls Try.prog 6 #[.slice A0 l0.length c0, .slice A1 l1.length c1, .int .i32 a2] w fun e w' => e = .returned (.bool r) ∧ Below w.heap.size w w' := by
 have HR0 := Aside0.mk hr0
 have HC0 := Aside0.mk hc0
 clear hr0 hc0
 have HR1 := Aside0.mk hr1
 have HC1 := Aside0.mk hc1
 clear hr1 hc1
 have HB := Aside0.mk (Below.refl w.heap.size w)
 have H : ((tillerlaw03_Few.f l0 5000).bind fun t266 => ((tillerlaw03_Few.f l1 5000).bind fun t269 => ((vec_Add.f k t266 t269).bind fun bt272 => ((vec_Scale.f k t266 a2).bind fun t276 => ((vec_Rise.f k t266).bind fun t279 => ((tillerref03_Fit.f k t266 t269).bind fun t282 => ((tillerlaw03_awake.f k).bind fun t283 => (if t283 = true then (if bt272.2 = t282 then (if t282 = 0 then (if (bt272.1.length : Int) = (t266.length : Int) then (if (t276.length : Int) = (t266.length : Int) then (if (t279.length : Int) = (t266.length : Int) then ((vec_Argmax.f k t266).bind fun t284 => ((tillerref03_Argmax.f k t266).bind fun t285 => (tillerlaw03_VecPlaces.j0 k t266 t269 a2 bt272.1 t276 t279 t282 (t284 != t285)))) else (tillerlaw03_VecPlaces.j0 k t266 t269 a2 bt272.1 t276 t279 t282 true)) else (tillerlaw03_VecPlaces.j0 k t266 t269 a2 bt272.1 t276 t279 t282 true)) else (tillerlaw03_VecPlaces.j0 k t266 t269 a2 bt272.1 t276 t279 t282 true)) else (if (bt272.1.length : Int) = 0 then (if (t276.length : Int) = (t266.length : Int) then (if (t279.length : Int) = (t266.length : Int) then ((vec_Argmax.f k t266).bind fun t286 => ((tillerref03_Argmax.f k t266).bind fun t287 => (tillerlaw03_VecPlaces.j0 k t266 t269 a2 bt272.1 t276 t279 t282 (t286 != t287)))) else (tillerlaw03_VecPlaces.j0 k t266 t269 a2 bt272.1 t276 t279 t282 true)) else (tillerlaw03_VecPlaces.j0 k t266 t269 a2 bt272.1 t276 t279 t282 true)) else (tillerlaw03_VecPlaces.j0 k t266 t269 a2 bt272.1 t276 t279 t282 true))) else (tillerlaw03_VecPlaces.j0 k t266 t269 a2 bt272.1 t276 t279 t282 true)) else (tillerlaw03_VecPlaces.j0 k t266 t269 a2 bt272.1 t276 t279 t282 true))))))))) = some r := h
 clear h
 replace H := Option.bind_eq_some_iff.mp H
 obtain ⟨t266, A40, H⟩ := H
 replace H : ((tillerlaw03_Few.f l1 5000).bind fun t269 => ((vec_Add.f k t266 t269).bind fun bt272 => ((vec_Scale.f k t266 a2).bind fun t276 => ((vec_Rise.f k t266).bind fun t279 => ((tillerref03_Fit.f k t266 t269).bind fun t282 => ((tillerlaw03_awake.f k).bind fun t283 => (if t283 = true then (if bt272.2 = t282 then (if t282 = 0 then (if (bt272.1.length : Int) = (t266.length : Int) then (if (t276.length : Int) = (t266.length : Int) then (if (t279.length : Int) = (t266.length : Int) then ((vec_Argmax.f k t266).bind fun t284 => ((tillerref03_Argmax.f k t266).bind fun t285 => (tillerlaw03_VecPlaces.j0 k t266 t269 a2 bt272.1 t276 t279 t282 (t284 != t285)))) else (tillerlaw03_VecPlaces.j0 k t266 t269 a2 bt272.1 t276 t279 t282 true)) else (tillerlaw03_VecPlaces.j0 k t266 t269 a2 bt272.1 t276 t279 t282 true)) else (tillerlaw03_VecPlaces.j0 k t266 t269 a2 bt272.1 t276 t279 t282 true)) else (if (bt272.1.length : Int) = 0 then (if (t276.length : Int) = (t266.length : Int) then (if (t279.length : Int) = (t266.length : Int) then ((vec_Argmax.f k t266).bind fun t286 => ((tillerref03_Argmax.f k t266).bind fun t287 => (tillerlaw03_VecPlaces.j0 k t266 t269 a2 bt272.1 t276 t279 t282 (t286 != t287)))) else (tillerlaw03_VecPlaces.j0 k t266 t269 a2 bt272.1 t276 t279 t282 true)) else (tillerlaw03_VecPlaces.j0 k t266 t269 a2 bt272.1 t276 t279 t282 true)) else (tillerlaw03_VecPlaces.j0 k t266 t269 a2 bt272.1 t276 t279 t282 true))) else (tillerlaw03_VecPlaces.j0 k t266 t269 a2 bt272.1 t276 t279 t282 true)) else (tillerlaw03_VecPlaces.j0 k t266 t269 a2 bt272.1 t276 t279 t282 true)))))))) = some r := H
 have A4 := Aside0.mk A40
 clear A40
 replace H := Option.bind_eq_some_iff.mp H
 obtain ⟨t269, A50, H⟩ := H
 replace H : ((vec_Add.f k t266 t269).bind fun bt272 => ((vec_Scale.f k t266 a2).bind fun t276 => ((vec_Rise.f k t266).bind fun t279 => ((tillerref03_Fit.f k t266 t269).bind fun t282 => ((tillerlaw03_awake.f k).bind fun t283 => (if t283 = true then (if bt272.2 = t282 then (if t282 = 0 then (if (bt272.1.length : Int) = (t266.length : Int) then (if (t276.length : Int) = (t266.length : Int) then (if (t279.length : Int) = (t266.length : Int) then ((vec_Argmax.f k t266).bind fun t284 => ((tillerref03_Argmax.f k t266).bind fun t285 => (tillerlaw03_VecPlaces.j0 k t266 t269 a2 bt272.1 t276 t279 t282 (t284 != t285)))) else (tillerlaw03_VecPlaces.j0 k t266 t269 a2 bt272.1 t276 t279 t282 true)) else (tillerlaw03_VecPlaces.j0 k t266 t269 a2 bt272.1 t276 t279 t282 true)) else (tillerlaw03_VecPlaces.j0 k t266 t269 a2 bt272.1 t276 t279 t282 true)) else (if (bt272.1.length : Int) = 0 then (if (t276.length : Int) = (t266.length : Int) then (if (t279.length : Int) = (t266.length : Int) then ((vec_Argmax.f k t266).bind fun t286 => ((tillerref03_Argmax.f k t266).bind fun t287 => (tillerlaw03_VecPlaces.j0 k t266 t269 a2 bt272.1 t276 t279 t282 (t286 != t287)))) else (tillerlaw03_VecPlaces.j0 k t266 t269 a2 bt272.1 t276 t279 t282 true)) else (tillerlaw03_VecPlaces.j0 k t266 t269 a2 bt272.1 t276 t279 t282 true)) else (tillerlaw03_VecPlaces.j0 k t266 t269 a2 bt272.1 t276 t279 t282 true))) else (tillerlaw03_VecPlaces.j0 k t266 t269 a2 bt272.1 t276 t279 t282 true)) else (tillerlaw03_VecPlaces.j0 k t266 t269 a2 bt272.1 t276 t279 t282 true))))))) = some r := H
 have A5 := Aside0.mk A50
 clear A50
 replace H := Option.bind_eq_some_iff.mp H
 obtain ⟨⟨t272, t273⟩, A60, H⟩ := H
 replace H : ((vec_Scale.f k t266 a2).bind fun t276 => ((vec_Rise.f k t266).bind fun t279 => ((tillerref03_Fit.f k t266 t269).bind fun t282 => ((tillerlaw03_awake.f k).bind fun t283 => (if t283 = true then (if t273 = t282 then (if t282 = 0 then (if (t272.length : Int) = (t266.length : Int) then (if (t276.length : Int) = (t266.length : Int) then (if (t279.length : Int) = (t266.length : Int) then ((vec_Argmax.f k t266).bind fun t284 => ((tillerref03_Argmax.f k t266).bind fun t285 => (tillerlaw03_VecPlaces.j0 k t266 t269 a2 t272 t276 t279 t282 (t284 != t285)))) else (tillerlaw03_VecPlaces.j0 k t266 t269 a2 t272 t276 t279 t282 true)) else (tillerlaw03_VecPlaces.j0 k t266 t269 a2 t272 t276 t279 t282 true)) else (tillerlaw03_VecPlaces.j0 k t266 t269 a2 t272 t276 t279 t282 true)) else (if (t272.length : Int) = 0 then (if (t276.length : Int) = (t266.length : Int) then (if (t279.length : Int) = (t266.length : Int) then ((vec_Argmax.f k t266).bind fun t286 => ((tillerref03_Argmax.f k t266).bind fun t287 => (tillerlaw03_VecPlaces.j0 k t266 t269 a2 t272 t276 t279 t282 (t286 != t287)))) else (tillerlaw03_VecPlaces.j0 k t266 t269 a2 t272 t276 t279 t282 true)) else (tillerlaw03_VecPlaces.j0 k t266 t269 a2 t272 t276 t279 t282 true)) else (tillerlaw03_VecPlaces.j0 k t266 t269 a2 t272 t276 t279 t282 true))) else (tillerlaw03_VecPlaces.j0 k t266 t269 a2 t272 t276 t279 t282 true)) else (tillerlaw03_VecPlaces.j0 k t266 t269 a2 t272 t276 t279 t282 true)))))) = some r := H
 have A6 := Aside0.mk A60
 clear A60
 replace H := Option.bind_eq_some_iff.mp H
 obtain ⟨t276, A70, H⟩ := H
 replace H : ((vec_Rise.f k t266).bind fun t279 => ((tillerref03_Fit.f k t266 t269).bind fun t282 => ((tillerlaw03_awake.f k).bind fun t283 => (if t283 = true then (if t273 = t282 then (if t282 = 0 then (if (t272.length : Int) = (t266.length : Int) then (if (t276.length : Int) = (t266.length : Int) then (if (t279.length : Int) = (t266.length : Int) then ((vec_Argmax.f k t266).bind fun t284 => ((tillerref03_Argmax.f k t266).bind fun t285 => (tillerlaw03_VecPlaces.j0 k t266 t269 a2 t272 t276 t279 t282 (t284 != t285)))) else (tillerlaw03_VecPlaces.j0 k t266 t269 a2 t272 t276 t279 t282 true)) else (tillerlaw03_VecPlaces.j0 k t266 t269 a2 t272 t276 t279 t282 true)) else (tillerlaw03_VecPlaces.j0 k t266 t269 a2 t272 t276 t279 t282 true)) else (if (t272.length : Int) = 0 then (if (t276.length : Int) = (t266.length : Int) then (if (t279.length : Int) = (t266.length : Int) then ((vec_Argmax.f k t266).bind fun t286 => ((tillerref03_Argmax.f k t266).bind fun t287 => (tillerlaw03_VecPlaces.j0 k t266 t269 a2 t272 t276 t279 t282 (t286 != t287)))) else (tillerlaw03_VecPlaces.j0 k t266 t269 a2 t272 t276 t279 t282 true)) else (tillerlaw03_VecPlaces.j0 k t266 t269 a2 t272 t276 t279 t282 true)) else (tillerlaw03_VecPlaces.j0 k t266 t269 a2 t272 t276 t279 t282 true))) else (tillerlaw03_VecPlaces.j0 k t266 t269 a2 t272 t276 t279 t282 true)) else (tillerlaw03_VecPlaces.j0 k t266 t269 a2 t272 t276 t279 t282 true))))) = some r := H
 have A7 := Aside0.mk A70
 clear A70
 replace H := Option.bind_eq_some_iff.mp H
 obtain ⟨t279, A80, H⟩ := H
 replace H : ((tillerref03_Fit.f k t266 t269).bind fun t282 => ((tillerlaw03_awake.f k).bind fun t283 => (if t283 = true then (if t273 = t282 then (if t282 = 0 then (if (t272.length : Int) = (t266.length : Int) then (if (t276.length : Int) = (t266.length : Int) then (if (t279.length : Int) = (t266.length : Int) then ((vec_Argmax.f k t266).bind fun t284 => ((tillerref03_Argmax.f k t266).bind fun t285 => (tillerlaw03_VecPlaces.j0 k t266 t269 a2 t272 t276 t279 t282 (t284 != t285)))) else (tillerlaw03_VecPlaces.j0 k t266 t269 a2 t272 t276 t279 t282 true)) else (tillerlaw03_VecPlaces.j0 k t266 t269 a2 t272 t276 t279 t282 true)) else (tillerlaw03_VecPlaces.j0 k t266 t269 a2 t272 t276 t279 t282 true)) else (if (t272.length : Int) = 0 then (if (t276.length : Int) = (t266.length : Int) then (if (t279.length : Int) = (t266.length : Int) then ((vec_Argmax.f k t266).bind fun t286 => ((tillerref03_Argmax.f k t266).bind fun t287 => (tillerlaw03_VecPlaces.j0 k t266 t269 a2 t272 t276 t279 t282 (t286 != t287)))) else (tillerlaw03_VecPlaces.j0 k t266 t269 a2 t272 t276 t279 t282 true)) else (tillerlaw03_VecPlaces.j0 k t266 t269 a2 t272 t276 t279 t282 true)) else (tillerlaw03_VecPlaces.j0 k t266 t269 a2 t272 t276 t279 t282 true))) else (tillerlaw03_VecPlaces.j0 k t266 t269 a2 t272 t276 t279 t282 true)) else (tillerlaw03_VecPlaces.j0 k t266 t269 a2 t272 t276 t279 t282 true)))) = some r := H
 have A8 := Aside0.mk A80
 clear A80
 replace H := Option.bind_eq_some_iff.mp H
 obtain ⟨t282, A90, H⟩ := H
 replace H : ((tillerlaw03_awake.f k).bind fun t283 => (if t283 = true then (if t273 = t282 then (if t282 = 0 then (if (t272.length : Int) = (t266.length : Int) then (if (t276.length : Int) = (t266.length : Int) then (if (t279.length : Int) = (t266.length : Int) then ((vec_Argmax.f k t266).bind fun t284 => ((tillerref03_Argmax.f k t266).bind fun t285 => (tillerlaw03_VecPlaces.j0 k t266 t269 a2 t272 t276 t279 t282 (t284 != t285)))) else (tillerlaw03_VecPlaces.j0 k t266 t269 a2 t272 t276 t279 t282 true)) else (tillerlaw03_VecPlaces.j0 k t266 t269 a2 t272 t276 t279 t282 true)) else (tillerlaw03_VecPlaces.j0 k t266 t269 a2 t272 t276 t279 t282 true)) else (if (t272.length : Int) = 0 then (if (t276.length : Int) = (t266.length : Int) then (if (t279.length : Int) = (t266.length : Int) then ((vec_Argmax.f k t266).bind fun t286 => ((tillerref03_Argmax.f k t266).bind fun t287 => (tillerlaw03_VecPlaces.j0 k t266 t269 a2 t272 t276 t279 t282 (t286 != t287)))) else (tillerlaw03_VecPlaces.j0 k t266 t269 a2 t272 t276 t279 t282 true)) else (tillerlaw03_VecPlaces.j0 k t266 t269 a2 t272 t276 t279 t282 true)) else (tillerlaw03_VecPlaces.j0 k t266 t269 a2 t272 t276 t279 t282 true))) else (tillerlaw03_VecPlaces.j0 k t266 t269 a2 t272 t276 t279 t282 true)) else (tillerlaw03_VecPlaces.j0 k t266 t269 a2 t272 t276 t279 t282 true))) = some r := H
 have A9 := Aside0.mk A90
 clear A90
 have HC10 := Aside0.mk H
 clear H
 go_enter Try.func6, Try.ntmps6
 go_upto_region 5 with (first | ((with_reducible refine gate_callee (f := 13) rfl ?_); refine goesL_ (some 15) rfl rfl Try.func13 (by kernel_rfl) rfl #[.slice A0 l0.length c0, .int .i64 5000] rfl (by (try simp only [List.map_toArray, List.map_cons, List.map_nil]); first | done | rfl | (simp only [List.length_drop, List.length_take]; rfl)) ?_; (with_reducible refine (tillerlaw03_Few.calls _ _ l0 5000 t266 _ ?side1 ?side2 A4.out).mono ?_); (case side1 => repeat (first | exact HR0.out | (with_reducible refine Kd.C_alloc ?_ _) | (with_reducible refine Kd.C_drewN ?_ _) | (with_reducible refine Kd.C_drew ?_))); (case side2 => exact HC0.out); rintro e w11 ⟨v267, rfl, ho0, hb⟩; refine ⟨_, rfl, ?_⟩; have n0_ := Aside0.mk (Kd.R_lower ho0 (below_size (by repeat (first | (with_reducible first | exact HB.out | apply below_alloc | apply pw_below_drewN | apply below_drew1) | exact HB.out)))); have n1_ := Aside0.mk (below_step (by repeat (first | (with_reducible first | exact HB.out | apply below_alloc | apply pw_below_drewN | apply below_drew1) | exact HB.out)) hb); clear HB; have HO268 := n0_; have HB := n1_; clear n0_ n1_; (try clear hb); (try clear hb2); (try clear hk); (try clear hi); (try clear ho0)) | ((with_reducible refine gate_callee (f := 13) rfl ?_); refine goesL_ (some 17) rfl rfl Try.func13 (by kernel_rfl) rfl #[.slice A1 l1.length c1, .int .i64 5000] rfl (by (try simp only [List.map_toArray, List.map_cons, List.map_nil]); first | done | rfl | (simp only [List.length_drop, List.length_take]; rfl)) ?_; (with_reducible refine (tillerlaw03_Few.calls _ _ l1 5000 t269 _ ?side1 ?side2 A5.out).mono ?_); (case side1 => repeat (first | exact (Kd.C_below HR1.out HB.out) | (with_reducible refine Kd.C_alloc ?_ _) | (with_reducible refine Kd.C_drewN ?_ _) | (with_reducible refine Kd.C_drew ?_))); (case side2 => exact HC1.out); rintro e w12 ⟨v270, rfl, ho0, hb⟩; refine ⟨_, rfl, ?_⟩; have n0_ := Aside0.mk (Kd.R_elder' (by (with_reducible repeat (first | apply Kd.R_alloc | apply Kd.R_drewN | apply Kd.R_drew)); exact HO268.out) (Kd.R_base ho0) hb); have n1_ := Aside0.mk (Kd.R_lower (Kd.R_new' ho0 (Kd.R_lt (by (with_reducible repeat (first | apply Kd.R_alloc | apply Kd.R_drewN | apply Kd.R_drew)); exact HO268.out))) (below_size (by repeat (first | (with_reducible first | exact HB.out | apply below_alloc | apply pw_below_drewN | apply below_drew1) | exact HB.out)))); have n2_ := Aside0.mk (below_step (by repeat (first | (with_reducible first | exact HB.out | apply below_alloc | apply pw_below_drewN | apply below_drew1) | exact HB.out)) hb); clear HO268; clear HB; have HO268 := n0_; have HO271 := n1_; have HB := n2_; clear n0_ n1_ n2_; (try clear hb); (try clear hb2); (try clear hk); (try clear hi); (try clear ho0); obtain ⟨Ao13, co13, eo13⟩ := Kd.R_slice HO268.out; subst eo13; obtain ⟨Ao14, co14, eo14⟩ := Kd.R_slice HO271.out; subst eo14) | ((with_reducible refine gate_callee (f := 22) rfl ?_); refine goesL_ (some 21) rfl rfl Try.func22 (by kernel_rfl) rfl #[.slice Ao13 t266.length co13, .slice Ao14 t269.length co14] rfl (by (try simp only [List.map_toArray, List.map_cons, List.map_nil]); first | done | rfl | (simp only [List.length_drop, List.length_take]; rfl)) ?_; (with_reducible refine (vec_Add.calls k _ _ t266 _ _ t269 t272 t273 _ ?side1 ?side2 ?side3 ?side4 A6.out).mono ?_); (case side1 => repeat (first | exact (Kd.R_reads' HO268.out).2.2 | (with_reducible refine Kd.C_alloc ?_ _) | (with_reducible refine Kd.C_drewN ?_ _) | (with_reducible refine Kd.C_drew ?_))); (case side2 => exact (Kd.R_reads' HO268.out).2.1); (case side3 => repeat (first | exact (Kd.R_reads' HO271.out).2.2 | (with_reducible refine Kd.C_alloc ?_ _) | (with_reducible refine Kd.C_drewN ?_ _) | (with_reducible refine Kd.C_drew ?_))); (case side4 => exact (Kd.R_reads' HO271.out).2.1); rintro e w15 ⟨v274, rfl, ho0, hb⟩; refine ⟨_, rfl, ?_⟩; have n0_ := Aside0.mk (Kd.R_elder' (by (with_reducible repeat (first | apply Kd.R_alloc | apply Kd.R_drewN | apply Kd.R_drew)); exact HO268.out) (Kd.R_base ho0) hb); have n1_ := Aside0.mk (Kd.R_elder' (by (with_reducible repeat (first | apply Kd.R_alloc | apply Kd.R_drewN | apply Kd.R_drew)); exact HO271.out) (Kd.R_base ho0) hb); have n2_ := Aside0.mk (Kd.R_lower (Kd.R_new' (Kd.R_new' ho0 (Kd.R_lt (by (with_reducible repeat (first | apply Kd.R_alloc | apply Kd.R_drewN | apply Kd.R_drew)); exact HO268.out))) (Kd.R_lt (by (with_reducible repeat (first | apply Kd.R_alloc | apply Kd.R_drewN | apply Kd.R_drew)); exact HO271.out))) (below_size (by repeat (first | (with_reducible first | exact HB.out | apply below_alloc | apply pw_below_drewN | apply below_drew1) | exact HB.out)))); have n3_ := Aside0.mk (below_step (by repeat (first | (with_reducible first | exact HB.out | apply below_alloc | apply pw_below_drewN | apply below_drew1) | exact HB.out)) hb); clear HO268; clear HO271; clear HB; have HO268 := n0_; have HO271 := n1_; have HO275 := n2_; have HB := n3_; clear n0_ n1_ n2_ n3_; (try clear hb); (try clear hb2); (try clear hk); (try clear hi); (try clear ho0)) | ((with_reducible refine gate_callee (f := 23) rfl ?_); refine goesL_ (some 26) rfl rfl Try.func23 (by kernel_rfl) rfl #[.slice Ao13 t266.length co13, .int .i32 a2] rfl (by (try simp only [List.map_toArray, List.map_cons, List.map_nil]); first | done | rfl | (simp only [List.length_drop, List.length_take]; rfl)) ?_; (with_reducible refine (vec_Scale.calls k _ _ t266 a2 t276 _ ?side1 ?side2 A7.out).mono ?_); (case side1 => repeat (first | exact (Kd.R_reads' HO268.out).2.2 | (with_reducible refine Kd.C_alloc ?_ _) | (with_reducible refine Kd.C_drewN ?_ _) | (with_reducible refine Kd.C_drew ?_))); (case side2 => exact (Kd.R_reads' HO268.out).2.1); rintro e w16 ⟨v277, rfl, ho0, hb⟩; refine ⟨_, rfl, ?_⟩; have n0_ := Aside0.mk (Kd.R_elder' (by (with_reducible repeat (first | apply Kd.R_alloc | apply Kd.R_drewN | apply Kd.R_drew)); exact HO268.out) (Kd.R_base ho0) hb); have n1_ := Aside0.mk (Kd.R_elder' (by (with_reducible repeat (first | apply Kd.R_alloc | apply Kd.R_drewN | apply Kd.R_drew)); exact HO271.out) (Kd.R_base ho0) hb); have n2_ := Aside0.mk (Kd.R_elder' (by (with_reducible repeat (first | apply Kd.R_alloc | apply Kd.R_drewN | apply Kd.R_drew)); exact HO275.out) (Kd.R_base ho0) hb); have n3_ := Aside0.mk (Kd.R_lower (Kd.R_new' (Kd.R_new' (Kd.R_new' ho0 (Kd.R_lt (by (with_reducible repeat (first | apply Kd.R_alloc | apply Kd.R_drewN | apply Kd.R_drew)); exact HO268.out))) (Kd.R_lt (by (with_reducible repeat (first | apply Kd.R_alloc | apply Kd.R_drewN | apply Kd.R_drew)); exact HO271.out))) (Kd.R_lt (by (with_reducible repeat (first | apply Kd.R_alloc | apply Kd.R_drewN | apply Kd.R_drew)); exact HO275.out))) (below_size (by repeat (first | (with_reducible first | exact HB.out | apply below_alloc | apply pw_below_drewN | apply below_drew1) | exact HB.out)))); have n4_ := Aside0.mk (below_step (by repeat (first | (with_reducible first | exact HB.out | apply below_alloc | apply pw_below_drewN | apply below_drew1) | exact HB.out)) hb); clear HO268; clear HO271; clear HO275; clear HB; have HO268 := n0_; have HO271 := n1_; have HO275 := n2_; have HO278 := n3_; have HB := n4_; clear n0_ n1_ n2_ n3_ n4_; (try clear hb); (try clear hb2); (try clear hk); (try clear hi); (try clear ho0)) | ((with_reducible refine gate_callee (f := 24) rfl ?_); refine goesL_ (some 28) rfl rfl Try.func24 (by kernel_rfl) rfl #[.slice Ao13 t266.length co13] rfl (by (try simp only [List.map_toArray, List.map_cons, List.map_nil]); first | done | rfl | (simp only [List.length_drop, List.length_take]; rfl)) ?_; (with_reducible refine (vec_Rise.calls k _ _ t266 t279 _ ?side1 ?side2 A8.out).mono ?_); (case side1 => repeat (first | exact (Kd.R_reads' HO268.out).2.2 | (with_reducible refine Kd.C_alloc ?_ _) | (with_reducible refine Kd.C_drewN ?_ _) | (with_reducible refine Kd.C_drew ?_))); (case side2 => exact (Kd.R_reads' HO268.out).2.1); rintro e w17 ⟨v280, rfl, ho0, hb⟩; refine ⟨_, rfl, ?_⟩; have n0_ := Aside0.mk (Kd.R_elder' (by (with_reducible repeat (first | apply Kd.R_alloc | apply Kd.R_drewN | apply Kd.R_drew)); exact HO268.out) (Kd.R_base ho0) hb); have n1_ := Aside0.mk (Kd.R_elder' (by (with_reducible repeat (first | apply Kd.R_alloc | apply Kd.R_drewN | apply Kd.R_drew)); exact HO271.out) (Kd.R_base ho0) hb); have n2_ := Aside0.mk (Kd.R_elder' (by (with_reducible repeat (first | apply Kd.R_alloc | apply Kd.R_drewN | apply Kd.R_drew)); exact HO275.out) (Kd.R_base ho0) hb); have n3_ := Aside0.mk (Kd.R_elder' (by (with_reducible repeat (first | apply Kd.R_alloc | apply Kd.R_drewN | apply Kd.R_drew)); exact HO278.out) (Kd.R_base ho0) hb); have n4_ := Aside0.mk (Kd.R_lower (Kd.R_new' (Kd.R_new' (Kd.R_new' (Kd.R_new' ho0 (Kd.R_lt (by (with_reducible repeat (first | apply Kd.R_alloc | apply Kd.R_drewN | apply Kd.R_drew)); exact HO268.out))) (Kd.R_lt (by (with_reducible repeat (first | apply Kd.R_alloc | apply Kd.R_drewN | apply Kd.R_drew)); exact HO271.out))) (Kd.R_lt (by (with_reducible repeat (first | apply Kd.R_alloc | apply Kd.R_drewN | apply Kd.R_drew)); exact HO275.out))) (Kd.R_lt (by (with_reducible repeat (first | apply Kd.R_alloc | apply Kd.R_drewN | apply Kd.R_drew)); exact HO278.out))) (below_size (by repeat (first | (with_reducible first | exact HB.out | apply below_alloc | apply pw_below_drewN | apply below_drew1) | exact HB.out)))); have n5_ := Aside0.mk (below_step (by repeat (first | (with_reducible first | exact HB.out | apply below_alloc | apply pw_below_drewN | apply below_drew1) | exact HB.out)) hb); clear HO268; clear HO271; clear HO275; clear HO278; clear HB; have HO268 := n0_; have HO271 := n1_; have HO275 := n2_; have HO278 := n3_; have HO281 := n4_; have HB := n5_; clear n0_ n1_ n2_ n3_ n4_ n5_; (try clear hb); (try clear hb2); (try clear hk); (try clear hi); (try clear ho0)) | ((with_reducible refine gate_callee (f := 15) rfl ?_); refine goesL_ (some 31) rfl rfl Try.func15 (by kernel_rfl) rfl #[.slice Ao13 t266.length co13, .slice Ao14 t269.length co14] rfl (by (try simp only [List.map_toArray, List.map_cons, List.map_nil]); first | done | rfl | (simp only [List.length_drop, List.length_take]; rfl)) ?_; (with_reducible refine (tillerref03_Fit.calls k _ _ t266 _ _ t269 t282 _ ?side1 ?side2 ?side3 ?side4 A9.out).mono ?_); (case side1 => repeat (first | exact (Kd.R_reads' HO268.out).2.2 | (with_reducible refine Kd.C_alloc ?_ _) | (with_reducible refine Kd.C_drewN ?_ _) | (with_reducible refine Kd.C_drew ?_))); (case side2 => exact (Kd.R_reads' HO268.out).2.1); (case side3 => repeat (first | exact (Kd.R_reads' HO271.out).2.2 | (with_reducible refine Kd.C_alloc ?_ _) | (with_reducible refine Kd.C_drewN ?_ _) | (with_reducible refine Kd.C_drew ?_))); (case side4 => exact (Kd.R_reads' HO271.out).2.1); rintro e w' ⟨rfl, ⟨nd, rfl⟩⟩; refine ⟨_, rfl, ?_⟩))
 (try simp only [Act.put, List.setIfInBounds_toArray, List.set_cons_zero, List.set_cons_succ])
 go_cut [79] (fun v79 wc => ∃ (kq : Nat) (x79_9 : Bool), v79 = .bool x79_9 ∧ Aside0 (tillerlaw03_VecPlaces.j0 kq t266 t269 a2 t272 t276 t279 t282 x79_9 = some r) ∧ Aside0 (kq ≤ k) ∧ Aside0 (Kd.R (Kd.int .i32) 24 wc w.heap.size (fun k_ => some k_ ≠ ((.slice Ao14 t269.length co14) : Value).ownBlock ∧ some k_ ≠ (v274 : Value).ownBlock ∧ some k_ ≠ (v277 : Value).ownBlock ∧ some k_ ≠ (v280 : Value).ownBlock) (.slice Ao13 t266.length co13) t266) ∧ Aside0 (Kd.R (Kd.int .i32) 24 wc w.heap.size (fun k_ => some k_ ≠ ((.slice Ao13 t266.length co13) : Value).ownBlock ∧ some k_ ≠ (v274 : Value).ownBlock ∧ some k_ ≠ (v277 : Value).ownBlock ∧ some k_ ≠ (v280 : Value).ownBlock) (.slice Ao14 t269.length co14) t269) ∧ Aside0 (Kd.R (Kd.int .i32) 24 wc w.heap.size (fun k_ => some k_ ≠ ((.slice Ao13 t266.length co13) : Value).ownBlock ∧ some k_ ≠ ((.slice Ao14 t269.length co14) : Value).ownBlock ∧ some k_ ≠ (v277 : Value).ownBlock ∧ some k_ ≠ (v280 : Value).ownBlock) v274 t272) ∧ Aside0 (Kd.R (Kd.int .i32) 24 wc w.heap.size (fun k_ => some k_ ≠ ((.slice Ao13 t266.length co13) : Value).ownBlock ∧ some k_ ≠ ((.slice Ao14 t269.length co14) : Value).ownBlock ∧ some k_ ≠ (v274 : Value).ownBlock ∧ some k_ ≠ (v280 : Value).ownBlock) v277 t276) ∧ Aside0 (Kd.R (Kd.int .i32) 24 wc w.heap.size (fun k_ => some k_ ≠ ((.slice Ao13 t266.length co13) : Value).ownBlock ∧ some k_ ≠ ((.slice Ao14 t269.length co14) : Value).ownBlock ∧ some k_ ≠ (v274 : Value).ownBlock ∧ some k_ ≠ (v277 : Value).ownBlock) v280 t279) ∧ Aside0 (Below w.heap.size w wc))
 case first =>
  have H := HC10.out
  clear HC10
  replace H := Option.bind_eq_some_iff.mp H
  obtain ⟨t283, A180, H⟩ := H
  replace H : (if t283 = true then (if t273 = t282 then (if t282 = 0 then (if (t272.length : Int) = (t266.length : Int) then (if (t276.length : Int) = (t266.length : Int) then (if (t279.length : Int) = (t266.length : Int) then ((vec_Argmax.f k t266).bind fun t284 => ((tillerref03_Argmax.f k t266).bind fun t285 => (tillerlaw03_VecPlaces.j0 k t266 t269 a2 t272 t276 t279 t282 (t284 != t285)))) else (tillerlaw03_VecPlaces.j0 k t266 t269 a2 t272 t276 t279 t282 true)) else (tillerlaw03_VecPlaces.j0 k t266 t269 a2 t272 t276 t279 t282 true)) else (tillerlaw03_VecPlaces.j0 k t266 t269 a2 t272 t276 t279 t282 true)) else (if (t272.length : Int) = 0 then (if (t276.length : Int) = (t266.length : Int) then (if (t279.length : Int) = (t266.length : Int) then ((vec_Argmax.f k t266).bind fun t286 => ((tillerref03_Argmax.f k t266).bind fun t287 => (tillerlaw03_VecPlaces.j0 k t266 t269 a2 t272 t276 t279 t282 (t286 != t287)))) else (tillerlaw03_VecPlaces.j0 k t266 t269 a2 t272 t276 t279 t282 true)) else (tillerlaw03_VecPlaces.j0 k t266 t269 a2 t272 t276 t279 t282 true)) else (tillerlaw03_VecPlaces.j0 k t266 t269 a2 t272 t276 t279 t282 true))) else (tillerlaw03_VecPlaces.j0 k t266 t269 a2 t272 t276 t279 t282 true)) else (tillerlaw03_VecPlaces.j0 k t266 t269 a2 t272 t276 t279 t282 true)) = some r := H
  have A18 := Aside0.mk A180
  clear A180
  by_cases c19 : t283 = true
  ·subst c19
   have H1 : (if t273 = t282 then (if t282 = 0 then (if (t272.length : Int) = (t266.length : Int) then (if (t276.length : Int) = (t266.length : Int) then (if (t279.length : Int) = (t266.length : Int) then ((vec_Argmax.f k t266).bind fun t284 => ((tillerref03_Argmax.f k t266).bind fun t285 => (tillerlaw03_VecPlaces.j0 k t266 t269 a2 t272 t276 t279 t282 (t284 != t285)))) else (tillerlaw03_VecPlaces.j0 k t266 t269 a2 t272 t276 t279 t282 true)) else (tillerlaw03_VecPlaces.j0 k t266 t269 a2 t272 t276 t279 t282 true)) else (tillerlaw03_VecPlaces.j0 k t266 t269 a2 t272 t276 t279 t282 true)) else (if (t272.length : Int) = 0 then (if (t276.length : Int) = (t266.length : Int) then (if (t279.length : Int) = (t266.length : Int) then ((vec_Argmax.f k t266).bind fun t286 => ((tillerref03_Argmax.f k t266).bind fun t287 => (tillerlaw03_VecPlaces.j0 k t266 t269 a2 t272 t276 t279 t282 (t286 != t287)))) else (tillerlaw03_VecPlaces.j0 k t266 t269 a2 t272 t276 t279 t282 true)) else (tillerlaw03_VecPlaces.j0 k t266 t269 a2 t272 t276 t279 t282 true)) else (tillerlaw03_VecPlaces.j0 k t266 t269 a2 t272 t276 t279 t282 true))) else (tillerlaw03_VecPlaces.j0 k t266 t269 a2 t272 t276 t279 t282 true)) = some r := by rw [if_pos rfl] at H; exact H
   clear H
   have H := H1
   clear H1
   by_cases c20 : t273 = t282
   ·rw [if_pos c20] at H
    have c20b0 : (t273 == t282) = true := beq_iff_eq.mpr c20
    have c20b1 : (t273 != t282) = false := bne_eq_false_iff_eq.mpr c20
    clear c20
    (first | rw [c20b0] | (simp only [i64_w, i32_w]; rw [c20b0]) | skip)
    by_cases c21 : t282 = 0
    ·rw [if_pos c21] at H
     have c21b0 : (t282 == 0) = true := beq_iff_eq.mpr c21
     have c21b1 : (t282 != 0) = false := bne_eq_false_iff_eq.mpr c21
     clear c21
     by_cases c22 : (t272.length : Int) = (t266.length : Int)
     ·rw [if_pos c22] at H
      have c22b0 : ((t272.length : Int) == (t266.length : Int)) = true := beq_iff_eq.mpr c22
      have c22b1 : ((t272.length : Int) != (t266.length : Int)) = false := bne_eq_false_iff_eq.mpr c22
      have c22b2 : (t272.length == t266.length) = true := by first | simpa using c22 | (simp at c22 ⊢; omega)
      clear c22
      by_cases c23 : (t276.length : Int) = (t266.length : Int)
      ·rw [if_pos c23] at H
       have c23b0 : ((t276.length : Int) == (t266.length : Int)) = true := beq_iff_eq.mpr c23
       have c23b1 : ((t276.length : Int) != (t266.length : Int)) = false := bne_eq_false_iff_eq.mpr c23
       have c23b2 : (t276.length == t266.length) = true := by first | simpa using c23 | (simp at c23 ⊢; omega)
       clear c23
       by_cases c24 : (t279.length : Int) = (t266.length : Int)
       ·rw [if_pos c24] at H
        have c24b0 : ((t279.length : Int) == (t266.length : Int)) = true := beq_iff_eq.mpr c24
        have c24b1 : ((t279.length : Int) != (t266.length : Int)) = false := bne_eq_false_iff_eq.mpr c24
        have c24b2 : (t279.length == t266.length) = true := by first | simpa using c24 | (simp at c24 ⊢; omega)
        clear c24
        replace H := Option.bind_eq_some_iff.mp H
        obtain ⟨t284, A250, H⟩ := H
        replace H : ((tillerref03_Argmax.f k t266).bind fun t285 => (tillerlaw03_VecPlaces.j0 k t266 t269 a2 t272 t276 t279 t282 (t284 != t285))) = some r := H
        have A25 := Aside0.mk A250
        clear A250
        replace H := Option.bind_eq_some_iff.mp H
        obtain ⟨t285, A260, H⟩ := H
        replace H : (tillerlaw03_VecPlaces.j0 k t266 t269 a2 t272 t276 t279 t282 (t284 != t285)) = some r := H
        have A26 := Aside0.mk A260
        clear A260
        have H' := Aside0.mk H
        clear H
        go_wp2_with (first | ((with_reducible refine gate_callee (f := 16) rfl ?_); refine goesL_ (some 32) rfl rfl Try.func16 (by kernel_rfl) rfl #[] rfl (by (try simp only [List.map_toArray, List.map_cons, List.map_nil]); first | done | rfl | (simp only [List.length_drop, List.length_take]; rfl)) ?_; (with_reducible refine (tillerlaw03_awake.calls k  true _ A18.out).mono ?_); rintro e w27 ⟨rfl, hb⟩; refine ⟨_, rfl, ?_⟩; have n0_ := Aside0.mk (Kd.R_below (by (with_reducible repeat (first | apply Kd.R_alloc | apply Kd.R_drewN | apply Kd.R_drew)); exact HO268.out) hb); have n1_ := Aside0.mk (Kd.R_below (by (with_reducible repeat (first | apply Kd.R_alloc | apply Kd.R_drewN | apply Kd.R_drew)); exact HO271.out) hb); have n2_ := Aside0.mk (Kd.R_below (by (with_reducible repeat (first | apply Kd.R_alloc | apply Kd.R_drewN | apply Kd.R_drew)); exact HO275.out) hb); have n3_ := Aside0.mk (Kd.R_below (by (with_reducible repeat (first | apply Kd.R_alloc | apply Kd.R_drewN | apply Kd.R_drew)); exact HO278.out) hb); have n4_ := Aside0.mk (Kd.R_below (by (with_reducible repeat (first | apply Kd.R_alloc | apply Kd.R_drewN | apply Kd.R_drew)); exact HO281.out) hb); have n5_ := Aside0.mk (below_step (by repeat (first | (with_reducible first | exact HB.out | apply below_alloc | apply pw_below_drewN | apply below_drew1) | exact HB.out)) hb); clear HO268; clear HO271; clear HO275; clear HO278; clear HO281; clear HB; have HO268 := n0_; have HO271 := n1_; have HO275 := n2_; have HO278 := n3_; have HO281 := n4_; have HB := n5_; clear n0_ n1_ n2_ n3_ n4_ n5_; (try clear hb); (try clear hb2); (try clear hk); (try clear hi); obtain ⟨Ao28, co28, eo28⟩ := Kd.R_slice HO275.out; subst eo28; obtain ⟨Ao29, co29, eo29⟩ := Kd.R_slice HO278.out; subst eo29; obtain ⟨Ao30, co30, eo30⟩ := Kd.R_slice HO281.out; subst eo30) | (go_at_call 21; (with_reducible refine (vec_Argmax.calls k _ _ t266 t284 _ ?side1 ?side2 A25.out).mono ?_); (case side1 => repeat (first | exact (Kd.R_reads' HO268.out).2.2 | (with_reducible refine Kd.C_alloc ?_ _) | (with_reducible refine Kd.C_drewN ?_ _) | (with_reducible refine Kd.C_drew ?_))); (case side2 => exact (Kd.R_reads' HO268.out).2.1); rintro e w31 ⟨rfl, hb⟩; have n0_ := Aside0.mk (Kd.R_below (by (with_reducible repeat (first | apply Kd.R_alloc | apply Kd.R_drewN | apply Kd.R_drew)); exact HO268.out) hb); have n1_ := Aside0.mk (Kd.R_below (by (with_reducible repeat (first | apply Kd.R_alloc | apply Kd.R_drewN | apply Kd.R_drew)); exact HO271.out) hb); have n2_ := Aside0.mk (Kd.R_below (by (with_reducible repeat (first | apply Kd.R_alloc | apply Kd.R_drewN | apply Kd.R_drew)); exact HO275.out) hb); have n3_ := Aside0.mk (Kd.R_below (by (with_reducible repeat (first | apply Kd.R_alloc | apply Kd.R_drewN | apply Kd.R_drew)); exact HO278.out) hb); have n4_ := Aside0.mk (Kd.R_below (by (with_reducible repeat (first | apply Kd.R_alloc | apply Kd.R_drewN | apply Kd.R_drew)); exact HO281.out) hb); have n5_ := Aside0.mk (below_step (by repeat (first | (with_reducible first | exact HB.out | apply below_alloc | apply pw_below_drewN | apply below_drew1) | exact HB.out)) hb); clear HO268; clear HO271; clear HO275; clear HO278; clear HO281; clear HB; have HO268 := n0_; have HO271 := n1_; have HO275 := n2_; have HO278 := n3_; have HO281 := n4_; have HB := n5_; clear n0_ n1_ n2_ n3_ n4_ n5_; (try clear hb); (try clear hb2); (try clear hk); (try clear hi)) | (go_at_call 25; (with_reducible refine (tillerref03_Argmax.calls k _ _ t266 t285 _ ?side1 ?side2 A26.out).mono ?_); (case side1 => repeat (first | exact (Kd.R_reads' HO268.out).2.2 | (with_reducible refine Kd.C_alloc ?_ _) | (with_reducible refine Kd.C_drewN ?_ _) | (with_reducible refine Kd.C_drew ?_))); (case side2 => exact (Kd.R_reads' HO268.out).2.1); rintro e w' ⟨rfl, ⟨nd, rfl⟩⟩))
        go_meet
        case rel => exact ⟨_, ((t284 != t285)), (by first | rfl | (simp; done) | (simp [*]; done)), H', ⟨by first | omega | exact Nat.le_refl _⟩, ⟨by (with_reducible repeat (first | apply Kd.R_alloc | apply Kd.R_drewN | apply Kd.R_drew)); exact Kd.R_mono HO268.out (fun _ hk => ⟨hk.1.1.1.2, ⟨hk.1.1.2, ⟨hk.1.2, hk.2⟩⟩⟩)⟩, ⟨by (with_reducible repeat (first | apply Kd.R_alloc | apply Kd.R_drewN | apply Kd.R_drew)); exact Kd.R_mono HO271.out (fun _ hk => ⟨hk.1.1.1.2, ⟨hk.1.1.2, ⟨hk.1.2, hk.2⟩⟩⟩)⟩, ⟨by (with_reducible repeat (first | apply Kd.R_alloc | apply Kd.R_drewN | apply Kd.R_drew)); exact Kd.R_mono HO275.out (fun _ hk => ⟨hk.1.1.1.2, ⟨hk.1.1.2, ⟨hk.1.2, hk.2⟩⟩⟩)⟩, ⟨by (with_reducible repeat (first | apply Kd.R_alloc | apply Kd.R_drewN | apply Kd.R_drew)); exact Kd.R_mono HO278.out (fun _ hk => ⟨hk.1.1.1.2, ⟨hk.1.1.2, ⟨hk.1.2, hk.2⟩⟩⟩)⟩, ⟨by (with_reducible repeat (first | apply Kd.R_alloc | apply Kd.R_drewN | apply Kd.R_drew)); exact Kd.R_mono HO281.out (fun _ hk => ⟨hk.1.1.1.2, ⟨hk.1.1.2, ⟨hk.1.2, hk.2⟩⟩⟩)⟩, ⟨by repeat (first | (with_reducible first | exact HB.out | apply below_alloc | apply pw_below_drewN | apply below_drew1) | exact HB.out)⟩⟩
       ·rw [if_neg c24] at H
        have c24b0 : ((t279.length : Int) == (t266.length : Int)) = false := beq_eq_false_iff_ne.mpr c24
        have c24b1 : ((t279.length : Int) != (t266.length : Int)) = true := bne_iff_ne.mpr c24
        have c24b2 : (t279.length == t266.length) = false := by first | simpa using c24 | (simp at c24 ⊢; omega)
        have H' := Aside0.mk H
        clear H
        go_wp2_with (first | ((with_reducible refine gate_callee (f := 16) rfl ?_); refine goesL_ (some 32) rfl rfl Try.func16 (by kernel_rfl) rfl #[] rfl (by (try simp only [List.map_toArray, List.map_cons, List.map_nil]); first | done | rfl | (simp only [List.length_drop, List.length_take]; rfl)) ?_; (with_reducible refine (tillerlaw03_awake.calls k  true _ A18.out).mono ?_); rintro e w32 ⟨rfl, hb⟩; refine ⟨_, rfl, ?_⟩; have n0_ := Aside0.mk (Kd.R_below (by (with_reducible repeat (first | apply Kd.R_alloc | apply Kd.R_drewN | apply Kd.R_drew)); exact HO268.out) hb); have n1_ := Aside0.mk (Kd.R_below (by (with_reducible repeat (first | apply Kd.R_alloc | apply Kd.R_drewN | apply Kd.R_drew)); exact HO271.out) hb); have n2_ := Aside0.mk (Kd.R_below (by (with_reducible repeat (first | apply Kd.R_alloc | apply Kd.R_drewN | apply Kd.R_drew)); exact HO275.out) hb); have n3_ := Aside0.mk (Kd.R_below (by (with_reducible repeat (first | apply Kd.R_alloc | apply Kd.R_drewN | apply Kd.R_drew)); exact HO278.out) hb); have n4_ := Aside0.mk (Kd.R_below (by (with_reducible repeat (first | apply Kd.R_alloc | apply Kd.R_drewN | apply Kd.R_drew)); exact HO281.out) hb); have n5_ := Aside0.mk (below_step (by repeat (first | (with_reducible first | exact HB.out | apply below_alloc | apply pw_below_drewN | apply below_drew1) | exact HB.out)) hb); clear HO268; clear HO271; clear HO275; clear HO278; clear HO281; clear HB; have HO268 := n0_; have HO271 := n1_; have HO275 := n2_; have HO278 := n3_; have HO281 := n4_; have HB := n5_; clear n0_ n1_ n2_ n3_ n4_ n5_; (try clear hb); (try clear hb2); (try clear hk); (try clear hi); obtain ⟨Ao33, co33, eo33⟩ := Kd.R_slice HO275.out; subst eo33; obtain ⟨Ao34, co34, eo34⟩ := Kd.R_slice HO278.out; subst eo34; obtain ⟨Ao35, co35, eo35⟩ := Kd.R_slice HO281.out; subst eo35))
        go_meet
        case rel => exact ⟨_, (true), (by first | rfl | (simp; done) | (simp [*]; done)), H', ⟨by first | omega | exact Nat.le_refl _⟩, ⟨by (with_reducible repeat (first | apply Kd.R_alloc | apply Kd.R_drewN | apply Kd.R_drew)); exact Kd.R_mono HO268.out (fun _ hk => ⟨hk.1.1.1.2, ⟨hk.1.1.2, ⟨hk.1.2, hk.2⟩⟩⟩)⟩, ⟨by (with_reducible repeat (first | apply Kd.R_alloc | apply Kd.R_drewN | apply Kd.R_drew)); exact Kd.R_mono HO271.out (fun _ hk => ⟨hk.1.1.1.2, ⟨hk.1.1.2, ⟨hk.1.2, hk.2⟩⟩⟩)⟩, ⟨by (with_reducible repeat (first | apply Kd.R_alloc | apply Kd.R_drewN | apply Kd.R_drew)); exact Kd.R_mono HO275.out (fun _ hk => ⟨hk.1.1.1.2, ⟨hk.1.1.2, ⟨hk.1.2, hk.2⟩⟩⟩)⟩, ⟨by (with_reducible repeat (first | apply Kd.R_alloc | apply Kd.R_drewN | apply Kd.R_drew)); exact Kd.R_mono HO278.out (fun _ hk => ⟨hk.1.1.1.2, ⟨hk.1.1.2, ⟨hk.1.2, hk.2⟩⟩⟩)⟩, ⟨by (with_reducible repeat (first | apply Kd.R_alloc | apply Kd.R_drewN | apply Kd.R_drew)); exact Kd.R_mono HO281.out (fun _ hk => ⟨hk.1.1.1.2, ⟨hk.1.1.2, ⟨hk.1.2, hk.2⟩⟩⟩)⟩, ⟨by repeat (first | (with_reducible first | exact HB.out | apply below_alloc | apply pw_below_drewN | apply below_drew1) | exact HB.out)⟩⟩
      ·rw [if_neg c23] at H
       have c23b0 : ((t276.length : Int) == (t266.length : Int)) = false := beq_eq_false_iff_ne.mpr c23
       have c23b1 : ((t276.length : Int) != (t266.length : Int)) = true := bne_iff_ne.mpr c23
       have c23b2 : (t276.length == t266.length) = false := by first | simpa using c23 | (simp at c23 ⊢; omega)
       have H' := Aside0.mk H
       clear H
       go_wp2_with (first | ((with_reducible refine gate_callee (f := 16) rfl ?_); refine goesL_ (some 32) rfl rfl Try.func16 (by kernel_rfl) rfl #[] rfl (by (try simp only [List.map_toArray, List.map_cons, List.map_nil]); first | done | rfl | (simp only [List.length_drop, List.length_take]; rfl)) ?_; (with_reducible refine (tillerlaw03_awake.calls k  true _ A18.out).mono ?_); rintro e w36 ⟨rfl, hb⟩; refine ⟨_, rfl, ?_⟩; have n0_ := Aside0.mk (Kd.R_below (by (with_reducible repeat (first | apply Kd.R_alloc | apply Kd.R_drewN | apply Kd.R_drew)); exact HO268.out) hb); have n1_ := Aside0.mk (Kd.R_below (by (with_reducible repeat (first | apply Kd.R_alloc | apply Kd.R_drewN | apply Kd.R_drew)); exact HO271.out) hb); have n2_ := Aside0.mk (Kd.R_below (by (with_reducible repeat (first | apply Kd.R_alloc | apply Kd.R_drewN | apply Kd.R_drew)); exact HO275.out) hb); have n3_ := Aside0.mk (Kd.R_below (by (with_reducible repeat (first | apply Kd.R_alloc | apply Kd.R_drewN | apply Kd.R_drew)); exact HO278.out) hb); have n4_ := Aside0.mk (Kd.R_below (by (with_reducible repeat (first | apply Kd.R_alloc | apply Kd.R_drewN | apply Kd.R_drew)); exact HO281.out) hb); have n5_ := Aside0.mk (below_step (by repeat (first | (with_reducible first | exact HB.out | apply below_alloc | apply pw_below_drewN | apply below_drew1) | exact HB.out)) hb); clear HO268; clear HO271; clear HO275; clear HO278; clear HO281; clear HB; have HO268 := n0_; have HO271 := n1_; have HO275 := n2_; have HO278 := n3_; have HO281 := n4_; have HB := n5_; clear n0_ n1_ n2_ n3_ n4_ n5_; (try clear hb); (try clear hb2); (try clear hk); (try clear hi); obtain ⟨Ao37, co37, eo37⟩ := Kd.R_slice HO275.out; subst eo37; obtain ⟨Ao38, co38, eo38⟩ := Kd.R_slice HO278.out; subst eo38))
       go_meet
       case rel => exact ⟨_, (true), (by first | rfl | (simp; done) | (simp [*]; done)), H', ⟨by first | omega | exact Nat.le_refl _⟩, ⟨by (with_reducible repeat (first | apply Kd.R_alloc | apply Kd.R_drewN | apply Kd.R_drew)); exact Kd.R_mono HO268.out (fun _ hk => ⟨hk.1.1.1.2, ⟨hk.1.1.2, ⟨hk.1.2, hk.2⟩⟩⟩)⟩, ⟨by (with_reducible repeat (first | apply Kd.R_alloc | apply Kd.R_drewN | apply Kd.R_drew)); exact Kd.R_mono HO271.out (fun _ hk => ⟨hk.1.1.1.2, ⟨hk.1.1.2, ⟨hk.1.2, hk.2⟩⟩⟩)⟩, ⟨by (with_reducible repeat (first | apply Kd.R_alloc | apply Kd.R_drewN | apply Kd.R_drew)); exact Kd.R_mono HO275.out (fun _ hk => ⟨hk.1.1.1.2, ⟨hk.1.1.2, ⟨hk.1.2, hk.2⟩⟩⟩)⟩, ⟨by (with_reducible repeat (first | apply Kd.R_alloc | apply Kd.R_drewN | apply Kd.R_drew)); exact Kd.R_mono HO278.out (fun _ hk => ⟨hk.1.1.1.2, ⟨hk.1.1.2, ⟨hk.1.2, hk.2⟩⟩⟩)⟩, ⟨by (with_reducible repeat (first | apply Kd.R_alloc | apply Kd.R_drewN | apply Kd.R_drew)); exact Kd.R_mono HO281.out (fun _ hk => ⟨hk.1.1.1.2, ⟨hk.1.1.2, ⟨hk.1.2, hk.2⟩⟩⟩)⟩, ⟨by repeat (first | (with_reducible first | exact HB.out | apply below_alloc | apply pw_below_drewN | apply below_drew1) | exact HB.out)⟩⟩
     ·rw [if_neg c22] at H
      have c22b0 : ((t272.length : Int) == (t266.length : Int)) = false := beq_eq_false_iff_ne.mpr c22
      have c22b1 : ((t272.length : Int) != (t266.length : Int)) = true := bne_iff_ne.mpr c22
      have c22b2 : (t272.length == t266.length) = false := by first | simpa using c22 | (simp at c22 ⊢; omega)
      have H' := Aside0.mk H
      clear H
      go_wp2_with (first | ((with_reducible refine gate_callee (f := 16) rfl ?_); refine goesL_ (some 32) rfl rfl Try.func16 (by kernel_rfl) rfl #[] rfl (by (try simp only [List.map_toArray, List.map_cons, List.map_nil]); first | done | rfl | (simp only [List.length_drop, List.length_take]; rfl)) ?_; (with_reducible refine (tillerlaw03_awake.calls k  true _ A18.out).mono ?_); rintro e w39 ⟨rfl, hb⟩; refine ⟨_, rfl, ?_⟩; have n0_ := Aside0.mk (Kd.R_below (by (with_reducible repeat (first | apply Kd.R_alloc | apply Kd.R_drewN | apply Kd.R_drew)); exact HO268.out) hb); have n1_ := Aside0.mk (Kd.R_below (by (with_reducible repeat (first | apply Kd.R_alloc | apply Kd.R_drewN | apply Kd.R_drew)); exact HO271.out) hb); have n2_ := Aside0.mk (Kd.R_below (by (with_reducible repeat (first | apply Kd.R_alloc | apply Kd.R_drewN | apply Kd.R_drew)); exact HO275.out) hb); have n3_ := Aside0.mk (Kd.R_below (by (with_reducible repeat (first | apply Kd.R_alloc | apply Kd.R_drewN | apply Kd.R_drew)); exact HO278.out) hb); have n4_ := Aside0.mk (Kd.R_below (by (with_reducible repeat (first | apply Kd.R_alloc | apply Kd.R_drewN | apply Kd.R_drew)); exact HO281.out) hb); have n5_ := Aside0.mk (below_step (by repeat (first | (with_reducible first | exact HB.out | apply below_alloc | apply pw_below_drewN | apply below_drew1) | exact HB.out)) hb); clear HO268; clear HO271; clear HO275; clear HO278; clear HO281; clear HB; have HO268 := n0_; have HO271 := n1_; have HO275 := n2_; have HO278 := n3_; have HO281 := n4_; have HB := n5_; clear n0_ n1_ n2_ n3_ n4_ n5_; (try clear hb); (try clear hb2); (try clear hk); (try clear hi); obtain ⟨Ao40, co40, eo40⟩ := Kd.R_slice HO275.out; subst eo40))
      go_meet
      case rel => exact ⟨_, (true), (by first | rfl | (simp; done) | (simp [*]; done)), H', ⟨by first | omega | exact Nat.le_refl _⟩, ⟨by (with_reducible repeat (first | apply Kd.R_alloc | apply Kd.R_drewN | apply Kd.R_drew)); exact Kd.R_mono HO268.out (fun _ hk => ⟨hk.1.1.1.2, ⟨hk.1.1.2, ⟨hk.1.2, hk.2⟩⟩⟩)⟩, ⟨by (with_reducible repeat (first | apply Kd.R_alloc | apply Kd.R_drewN | apply Kd.R_drew)); exact Kd.R_mono HO271.out (fun _ hk => ⟨hk.1.1.1.2, ⟨hk.1.1.2, ⟨hk.1.2, hk.2⟩⟩⟩)⟩, ⟨by (with_reducible repeat (first | apply Kd.R_alloc | apply Kd.R_drewN | apply Kd.R_drew)); exact Kd.R_mono HO275.out (fun _ hk => ⟨hk.1.1.1.2, ⟨hk.1.1.2, ⟨hk.1.2, hk.2⟩⟩⟩)⟩, ⟨by (with_reducible repeat (first | apply Kd.R_alloc | apply Kd.R_drewN | apply Kd.R_drew)); exact Kd.R_mono HO278.out (fun _ hk => ⟨hk.1.1.1.2, ⟨hk.1.1.2, ⟨hk.1.2, hk.2⟩⟩⟩)⟩, ⟨by (with_reducible repeat (first | apply Kd.R_alloc | apply Kd.R_drewN | apply Kd.R_drew)); exact Kd.R_mono HO281.out (fun _ hk => ⟨hk.1.1.1.2, ⟨hk.1.1.2, ⟨hk.1.2, hk.2⟩⟩⟩)⟩, ⟨by repeat (first | (with_reducible first | exact HB.out | apply below_alloc | apply pw_below_drewN | apply below_drew1) | exact HB.out)⟩⟩
    ·rw [if_neg c21] at H
     have c21b0 : (t282 == 0) = false := beq_eq_false_iff_ne.mpr c21
     have c21b1 : (t282 != 0) = true := bne_iff_ne.mpr c21
     by_cases c41 : (t272.length : Int) = 0
     ·rw [if_pos c41] at H
      have c41b0 : ((t272.length : Int) == 0) = true := beq_iff_eq.mpr c41
      have c41b1 : ((t272.length : Int) != 0) = false := bne_eq_false_iff_eq.mpr c41
      clear c41
      by_cases c42 : (t276.length : Int) = (t266.length : Int)
      ·rw [if_pos c42] at H
       have c42b0 : ((t276.length : Int) == (t266.length : Int)) = true := beq_iff_eq.mpr c42
       have c42b1 : ((t276.length : Int) != (t266.length : Int)) = false := bne_eq_false_iff_eq.mpr c42
       have c42b2 : (t276.length == t266.length) = true := by first | simpa using c42 | (simp at c42 ⊢; omega)
       clear c42
       by_cases c43 : (t279.length : Int) = (t266.length : Int)
       ·rw [if_pos c43] at H
        have c43b0 : ((t279.length : Int) == (t266.length : Int)) = true := beq_iff_eq.mpr c43
        have c43b1 : ((t279.length : Int) != (t266.length : Int)) = false := bne_eq_false_iff_eq.mpr c43
        have c43b2 : (t279.length == t266.length) = true := by first | simpa using c43 | (simp at c43 ⊢; omega)
        clear c43
        replace H := Option.bind_eq_some_iff.mp H
        obtain ⟨t286, A440, H⟩ := H
        replace H : ((tillerref03_Argmax.f k t266).bind fun t287 => (tillerlaw03_VecPlaces.j0 k t266 t269 a2 t272 t276 t279 t282 (t286 != t287))) = some r := H
        have A44 := Aside0.mk A440
        clear A440
        replace H := Option.bind_eq_some_iff.mp H
        obtain ⟨t287, A450, H⟩ := H
        replace H : (tillerlaw03_VecPlaces.j0 k t266 t269 a2 t272 t276 t279 t282 (t286 != t287)) = some r := H
        have A45 := Aside0.mk A450
        clear A450
        have H' := Aside0.mk H
        clear H
        go_wp2_with (first | ((with_reducible refine gate_callee (f := 16) rfl ?_); refine goesL_ (some 32) rfl rfl Try.func16 (by kernel_rfl) rfl #[] rfl (by (try simp only [List.map_toArray, List.map_cons, List.map_nil]); first | done | rfl | (simp only [List.length_drop, List.length_take]; rfl)) ?_; (with_reducible refine (tillerlaw03_awake.calls k  true _ A18.out).mono ?_); rintro e w46 ⟨rfl, hb⟩; refine ⟨_, rfl, ?_⟩; have n0_ := Aside0.mk (Kd.R_below (by (with_reducible repeat (first | apply Kd.R_alloc | apply Kd.R_drewN | apply Kd.R_drew)); exact HO268.out) hb); have n1_ := Aside0.mk (Kd.R_below (by (with_reducible repeat (first | apply Kd.R_alloc | apply Kd.R_drewN | apply Kd.R_drew)); exact HO271.out) hb); have n2_ := Aside0.mk (Kd.R_below (by (with_reducible repeat (first | apply Kd.R_alloc | apply Kd.R_drewN | apply Kd.R_drew)); exact HO275.out) hb); have n3_ := Aside0.mk (Kd.R_below (by (with_reducible repeat (first | apply Kd.R_alloc | apply Kd.R_drewN | apply Kd.R_drew)); exact HO278.out) hb); have n4_ := Aside0.mk (Kd.R_below (by (with_reducible repeat (first | apply Kd.R_alloc | apply Kd.R_drewN | apply Kd.R_drew)); exact HO281.out) hb); have n5_ := Aside0.mk (below_step (by repeat (first | (with_reducible first | exact HB.out | apply below_alloc | apply pw_below_drewN | apply below_drew1) | exact HB.out)) hb); clear HO268; clear HO271; clear HO275; clear HO278; clear HO281; clear HB; have HO268 := n0_; have HO271 := n1_; have HO275 := n2_; have HO278 := n3_; have HO281 := n4_; have HB := n5_; clear n0_ n1_ n2_ n3_ n4_ n5_; (try clear hb); (try clear hb2); (try clear hk); (try clear hi); obtain ⟨Ao47, co47, eo47⟩ := Kd.R_slice HO275.out; subst eo47; obtain ⟨Ao48, co48, eo48⟩ := Kd.R_slice HO278.out; subst eo48; obtain ⟨Ao49, co49, eo49⟩ := Kd.R_slice HO281.out; subst eo49) | (go_at_call 21; (with_reducible refine (vec_Argmax.calls k _ _ t266 t286 _ ?side1 ?side2 A44.out).mono ?_); (case side1 => repeat (first | exact (Kd.R_reads' HO268.out).2.2 | (with_reducible refine Kd.C_alloc ?_ _) | (with_reducible refine Kd.C_drewN ?_ _) | (with_reducible refine Kd.C_drew ?_))); (case side2 => exact (Kd.R_reads' HO268.out).2.1); rintro e w50 ⟨rfl, hb⟩; have n0_ := Aside0.mk (Kd.R_below (by (with_reducible repeat (first | apply Kd.R_alloc | apply Kd.R_drewN | apply Kd.R_drew)); exact HO268.out) hb); have n1_ := Aside0.mk (Kd.R_below (by (with_reducible repeat (first | apply Kd.R_alloc | apply Kd.R_drewN | apply Kd.R_drew)); exact HO271.out) hb); have n2_ := Aside0.mk (Kd.R_below (by (with_reducible repeat (first | apply Kd.R_alloc | apply Kd.R_drewN | apply Kd.R_drew)); exact HO275.out) hb); have n3_ := Aside0.mk (Kd.R_below (by (with_reducible repeat (first | apply Kd.R_alloc | apply Kd.R_drewN | apply Kd.R_drew)); exact HO278.out) hb); have n4_ := Aside0.mk (Kd.R_below (by (with_reducible repeat (first | apply Kd.R_alloc | apply Kd.R_drewN | apply Kd.R_drew)); exact HO281.out) hb); have n5_ := Aside0.mk (below_step (by repeat (first | (with_reducible first | exact HB.out | apply below_alloc | apply pw_below_drewN | apply below_drew1) | exact HB.out)) hb); clear HO268; clear HO271; clear HO275; clear HO278; clear HO281; clear HB; have HO268 := n0_; have HO271 := n1_; have HO275 := n2_; have HO278 := n3_; have HO281 := n4_; have HB := n5_; clear n0_ n1_ n2_ n3_ n4_ n5_; (try clear hb); (try clear hb2); (try clear hk); (try clear hi)) | (go_at_call 25; (with_reducible refine (tillerref03_Argmax.calls k _ _ t266 t287 _ ?side1 ?side2 A45.out).mono ?_); (case side1 => repeat (first | exact (Kd.R_reads' HO268.out).2.2 | (with_reducible refine Kd.C_alloc ?_ _) | (with_reducible refine Kd.C_drewN ?_ _) | (with_reducible refine Kd.C_drew ?_))); (case side2 => exact (Kd.R_reads' HO268.out).2.1); rintro e w' ⟨rfl, ⟨nd, rfl⟩⟩))
        go_meet
        case rel => exact ⟨_, ((t286 != t287)), (by first | rfl | (simp; done) | (simp [*]; done)), H', ⟨by first | omega | exact Nat.le_refl _⟩, ⟨by (with_reducible repeat (first | apply Kd.R_alloc | apply Kd.R_drewN | apply Kd.R_drew)); exact Kd.R_mono HO268.out (fun _ hk => ⟨hk.1.1.1.2, ⟨hk.1.1.2, ⟨hk.1.2, hk.2⟩⟩⟩)⟩, ⟨by (with_reducible repeat (first | apply Kd.R_alloc | apply Kd.R_drewN | apply Kd.R_drew)); exact Kd.R_mono HO271.out (fun _ hk => ⟨hk.1.1.1.2, ⟨hk.1.1.2, ⟨hk.1.2, hk.2⟩⟩⟩)⟩, ⟨by (with_reducible repeat (first | apply Kd.R_alloc | apply Kd.R_drewN | apply Kd.R_drew)); exact Kd.R_mono HO275.out (fun _ hk => ⟨hk.1.1.1.2, ⟨hk.1.1.2, ⟨hk.1.2, hk.2⟩⟩⟩)⟩, ⟨by (with_reducible repeat (first | apply Kd.R_alloc | apply Kd.R_drewN | apply Kd.R_drew)); exact Kd.R_mono HO278.out (fun _ hk => ⟨hk.1.1.1.2, ⟨hk.1.1.2, ⟨hk.1.2, hk.2⟩⟩⟩)⟩, ⟨by (with_reducible repeat (first | apply Kd.R_alloc | apply Kd.R_drewN | apply Kd.R_drew)); exact Kd.R_mono HO281.out (fun _ hk => ⟨hk.1.1.1.2, ⟨hk.1.1.2, ⟨hk.1.2, hk.2⟩⟩⟩)⟩, ⟨by repeat (first | (with_reducible first | exact HB.out | apply below_alloc | apply pw_below_drewN | apply below_drew1) | exact HB.out)⟩⟩
       ·rw [if_neg c43] at H
        have c43b0 : ((t279.length : Int) == (t266.length : Int)) = false := beq_eq_false_iff_ne.mpr c43
        have c43b1 : ((t279.length : Int) != (t266.length : Int)) = true := bne_iff_ne.mpr c43
        have c43b2 : (t279.length == t266.length) = false := by first | simpa using c43 | (simp at c43 ⊢; omega)
        have H' := Aside0.mk H
        clear H
        go_wp2_with (first | ((with_reducible refine gate_callee (f := 16) rfl ?_); refine goesL_ (some 32) rfl rfl Try.func16 (by kernel_rfl) rfl #[] rfl (by (try simp only [List.map_toArray, List.map_cons, List.map_nil]); first | done | rfl | (simp only [List.length_drop, List.length_take]; rfl)) ?_; (with_reducible refine (tillerlaw03_awake.calls k  true _ A18.out).mono ?_); rintro e w51 ⟨rfl, hb⟩; refine ⟨_, rfl, ?_⟩; have n0_ := Aside0.mk (Kd.R_below (by (with_reducible repeat (first | apply Kd.R_alloc | apply Kd.R_drewN | apply Kd.R_drew)); exact HO268.out) hb); have n1_ := Aside0.mk (Kd.R_below (by (with_reducible repeat (first | apply Kd.R_alloc | apply Kd.R_drewN | apply Kd.R_drew)); exact HO271.out) hb); have n2_ := Aside0.mk (Kd.R_below (by (with_reducible repeat (first | apply Kd.R_alloc | apply Kd.R_drewN | apply Kd.R_drew)); exact HO275.out) hb); have n3_ := Aside0.mk (Kd.R_below (by (with_reducible repeat (first | apply Kd.R_alloc | apply Kd.R_drewN | apply Kd.R_drew)); exact HO278.out) hb); have n4_ := Aside0.mk (Kd.R_below (by (with_reducible repeat (first | apply Kd.R_alloc | apply Kd.R_drewN | apply Kd.R_drew)); exact HO281.out) hb); have n5_ := Aside0.mk (below_step (by repeat (first | (with_reducible first | exact HB.out | apply below_alloc | apply pw_below_drewN | apply below_drew1) | exact HB.out)) hb); clear HO268; clear HO271; clear HO275; clear HO278; clear HO281; clear HB; have HO268 := n0_; have HO271 := n1_; have HO275 := n2_; have HO278 := n3_; have HO281 := n4_; have HB := n5_; clear n0_ n1_ n2_ n3_ n4_ n5_; (try clear hb); (try clear hb2); (try clear hk); (try clear hi); obtain ⟨Ao52, co52, eo52⟩ := Kd.R_slice HO275.out; subst eo52; obtain ⟨Ao53, co53, eo53⟩ := Kd.R_slice HO278.out; subst eo53; obtain ⟨Ao54, co54, eo54⟩ := Kd.R_slice HO281.out; subst eo54))
        go_meet
        case rel => exact ⟨_, (true), (by first | rfl | (simp; done) | (simp [*]; done)), H', ⟨by first | omega | exact Nat.le_refl _⟩, ⟨by (with_reducible repeat (first | apply Kd.R_alloc | apply Kd.R_drewN | apply Kd.R_drew)); exact Kd.R_mono HO268.out (fun _ hk => ⟨hk.1.1.1.2, ⟨hk.1.1.2, ⟨hk.1.2, hk.2⟩⟩⟩)⟩, ⟨by (with_reducible repeat (first | apply Kd.R_alloc | apply Kd.R_drewN | apply Kd.R_drew)); exact Kd.R_mono HO271.out (fun _ hk => ⟨hk.1.1.1.2, ⟨hk.1.1.2, ⟨hk.1.2, hk.2⟩⟩⟩)⟩, ⟨by (with_reducible repeat (first | apply Kd.R_alloc | apply Kd.R_drewN | apply Kd.R_drew)); exact Kd.R_mono HO275.out (fun _ hk => ⟨hk.1.1.1.2, ⟨hk.1.1.2, ⟨hk.1.2, hk.2⟩⟩⟩)⟩, ⟨by (with_reducible repeat (first | apply Kd.R_alloc | apply Kd.R_drewN | apply Kd.R_drew)); exact Kd.R_mono HO278.out (fun _ hk => ⟨hk.1.1.1.2, ⟨hk.1.1.2, ⟨hk.1.2, hk.2⟩⟩⟩)⟩, ⟨by (with_reducible repeat (first | apply Kd.R_alloc | apply Kd.R_drewN | apply Kd.R_drew)); exact Kd.R_mono HO281.out (fun _ hk => ⟨hk.1.1.1.2, ⟨hk.1.1.2, ⟨hk.1.2, hk.2⟩⟩⟩)⟩, ⟨by repeat (first | (with_reducible first | exact HB.out | apply below_alloc | apply pw_below_drewN | apply below_drew1) | exact HB.out)⟩⟩
      ·rw [if_neg c42] at H
       have c42b0 : ((t276.length : Int) == (t266.length : Int)) = false := beq_eq_false_iff_ne.mpr c42
       have c42b1 : ((t276.length : Int) != (t266.length : Int)) = true := bne_iff_ne.mpr c42
       have c42b2 : (t276.length == t266.length) = false := by first | simpa using c42 | (simp at c42 ⊢; omega)
       have H' := Aside0.mk H
       clear H
       go_wp2_with (first | ((with_reducible refine gate_callee (f := 16) rfl ?_); refine goesL_ (some 32) rfl rfl Try.func16 (by kernel_rfl) rfl #[] rfl (by (try simp only [List.map_toArray, List.map_cons, List.map_nil]); first | done | rfl | (simp only [List.length_drop, List.length_take]; rfl)) ?_; (with_reducible refine (tillerlaw03_awake.calls k  true _ A18.out).mono ?_); rintro e w55 ⟨rfl, hb⟩; refine ⟨_, rfl, ?_⟩; have n0_ := Aside0.mk (Kd.R_below (by (with_reducible repeat (first | apply Kd.R_alloc | apply Kd.R_drewN | apply Kd.R_drew)); exact HO268.out) hb); have n1_ := Aside0.mk (Kd.R_below (by (with_reducible repeat (first | apply Kd.R_alloc | apply Kd.R_drewN | apply Kd.R_drew)); exact HO271.out) hb); have n2_ := Aside0.mk (Kd.R_below (by (with_reducible repeat (first | apply Kd.R_alloc | apply Kd.R_drewN | apply Kd.R_drew)); exact HO275.out) hb); have n3_ := Aside0.mk (Kd.R_below (by (with_reducible repeat (first | apply Kd.R_alloc | apply Kd.R_drewN | apply Kd.R_drew)); exact HO278.out) hb); have n4_ := Aside0.mk (Kd.R_below (by (with_reducible repeat (first | apply Kd.R_alloc | apply Kd.R_drewN | apply Kd.R_drew)); exact HO281.out) hb); have n5_ := Aside0.mk (below_step (by repeat (first | (with_reducible first | exact HB.out | apply below_alloc | apply pw_below_drewN | apply below_drew1) | exact HB.out)) hb); clear HO268; clear HO271; clear HO275; clear HO278; clear HO281; clear HB; have HO268 := n0_; have HO271 := n1_; have HO275 := n2_; have HO278 := n3_; have HO281 := n4_; have HB := n5_; clear n0_ n1_ n2_ n3_ n4_ n5_; (try clear hb); (try clear hb2); (try clear hk); (try clear hi); obtain ⟨Ao56, co56, eo56⟩ := Kd.R_slice HO275.out; subst eo56; obtain ⟨Ao57, co57, eo57⟩ := Kd.R_slice HO278.out; subst eo57))
       go_meet
       case rel => exact ⟨_, (true), (by first | rfl | (simp; done) | (simp [*]; done)), H', ⟨by first | omega | exact Nat.le_refl _⟩, ⟨by (with_reducible repeat (first | apply Kd.R_alloc | apply Kd.R_drewN | apply Kd.R_drew)); exact Kd.R_mono HO268.out (fun _ hk => ⟨hk.1.1.1.2, ⟨hk.1.1.2, ⟨hk.1.2, hk.2⟩⟩⟩)⟩, ⟨by (with_reducible repeat (first | apply Kd.R_alloc | apply Kd.R_drewN | apply Kd.R_drew)); exact Kd.R_mono HO271.out (fun _ hk => ⟨hk.1.1.1.2, ⟨hk.1.1.2, ⟨hk.1.2, hk.2⟩⟩⟩)⟩, ⟨by (with_reducible repeat (first | apply Kd.R_alloc | apply Kd.R_drewN | apply Kd.R_drew)); exact Kd.R_mono HO275.out (fun _ hk => ⟨hk.1.1.1.2, ⟨hk.1.1.2, ⟨hk.1.2, hk.2⟩⟩⟩)⟩, ⟨by (with_reducible repeat (first | apply Kd.R_alloc | apply Kd.R_drewN | apply Kd.R_drew)); exact Kd.R_mono HO278.out (fun _ hk => ⟨hk.1.1.1.2, ⟨hk.1.1.2, ⟨hk.1.2, hk.2⟩⟩⟩)⟩, ⟨by (with_reducible repeat (first | apply Kd.R_alloc | apply Kd.R_drewN | apply Kd.R_drew)); exact Kd.R_mono HO281.out (fun _ hk => ⟨hk.1.1.1.2, ⟨hk.1.1.2, ⟨hk.1.2, hk.2⟩⟩⟩)⟩, ⟨by repeat (first | (with_reducible first | exact HB.out | apply below_alloc | apply pw_below_drewN | apply below_drew1) | exact HB.out)⟩⟩
     ·rw [if_neg c41] at H
      have c41b0 : ((t272.length : Int) == 0) = false := beq_eq_false_iff_ne.mpr c41
      have c41b1 : ((t272.length : Int) != 0) = true := bne_iff_ne.mpr c41
      have c41b2 : ¬ (t272 = []) := fun h_ => c41 (by rw [h_]; rfl)
      have H' := Aside0.mk H
      clear H
      go_wp2_with (first | ((with_reducible refine gate_callee (f := 16) rfl ?_); refine goesL_ (some 32) rfl rfl Try.func16 (by kernel_rfl) rfl #[] rfl (by (try simp only [List.map_toArray, List.map_cons, List.map_nil]); first | done | rfl | (simp only [List.length_drop, List.length_take]; rfl)) ?_; (with_reducible refine (tillerlaw03_awake.calls k  true _ A18.out).mono ?_); rintro e w58 ⟨rfl, hb⟩; refine ⟨_, rfl, ?_⟩; have n0_ := Aside0.mk (Kd.R_below (by (with_reducible repeat (first | apply Kd.R_alloc | apply Kd.R_drewN | apply Kd.R_drew)); exact HO268.out) hb); have n1_ := Aside0.mk (Kd.R_below (by (with_reducible repeat (first | apply Kd.R_alloc | apply Kd.R_drewN | apply Kd.R_drew)); exact HO271.out) hb); have n2_ := Aside0.mk (Kd.R_below (by (with_reducible repeat (first | apply Kd.R_alloc | apply Kd.R_drewN | apply Kd.R_drew)); exact HO275.out) hb); have n3_ := Aside0.mk (Kd.R_below (by (with_reducible repeat (first | apply Kd.R_alloc | apply Kd.R_drewN | apply Kd.R_drew)); exact HO278.out) hb); have n4_ := Aside0.mk (Kd.R_below (by (with_reducible repeat (first | apply Kd.R_alloc | apply Kd.R_drewN | apply Kd.R_drew)); exact HO281.out) hb); have n5_ := Aside0.mk (below_step (by repeat (first | (with_reducible first | exact HB.out | apply below_alloc | apply pw_below_drewN | apply below_drew1) | exact HB.out)) hb); clear HO268; clear HO271; clear HO275; clear HO278; clear HO281; clear HB; have HO268 := n0_; have HO271 := n1_; have HO275 := n2_; have HO278 := n3_; have HO281 := n4_; have HB := n5_; clear n0_ n1_ n2_ n3_ n4_ n5_; (try clear hb); (try clear hb2); (try clear hk); (try clear hi); obtain ⟨Ao59, co59, eo59⟩ := Kd.R_slice HO275.out; subst eo59))
      go_meet
      case rel => exact ⟨_, (true), (by first | rfl | (simp; done) | (simp [*]; done)), H', ⟨by first | omega | exact Nat.le_refl _⟩, ⟨by (with_reducible repeat (first | apply Kd.R_alloc | apply Kd.R_drewN | apply Kd.R_drew)); exact Kd.R_mono HO268.out (fun _ hk => ⟨hk.1.1.1.2, ⟨hk.1.1.2, ⟨hk.1.2, hk.2⟩⟩⟩)⟩, ⟨by (with_reducible repeat (first | apply Kd.R_alloc | apply Kd.R_drewN | apply Kd.R_drew)); exact Kd.R_mono HO271.out (fun _ hk => ⟨hk.1.1.1.2, ⟨hk.1.1.2, ⟨hk.1.2, hk.2⟩⟩⟩)⟩, ⟨by (with_reducible repeat (first | apply Kd.R_alloc | apply Kd.R_drewN | apply Kd.R_drew)); exact Kd.R_mono HO275.out (fun _ hk => ⟨hk.1.1.1.2, ⟨hk.1.1.2, ⟨hk.1.2, hk.2⟩⟩⟩)⟩, ⟨by (with_reducible repeat (first | apply Kd.R_alloc | apply Kd.R_drewN | apply Kd.R_drew)); exact Kd.R_mono HO278.out (fun _ hk => ⟨hk.1.1.1.2, ⟨hk.1.1.2, ⟨hk.1.2, hk.2⟩⟩⟩)⟩, ⟨by (with_reducible repeat (first | apply Kd.R_alloc | apply Kd.R_drewN | apply Kd.R_drew)); exact Kd.R_mono HO281.out (fun _ hk => ⟨hk.1.1.1.2, ⟨hk.1.1.2, ⟨hk.1.2, hk.2⟩⟩⟩)⟩, ⟨by repeat (first | (with_reducible first | exact HB.out | apply below_alloc | apply pw_below_drewN | apply below_drew1) | exact HB.out)⟩⟩
   ·rw [if_neg c20] at H
    have c20b0 : (t273 == t282) = false := beq_eq_false_iff_ne.mpr c20
    have c20b1 : (t273 != t282) = true := bne_iff_ne.mpr c20
    (first | rw [c20b0] | (simp only [i64_w, i32_w]; rw [c20b0]) | skip)
    have H' := Aside0.mk H
    clear H
    go_wp2_with (first | ((with_reducible refine gate_callee (f := 16) rfl ?_); refine goesL_ (some 32) rfl rfl Try.func16 (by kernel_rfl) rfl #[] rfl (by (try simp only [List.map_toArray, List.map_cons, List.map_nil]); first | done | rfl | (simp only [List.length_drop, List.length_take]; rfl)) ?_; (with_reducible refine (tillerlaw03_awake.calls k  true _ A18.out).mono ?_); rintro e w60 ⟨rfl, hb⟩; refine ⟨_, rfl, ?_⟩; have n0_ := Aside0.mk (Kd.R_below (by (with_reducible repeat (first | apply Kd.R_alloc | apply Kd.R_drewN | apply Kd.R_drew)); exact HO268.out) hb); have n1_ := Aside0.mk (Kd.R_below (by (with_reducible repeat (first | apply Kd.R_alloc | apply Kd.R_drewN | apply Kd.R_drew)); exact HO271.out) hb); have n2_ := Aside0.mk (Kd.R_below (by (with_reducible repeat (first | apply Kd.R_alloc | apply Kd.R_drewN | apply Kd.R_drew)); exact HO275.out) hb); have n3_ := Aside0.mk (Kd.R_below (by (with_reducible repeat (first | apply Kd.R_alloc | apply Kd.R_drewN | apply Kd.R_drew)); exact HO278.out) hb); have n4_ := Aside0.mk (Kd.R_below (by (with_reducible repeat (first | apply Kd.R_alloc | apply Kd.R_drewN | apply Kd.R_drew)); exact HO281.out) hb); have n5_ := Aside0.mk (below_step (by repeat (first | (with_reducible first | exact HB.out | apply below_alloc | apply pw_below_drewN | apply below_drew1) | exact HB.out)) hb); clear HO268; clear HO271; clear HO275; clear HO278; clear HO281; clear HB; have HO268 := n0_; have HO271 := n1_; have HO275 := n2_; have HO278 := n3_; have HO281 := n4_; have HB := n5_; clear n0_ n1_ n2_ n3_ n4_ n5_; (try clear hb); (try clear hb2); (try clear hk); (try clear hi)))
    go_meet
    case rel => exact ⟨_, (true), (by first | rfl | (simp; done) | (simp [*]; done)), H', ⟨by first | omega | exact Nat.le_refl _⟩, ⟨by (with_reducible repeat (first | apply Kd.R_alloc | apply Kd.R_drewN | apply Kd.R_drew)); exact Kd.R_mono HO268.out (fun _ hk => ⟨hk.1.1.1.2, ⟨hk.1.1.2, ⟨hk.1.2, hk.2⟩⟩⟩)⟩, ⟨by (with_reducible repeat (first | apply Kd.R_alloc | apply Kd.R_drewN | apply Kd.R_drew)); exact Kd.R_mono HO271.out (fun _ hk => ⟨hk.1.1.1.2, ⟨hk.1.1.2, ⟨hk.1.2, hk.2⟩⟩⟩)⟩, ⟨by (with_reducible repeat (first | apply Kd.R_alloc | apply Kd.R_drewN | apply Kd.R_drew)); exact Kd.R_mono HO275.out (fun _ hk => ⟨hk.1.1.1.2, ⟨hk.1.1.2, ⟨hk.1.2, hk.2⟩⟩⟩)⟩, ⟨by (with_reducible repeat (first | apply Kd.R_alloc | apply Kd.R_drewN | apply Kd.R_drew)); exact Kd.R_mono HO278.out (fun _ hk => ⟨hk.1.1.1.2, ⟨hk.1.1.2, ⟨hk.1.2, hk.2⟩⟩⟩)⟩, ⟨by (with_reducible repeat (first | apply Kd.R_alloc | apply Kd.R_drewN | apply Kd.R_drew)); exact Kd.R_mono HO281.out (fun _ hk => ⟨hk.1.1.1.2, ⟨hk.1.1.2, ⟨hk.1.2, hk.2⟩⟩⟩)⟩, ⟨by repeat (first | (with_reducible first | exact HB.out | apply below_alloc | apply pw_below_drewN | apply below_drew1) | exact HB.out)⟩⟩
  ·replace c19 := Bool.eq_false_iff.mpr c19
   subst c19
   have H1 : (tillerlaw03_VecPlaces.j0 k t266 t269 a2 t272 t276 t279 t282 true) = some r := by rw [if_neg (show ¬ (false = true) by decide)] at H; exact H
   clear H
   have H := H1
   clear H1
   have H' := Aside0.mk H
   clear H
   go_wp2_with (first | ((with_reducible refine gate_callee (f := 16) rfl ?_); refine goesL_ (some 32) rfl rfl Try.func16 (by kernel_rfl) rfl #[] rfl (by (try simp only [List.map_toArray, List.map_cons, List.map_nil]); first | done | rfl | (simp only [List.length_drop, List.length_take]; rfl)) ?_; (with_reducible refine (tillerlaw03_awake.calls k  false _ A18.out).mono ?_); rintro e w61 ⟨rfl, hb⟩; refine ⟨_, rfl, ?_⟩; have n0_ := Aside0.mk (Kd.R_below (by (with_reducible repeat (first | apply Kd.R_alloc | apply Kd.R_drewN | apply Kd.R_drew)); exact HO268.out) hb); have n1_ := Aside0.mk (Kd.R_below (by (with_reducible repeat (first | apply Kd.R_alloc | apply Kd.R_drewN | apply Kd.R_drew)); exact HO271.out) hb); have n2_ := Aside0.mk (Kd.R_below (by (with_reducible repeat (first | apply Kd.R_alloc | apply Kd.R_drewN | apply Kd.R_drew)); exact HO275.out) hb); have n3_ := Aside0.mk (Kd.R_below (by (with_reducible repeat (first | apply Kd.R_alloc | apply Kd.R_drewN | apply Kd.R_drew)); exact HO278.out) hb); have n4_ := Aside0.mk (Kd.R_below (by (with_reducible repeat (first | apply Kd.R_alloc | apply Kd.R_drewN | apply Kd.R_drew)); exact HO281.out) hb); have n5_ := Aside0.mk (below_step (by repeat (first | (with_reducible first | exact HB.out | apply below_alloc | apply pw_below_drewN | apply below_drew1) | exact HB.out)) hb); clear HO268; clear HO271; clear HO275; clear HO278; clear HO281; clear HB; have HO268 := n0_; have HO271 := n1_; have HO275 := n2_; have HO278 := n3_; have HO281 := n4_; have HB := n5_; clear n0_ n1_ n2_ n3_ n4_ n5_; (try clear hb); (try clear hb2); (try clear hk); (try clear hi)))
   go_meet
   case rel => exact ⟨_, (true), (by first | rfl | (simp; done) | (simp [*]; done)), H', ⟨by first | omega | exact Nat.le_refl _⟩, ⟨by (with_reducible repeat (first | apply Kd.R_alloc | apply Kd.R_drewN | apply Kd.R_drew)); exact Kd.R_mono HO268.out (fun _ hk => ⟨hk.1.1.1.2, ⟨hk.1.1.2, ⟨hk.1.2, hk.2⟩⟩⟩)⟩, ⟨by (with_reducible repeat (first | apply Kd.R_alloc | apply Kd.R_drewN | apply Kd.R_drew)); exact Kd.R_mono HO271.out (fun _ hk => ⟨hk.1.1.1.2, ⟨hk.1.1.2, ⟨hk.1.2, hk.2⟩⟩⟩)⟩, ⟨by (with_reducible repeat (first | apply Kd.R_alloc | apply Kd.R_drewN | apply Kd.R_drew)); exact Kd.R_mono HO275.out (fun _ hk => ⟨hk.1.1.1.2, ⟨hk.1.1.2, ⟨hk.1.2, hk.2⟩⟩⟩)⟩, ⟨by (with_reducible repeat (first | apply Kd.R_alloc | apply Kd.R_drewN | apply Kd.R_drew)); exact Kd.R_mono HO278.out (fun _ hk => ⟨hk.1.1.1.2, ⟨hk.1.1.2, ⟨hk.1.2, hk.2⟩⟩⟩)⟩, ⟨by (with_reducible repeat (first | apply Kd.R_alloc | apply Kd.R_drewN | apply Kd.R_drew)); exact Kd.R_mono HO281.out (fun _ hk => ⟨hk.1.1.1.2, ⟨hk.1.1.2, ⟨hk.1.2, hk.2⟩⟩⟩)⟩, ⟨by repeat (first | (with_reducible first | exact HB.out | apply below_alloc | apply pw_below_drewN | apply below_drew1) | exact HB.out)⟩⟩
 case rest =>
  clear HC10
  try clear c1
  try clear c2
  try clear p2
  try clear c4
  try clear c6
  try clear c13
  try clear c15
  try clear c16
  try clear c19
  try clear c20
  try clear c20b0
  try clear c20b1
  try clear c21
  try clear c21b0
  try clear c21b1
  try clear c22
  try clear c22b0
  try clear c22b1
  try clear c22b2
  try clear c23
  try clear c23b0
  try clear c23b1
  try clear c23b2
  try clear c24
  try clear c24b0
  try clear c24b1
  try clear c24b2
  try clear c41
  try clear c41b0
  try clear c41b1
  try clear c41b2
  try clear c42
  try clear c42b0
  try clear c42b1
  try clear c42b2
  try clear c43
  try clear c43b0
  try clear c43b1
  try clear c43b2
  obtain ⟨kq, x79_9, rfl, HA, HJ9, HO_0, HO_1, HO_7, HO_9, HO_10, HB⟩ := hcut
  cases kq with
  | zero => exact absurd HA.out (by simp [tillerlaw03_VecPlaces.j0])
  | succ kj9 =>
   have H := HA.out
   clear HA
   simp only [tillerlaw03_VecPlaces.j0] at H
   by_cases c62 : x79_9 = true
   ·subst c62
    have H1 : (some false) = some r := by rw [if_pos rfl] at H; exact H
    clear H
    have H := H1
    clear H1
    exact absurd (Option.some.inj H) (by rw [hr_.out]; decide)
   ·replace c62 := Bool.eq_false_iff.mpr c62
    subst c62
    have H1 : (tillerlaw03_VecPlaces.l0 kj9 t269 a2 t272 t276 t279 t282 t266 (t266.length : Int) 0) = some r := by rw [if_neg (show ¬ (false = true) by decide)] at H; exact H
    clear H
    have H := H1
    clear H1
    have H' := Aside0.mk H
    clear H
    go_wp2
    go_loopg [82] kj9 (fun kq v82 w' => ∃ (x82_2 : Int), v82 = .int .i64 x82_2 ∧ Aside0 (tillerlaw03_VecPlaces.l0 kq t269 a2 t272 t276 t279 t282 t266 (t266.length : Int) x82_2 = some r) ∧ Aside0 (kq ≤ kj9) ∧ Aside0 (Kd.R (Kd.int .i32) 24 w' w.heap.size (fun k_ => some k_ ≠ (v274 : Value).ownBlock ∧ some k_ ≠ (v277 : Value).ownBlock ∧ some k_ ≠ (v280 : Value).ownBlock ∧ some k_ ≠ ((.slice Ao13 t266.length co13) : Value).ownBlock) (.slice Ao14 t269.length co14) t269) ∧ Aside0 (Kd.R (Kd.int .i32) 24 w' w.heap.size (fun k_ => some k_ ≠ ((.slice Ao14 t269.length co14) : Value).ownBlock ∧ some k_ ≠ (v277 : Value).ownBlock ∧ some k_ ≠ (v280 : Value).ownBlock ∧ some k_ ≠ ((.slice Ao13 t266.length co13) : Value).ownBlock) v274 t272) ∧ Aside0 (Kd.R (Kd.int .i32) 24 w' w.heap.size (fun k_ => some k_ ≠ ((.slice Ao14 t269.length co14) : Value).ownBlock ∧ some k_ ≠ (v274 : Value).ownBlock ∧ some k_ ≠ (v280 : Value).ownBlock ∧ some k_ ≠ ((.slice Ao13 t266.length co13) : Value).ownBlock) v277 t276) ∧ Aside0 (Kd.R (Kd.int .i32) 24 w' w.heap.size (fun k_ => some k_ ≠ ((.slice Ao14 t269.length co14) : Value).ownBlock ∧ some k_ ≠ (v274 : Value).ownBlock ∧ some k_ ≠ (v277 : Value).ownBlock ∧ some k_ ≠ ((.slice Ao13 t266.length co13) : Value).ownBlock) v280 t279) ∧ Aside0 (Kd.R (Kd.int .i32) 24 w' w.heap.size (fun k_ => some k_ ≠ ((.slice Ao14 t269.length co14) : Value).ownBlock ∧ some k_ ≠ (v274 : Value).ownBlock ∧ some k_ ≠ (v277 : Value).ownBlock ∧ some k_ ≠ (v280 : Value).ownBlock) (.slice Ao13 t266.length co13) t266) ∧ Aside0 (Below w.heap.size w w'))
    case atStart => exact ⟨(0), (by first | rfl | (simp; done) | (simp [*]; done)), H', ⟨Nat.le_refl _⟩, ⟨by (with_reducible repeat (first | apply Kd.R_alloc | apply Kd.R_drewN | apply Kd.R_drew)); exact Kd.R_mono HO_1.out (fun _ hk => ⟨hk.2.1, ⟨hk.2.2.1, ⟨hk.2.2.2, hk.1⟩⟩⟩)⟩, ⟨by (with_reducible repeat (first | apply Kd.R_alloc | apply Kd.R_drewN | apply Kd.R_drew)); exact Kd.R_mono HO_7.out (fun _ hk => ⟨hk.2.1, ⟨hk.2.2.1, ⟨hk.2.2.2, hk.1⟩⟩⟩)⟩, ⟨by (with_reducible repeat (first | apply Kd.R_alloc | apply Kd.R_drewN | apply Kd.R_drew)); exact Kd.R_mono HO_9.out (fun _ hk => ⟨hk.2.1, ⟨hk.2.2.1, ⟨hk.2.2.2, hk.1⟩⟩⟩)⟩, ⟨by (with_reducible repeat (first | apply Kd.R_alloc | apply Kd.R_drewN | apply Kd.R_drew)); exact Kd.R_mono HO_10.out (fun _ hk => ⟨hk.2.1, ⟨hk.2.2.1, ⟨hk.2.2.2, hk.1⟩⟩⟩)⟩, ⟨by (with_reducible repeat (first | apply Kd.R_alloc | apply Kd.R_drewN | apply Kd.R_drew)); exact HO_0.out⟩, ⟨by repeat (first | (with_reducible first | exact HB.out | apply below_alloc | apply pw_below_drewN | apply below_drew1) | exact HB.out)⟩⟩
    case round =>
     clear H'
     try clear c1
     try clear c2
     try clear p2
     try clear c4
     try clear c6
     try clear c13
     try clear c15
     try clear c16
     try clear c19
     try clear c20
     try clear c20b0
     try clear c20b1
     try clear c21
     try clear c21b0
     try clear c21b1
     try clear c22
     try clear c22b0
     try clear c22b1
     try clear c22b2
     try clear c23
     try clear c23b0
     try clear c23b1
     try clear c23b2
     try clear c24
     try clear c24b0
     try clear c24b1
     try clear c24b2
     try clear c41
     try clear c41b0
     try clear c41b1
     try clear c41b2
     try clear c42
     try clear c42b0
     try clear c42b1
     try clear c42b2
     try clear c43
     try clear c43b0
     try clear c43b1
     try clear c43b2
     try clear c62
     try clear p2
     obtain ⟨x82_2, rfl, HA, HK2, HO_1, HO_7, HO_9, HO_10, HO_80, HB⟩ := hrel
     cases gk with
     | zero => exact absurd HA.out (by simp [tillerlaw03_VecPlaces.l0])
     | succ k2 =>
      have H := HA.out
      clear HA
      simp only [tillerlaw03_VecPlaces.l0] at H
      by_cases c63 : x82_2 < (t266.length : Int)
      ·rw [if_pos c63] at H
       have c63b0 : decide (x82_2 < (t266.length : Int)) = true := decide_eq_true c63
       clear c63
       by_cases c64 : 0 ≤ x82_2
       ·rw [if_pos c64] at H
        have c64b0 : decide (0 ≤ x82_2) = true := decide_eq_true c64
        clear c64
        by_cases c65 : x82_2 < (t266.length : Int)
        ·rw [if_pos c65] at H
         have c65b0 : decide (x82_2 < (t266.length : Int)) = true := decide_eq_true c65
         clear c65
         by_cases c66 : t282 = 0
         ·rw [if_pos c66] at H
          have c66b0 : (t282 == 0) = true := beq_iff_eq.mpr c66
          have c66b1 : (t282 != 0) = false := bne_eq_false_iff_eq.mpr c66
          clear c66
          by_cases c67 : x82_2 < (t272.length : Int)
          ·rw [if_pos c67] at H
           have c67b0 : decide (x82_2 < (t272.length : Int)) = true := decide_eq_true c67
           clear c67
           by_cases c68 : x82_2 < (t269.length : Int)
           ·rw [if_pos c68] at H
            have c68b0 : decide (x82_2 < (t269.length : Int)) = true := decide_eq_true c68
            clear c68
            replace H := Option.bind_eq_some_iff.mp H
            obtain ⟨t291, A690, H⟩ := H
            replace H : (if (rd t272 x82_2) = t291 then (if x82_2 < (t276.length : Int) then ((tillerref01_Mul.f k2 (rd t266 x82_2) a2).bind fun t293 => (if (rd t276 x82_2) = t293 then (if (rd t266 x82_2) ≥ 0 then (if x82_2 < (t279.length : Int) then (if (rd t279 x82_2) = (rd t266 x82_2) then (if (rd t266 x82_2) < 0 then (if (rd t279 x82_2) = 0 then (tillerlaw03_VecPlaces.l0 k2 t269 a2 t272 t276 t279 t282 t266 (t266.length : Int) (wrap64 (x82_2 + 1))) else (some false)) else (tillerlaw03_VecPlaces.l0 k2 t269 a2 t272 t276 t279 t282 t266 (t266.length : Int) (wrap64 (x82_2 + 1)))) else (some false)) else (none)) else (if (rd t266 x82_2) < 0 then (if x82_2 < (t279.length : Int) then (if (rd t279 x82_2) = 0 then (tillerlaw03_VecPlaces.l0 k2 t269 a2 t272 t276 t279 t282 t266 (t266.length : Int) (wrap64 (x82_2 + 1))) else (some false)) else (none)) else (tillerlaw03_VecPlaces.l0 k2 t269 a2 t272 t276 t279 t282 t266 (t266.length : Int) (wrap64 (x82_2 + 1))))) else (some false))) else (none)) else (some false)) = some r := H
            have A69 := Aside0.mk A690
            clear A690
            by_cases c70 : (rd t272 x82_2) = t291
            ·rw [if_pos c70] at H
             have c70b0 : ((rd t272 x82_2) == t291) = true := beq_iff_eq.mpr c70
             have c70b1 : ((rd t272 x82_2) != t291) = false := bne_eq_false_iff_eq.mpr c70
             clear c70
             by_cases c71 : x82_2 < (t276.length : Int)
             ·rw [if_pos c71] at H
              have c71b0 : decide (x82_2 < (t276.length : Int)) = true := decide_eq_true c71
              clear c71
              replace H := Option.bind_eq_some_iff.mp H
              obtain ⟨t293, A720, H⟩ := H
              replace H : (if (rd t276 x82_2) = t293 then (if (rd t266 x82_2) ≥ 0 then (if x82_2 < (t279.length : Int) then (if (rd t279 x82_2) = (rd t266 x82_2) then (if (rd t266 x82_2) < 0 then (if (rd t279 x82_2) = 0 then (tillerlaw03_VecPlaces.l0 k2 t269 a2 t272 t276 t279 t282 t266 (t266.length : Int) (wrap64 (x82_2 + 1))) else (some false)) else (tillerlaw03_VecPlaces.l0 k2 t269 a2 t272 t276 t279 t282 t266 (t266.length : Int) (wrap64 (x82_2 + 1)))) else (some false)) else (none)) else (if (rd t266 x82_2) < 0 then (if x82_2 < (t279.length : Int) then (if (rd t279 x82_2) = 0 then (tillerlaw03_VecPlaces.l0 k2 t269 a2 t272 t276 t279 t282 t266 (t266.length : Int) (wrap64 (x82_2 + 1))) else (some false)) else (none)) else (tillerlaw03_VecPlaces.l0 k2 t269 a2 t272 t276 t279 t282 t266 (t266.length : Int) (wrap64 (x82_2 + 1))))) else (some false)) = some r := H
              have A72 := Aside0.mk A720
              clear A720
              by_cases c73 : (rd t276 x82_2) = t293
              ·rw [if_pos c73] at H
               have c73b0 : ((rd t276 x82_2) == t293) = true := beq_iff_eq.mpr c73
               have c73b1 : ((rd t276 x82_2) != t293) = false := bne_eq_false_iff_eq.mpr c73
               clear c73
               by_cases c74 : (rd t266 x82_2) ≥ 0
               ·rw [if_pos c74] at H
                have c74b0 : decide (0 ≤ (rd t266 x82_2)) = true := decide_eq_true c74
                clear c74
                by_cases c75 : x82_2 < (t279.length : Int)
                ·rw [if_pos c75] at H
                 have c75b0 : decide (x82_2 < (t279.length : Int)) = true := decide_eq_true c75
                 clear c75
                 by_cases c76 : (rd t279 x82_2) = (rd t266 x82_2)
                 ·rw [if_pos c76] at H
                  have c76b0 : ((rd t279 x82_2) == (rd t266 x82_2)) = true := beq_iff_eq.mpr c76
                  have c76b1 : ((rd t279 x82_2) != (rd t266 x82_2)) = false := bne_eq_false_iff_eq.mpr c76
                  clear c76
                  by_cases c77 : (rd t266 x82_2) < 0
                  ·rw [if_pos c77] at H
                   have c77b0 : decide ((rd t266 x82_2) < 0) = true := decide_eq_true c77
                   clear c77
                   by_cases c78 : (rd t279 x82_2) = 0
                   ·rw [if_pos c78] at H
                    have c78b0 : ((rd t279 x82_2) == 0) = true := beq_iff_eq.mpr c78
                    have c78b1 : ((rd t279 x82_2) != 0) = false := bne_eq_false_iff_eq.mpr c78
                    clear c78
                    have H' := Aside0.mk H
                    clear H
                    have p288 : 0 ≤ (x82_2 : Int) := ofd_
                    have q288 : x82_2 < (t266.length : Int) := ofd_
                    (first | obtain ⟨ad288, e288, hx288_0⟩ := Kd.at_int (Kd.R_reads' HO_80.out).2.2 x82_2 p288 q288 | (obtain ⟨Az_, cz_, ez_⟩ := Kd.R_slice HO_80.out; subst ez_; obtain ⟨ad288, e288, hx288_0⟩ := Kd.at_int (Kd.R_reads' HO_80.out).2.2 x82_2 p288 q288))
                    cases e288
                    replace p288 := eq_true p288
                    replace q288 := eq_true q288
                    try go_wp2
                    have n0_ := Aside0.mk (Kd.R_drew HO_1.out)
                    have n1_ := Aside0.mk (Kd.R_drew HO_7.out)
                    have n2_ := Aside0.mk (Kd.R_drew HO_9.out)
                    have n3_ := Aside0.mk (Kd.R_drew HO_10.out)
                    have n4_ := Aside0.mk (Kd.R_drew HO_80.out)
                    have n5_ := Aside0.mk (below_drew1 HB.out)
                    clear HO_1
                    clear HO_7
                    clear HO_9
                    clear HO_10
                    clear HO_80
                    clear HB
                    have HO_1 := n0_
                    have HO_7 := n1_
                    have HO_9 := n2_
                    have HO_10 := n3_
                    have HO_80 := n4_
                    have HB := n5_
                    clear n0_ n1_ n2_ n3_ n4_ n5_
                    obtain ⟨Ao80, co80, eo80⟩ := Kd.R_slice HO_7.out
                    (first | subst eo80 | (injection eo80 with f1_ f2_ f3_; have f4_ := f1_.symm; have f5_ := f3_.symm; clear f1_ f2_ f3_; subst f4_; subst f5_))
                    have p289 : 0 ≤ (x82_2 : Int) := ofd_
                    have q289 : x82_2 < (t272.length : Int) := ofd_
                    (first | obtain ⟨ad289, e289, hx289_0⟩ := Kd.at_int (Kd.R_reads' HO_7.out).2.2 x82_2 p289 q289 | (obtain ⟨Az_, cz_, ez_⟩ := Kd.R_slice HO_7.out; subst ez_; obtain ⟨ad289, e289, hx289_0⟩ := Kd.at_int (Kd.R_reads' HO_7.out).2.2 x82_2 p289 q289))
                    cases e289
                    replace p289 := eq_true p289
                    replace q289 := eq_true q289
                    have p290 : 0 ≤ (x82_2 : Int) := ofd_
                    have q290 : x82_2 < (t269.length : Int) := ofd_
                    (first | obtain ⟨ad290, e290, hx290_0⟩ := Kd.at_int (Kd.R_reads' HO_1.out).2.2 x82_2 p290 q290 | (obtain ⟨Az_, cz_, ez_⟩ := Kd.R_slice HO_1.out; subst ez_; obtain ⟨ad290, e290, hx290_0⟩ := Kd.at_int (Kd.R_reads' HO_1.out).2.2 x82_2 p290 q290))
                    cases e290
                    replace p290 := eq_true p290
                    replace q290 := eq_true q290
                    have p292 : 0 ≤ (x82_2 : Int) := ofd_
                    have q292 : x82_2 < (t276.length : Int) := ofd_
                    (first | obtain ⟨ad292, e292, hx292_0⟩ := Kd.at_int (Kd.R_reads' HO_9.out).2.2 x82_2 p292 q292 | (obtain ⟨Az_, cz_, ez_⟩ := Kd.R_slice HO_9.out; subst ez_; obtain ⟨ad292, e292, hx292_0⟩ := Kd.at_int (Kd.R_reads' HO_9.out).2.2 x82_2 p292 q292))
                    cases e292
                    replace p292 := eq_true p292
                    replace q292 := eq_true q292
                    have p294 : 0 ≤ (x82_2 : Int) := ofd_
                    have q294 : x82_2 < (t279.length : Int) := ofd_
                    (first | obtain ⟨ad294, e294, hx294_0⟩ := Kd.at_int (Kd.R_reads' HO_10.out).2.2 x82_2 p294 q294 | (obtain ⟨Az_, cz_, ez_⟩ := Kd.R_slice HO_10.out; subst ez_; obtain ⟨ad294, e294, hx294_0⟩ := Kd.at_int (Kd.R_reads' HO_10.out).2.2 x82_2 p294 q294))
                    cases e294
                    replace p294 := eq_true p294
                    replace q294 := eq_true q294
                    have p295 : 0 ≤ (x82_2 : Int) := ofd_
                    have q295 : x82_2 < (t279.length : Int) := ofd_
                    (first | obtain ⟨ad295, e295, hx295_0⟩ := Kd.at_int (Kd.R_reads' HO_10.out).2.2 x82_2 p295 q295 | (obtain ⟨Az_, cz_, ez_⟩ := Kd.R_slice HO_10.out; subst ez_; obtain ⟨ad295, e295, hx295_0⟩ := Kd.at_int (Kd.R_reads' HO_10.out).2.2 x82_2 p295 q295))
                    obtain rfl : ad294 = ad295 := (by injection e295)
                    replace p295 := eq_true p295
                    replace q295 := eq_true q295
                    refine start_ (n := 51) (S := fun w' => w'.cell? (ad289.add (x82_2).toNat) = some (.int .i32 (rd t272 x82_2)) ∧ w'.cell? (ad290.add (x82_2).toNat) = some (.int .i32 (rd t269 x82_2)) ∧ w'.cell? (ad292.add (x82_2).toNat) = some (.int .i32 (rd t276 x82_2)) ∧ w'.cell? (ad294.add (x82_2).toNat) = some (.int .i32 (rd t279 x82_2)) ∧ w'.cell? (ad294.add (x82_2).toNat) = some (.int .i32 (rd t279 x82_2))) (ds := []) T54481_0 (by kernel_rfl) rfl rfl ⟨hx289_0, hx290_0, hx292_0, hx294_0, hx295_0⟩ (fun hHeld => ?_); refine with_tabW tillerlaw03_VecPlaces.tab10 tillerlaw03_VecPlaces.bits10 (fun HT_ HW_ => ?_)
                    generalize wr.drew = w79 at HO_1 HO_7 HO_9 HO_10 HO_80 HB hx289_0 hx290_0 hx292_0 hx294_0 hx295_0 hHeld ⊢
                    refine pure_ (i := 0) (N := some 87) (v := ?_) (a' := ?_) T54481_1 rfl rfl (any_of HT_.out (by kernel_rfl)) idq (.inl ⟨by rfl, ?_⟩) ?_ ?_
                    rotate_left; ·intro w'; go_simp; with_reducible rfl
                    rotate_left; ·simp only [Act.put, sqA, sqB, sqC, i64_w, i32_w]; rfl
                    refine pure_ (i := 1) (N := some 88) (v := ?_) (a' := ?_) T54481_2 rfl rfl (any_of HT_.out (by kernel_rfl)) idq (.inl ⟨by rfl, ?_⟩) ?_ ?_
                    rotate_left; ·intro w'; go_simp; with_reducible rfl
                    rotate_left; ·simp only [Act.put, sqA, sqB, sqC, i64_w, i32_w]; rfl
                    refine pure_ (i := 2) (N := some 89) (v := ?_) (a' := ?_) T54481_3 rfl rfl (any_of HT_.out (by kernel_rfl)) idq (.inl ⟨by rfl, ?_⟩) ?_ ?_
                    rotate_left; ·intro w'; go_simp; with_reducible rfl
                    rotate_left; ·simp only [Act.put, sqA, sqB, sqC, i64_w, i32_w]; rfl
                    refine pure_ (i := 3) (N := some 90) (v := ?_) (a' := ?_) T54481_4 rfl rfl (any_of HT_.out (by kernel_rfl)) idq (.inl ⟨by rfl, ?_⟩) ?_ ?_
                    rotate_left; ·intro w'; go_simp; with_reducible rfl
                    rotate_left; ·simp only [Act.put, sqA, sqB, sqC, i64_w, i32_w]; rfl
                    refine pure_ (i := 4) (N := some 91) (v := ?_) (a' := ?_) T54481_5 rfl rfl (any_of HT_.out (by kernel_rfl)) idq (.inl ⟨by rfl, ?_⟩) ?_ ?_
                    rotate_left; ·intro w'; go_simp; with_reducible rfl
                    rotate_left; ·simp only [Act.put, sqA, sqB, sqC, i64_w, i32_w]; rfl
                    refine pure_ (i := 5) (N := some 92) (v := ?_) (a' := ?_) T54481_6 rfl rfl (any_of HT_.out (by kernel_rfl)) idq (.inl ⟨by rfl, ?_⟩) ?_ ?_
                    rotate_left; ·intro w'; go_simp; with_reducible rfl
                    rotate_left; ·simp only [Act.put, sqA, sqB, sqC, i64_w, i32_w]; rfl
                    refine pure_ (i := 7) (N := some 94) (v := ?_) (a' := ?_) T54481_7 rfl rfl (any_of HT_.out (by kernel_rfl)) idq (.inl ⟨by rfl, ?_⟩) ?_ ?_
                    rotate_left; ·intro w'; go_simp; with_reducible rfl
                    rotate_left; ·simp only [Act.put, sqA, sqB, sqC, i64_w, i32_w]; rfl
                    refine pure_ (i := 8) (N := some 95) (v := ?_) (a' := ?_) T54481_8 rfl rfl (any_of HT_.out (by kernel_rfl)) idq (.inl ⟨by rfl, ?_⟩) ?_ ?_
                    rotate_left; ·intro w'; go_simp; with_reducible rfl
                    rotate_left; ·simp only [Act.put, sqA, sqB, sqC, i64_w, i32_w]; rfl
                    refine pure_ (i := 9) (N := some 96) (v := ?_) (a' := ?_) T54481_9 rfl rfl (any_of HT_.out (by kernel_rfl)) idq (.inl ⟨by rfl, ?_⟩) ?_ ?_
                    rotate_left; ·intro w'; go_simp; with_reducible rfl
                    rotate_left; ·simp only [Act.put, sqA, sqB, sqC, i64_w, i32_w]; rfl
                    refine pure_ (i := 10) (N := some 97) (v := ?_) (a' := ?_) T54481_10 rfl rfl (any_of HT_.out (by kernel_rfl)) idq (.inl ⟨by rfl, ?_⟩) ?_ ?_
                    rotate_left; ·intro w'; go_simp; with_reducible rfl
                    rotate_left; ·simp only [Act.put, sqA, sqB, sqC, i64_w, i32_w]; rfl
                    refine pure_ (i := 11) (N := some 98) (v := ?_) (a' := ?_) T54481_11 rfl rfl (any_of HT_.out (by kernel_rfl)) idq (.inl ⟨by rfl, ?_⟩) ?_ ?_
                    rotate_left; ·intro w'; go_simp; with_reducible rfl
                    rotate_left; ·simp only [Act.put, sqA, sqB, sqC, i64_w, i32_w]; rfl
                    refine take_ (i := 6) (N := some 93) (v := ?_) (a' := ?_) T54481_12 rfl rfl (take_ofW HT_.out HW_.out (by kernel_rfl)) idq (.inl ⟨by rfl, ?_⟩) hHeld ?_ ?_
                    rotate_left
                    ·rintro w' ⟨s0, s1, s2, s3, s4⟩
                     go_simp
                     with_reducible rfl
                    rotate_left; ·simp only [Act.put, sqA, sqB, sqC, i64_w, i32_w]; rfl
                    refine take_ (i := 12) (N := some 99) (v := ?_) (a' := ?_) T54481_13 rfl rfl (take_ofW HT_.out HW_.out (by kernel_rfl)) idq (.inl ⟨by rfl, ?_⟩) hHeld ?_ ?_
                    rotate_left
                    ·rintro w' ⟨s0, s1, s2, s3, s4⟩
                     go_simp
                     with_reducible rfl
                    rotate_left; ·simp only [Act.put, sqA, sqB, sqC, i64_w, i32_w]; rfl
                    refine pure_ (i := 13) (N := some 100) (v := ?_) (a' := ?_) T54481_14 rfl rfl (any_of HT_.out (by kernel_rfl)) idq (.inl ⟨by rfl, ?_⟩) ?_ ?_
                    rotate_left; ·intro w'; go_simp; with_reducible rfl
                    rotate_left; ·simp only [Act.put, sqA, sqB, sqC, i64_w, i32_w]; rfl
                    refine pure_ (i := 14) (N := some 101) (v := ?_) (a' := ?_) T54481_15 rfl rfl (any_of HT_.out (by kernel_rfl)) idq (.inl ⟨by rfl, ?_⟩) ?_ ?_
                    rotate_left; ·intro w'; go_simp; with_reducible rfl
                    rotate_left; ·simp only [Act.put, sqA, sqB, sqC, i64_w, i32_w]; rfl
                    refine one_ (i := 15) (N := some 102) T54481_16 rfl rfl (one_of HT_.out (by kernel_rfl)) (by decide) (fun K hK => ?_)
                    refine goes_ Try.func26 (by kernel_rfl) rfl #[.int .i64 (wrap64 ((wrap64 (rd t266 x82_2)) + (wrap64 (rd t269 x82_2))))] (by rfl) rfl rfl (by (try simp only [List.map_toArray, List.map_cons, List.map_nil]); first | done | rfl | (simp only [List.length_drop, List.length_take]; rfl)) ?_
                    with_reducible refine (tillerref01_Sat.calls (wrap64 ((wrap64 (rd t266 x82_2)) + (wrap64 (rd t269 x82_2)))) t291 _ A69.out).mono ?_
                    rintro e w' ⟨rfl, ⟨nd, rfl⟩⟩
                    refine ⟨_, rfl, ?_⟩
                    obtain ⟨Ao81, co81, eo81⟩ := Kd.R_slice HO_9.out
                    (first | subst eo81 | (injection eo81 with f1_ f2_ f3_; have f4_ := f1_.symm; have f5_ := f3_.symm; clear f1_ f2_ f3_; subst f4_; subst f5_))
                    refine hK.out _ _ ⟨hHeld.1, hHeld.2.1, hHeld.2.2.1, hHeld.2.2.2.1, hHeld.2.2.2.2⟩ (fun hHeld => ?_)
                    clear hK K
                    refine norm_ (a' := ?_) ?_ ?_
                    rotate_left
                    ·show Act.put _ (some 102) _ = _
                     simp only [Act.put, sqA, sqB, sqC, i64_w, i32_w]
                     rfl
                    refine pure_ (i := 16) (N := some 103) (v := ?_) (a' := ?_) T54481_17 rfl rfl (any_of HT_.out (by kernel_rfl)) idq (.inl ⟨by rfl, ?_⟩) ?_ ?_
                    rotate_left; ·intro w'; go_simp; with_reducible rfl
                    rotate_left; ·simp only [Act.put, sqA, sqB, sqC, i64_w, i32_w]; rfl
                    refine pure_ (i := 17) (N := some 104) (v := ?_) (a' := ?_) T54481_18 rfl rfl (any_of HT_.out (by kernel_rfl)) idq (.inl ⟨by rfl, ?_⟩) ?_ ?_
                    rotate_left; ·intro w'; go_simp; with_reducible rfl
                    rotate_left; ·simp only [Act.put, sqA, sqB, sqC, i64_w, i32_w]; rfl
                    refine pure_ (i := 18) (N := some 105) (v := ?_) (a' := ?_) T54481_19 rfl rfl (any_of HT_.out (by kernel_rfl)) idq (.inl ⟨by rfl, ?_⟩) ?_ ?_
                    rotate_left; ·intro w'; go_simp; with_reducible rfl
                    rotate_left; ·simp only [Act.put, sqA, sqB, sqC, i64_w, i32_w]; rfl
                    refine pure_ (i := 19) (N := some 106) (v := ?_) (a' := ?_) T54481_20 rfl rfl (any_of HT_.out (by kernel_rfl)) idq (.inl ⟨by rfl, ?_⟩) ?_ ?_
                    rotate_left; ·intro w'; go_simp; with_reducible rfl
                    rotate_left; ·simp only [Act.put, sqA, sqB, sqC, i64_w, i32_w]; rfl
                    refine pure_ (i := 20) (N := some 107) (v := ?_) (a' := ?_) T54481_21 rfl rfl (any_of HT_.out (by kernel_rfl)) idq (.inl ⟨by rfl, ?_⟩) ?_ ?_
                    rotate_left; ·intro w'; go_simp; with_reducible rfl
                    rotate_left; ·simp only [Act.put, sqA, sqB, sqC, i64_w, i32_w]; rfl
                    refine pure_ (i := 21) (N := some 108) (v := ?_) (a' := ?_) T54481_22 rfl rfl (any_of HT_.out (by kernel_rfl)) idq (.inl ⟨by rfl, ?_⟩) ?_ ?_
                    rotate_left; ·intro w'; go_simp; with_reducible rfl
                    rotate_left; ·simp only [Act.put, sqA, sqB, sqC, i64_w, i32_w]; rfl
                    refine pure_ (i := 23) (N := some 110) (v := ?_) (a' := ?_) T54481_23 rfl rfl (any_of HT_.out (by kernel_rfl)) idq (.inl ⟨by rfl, ?_⟩) ?_ ?_
                    rotate_left; ·intro w'; go_simp; with_reducible rfl
                    rotate_left; ·simp only [Act.put, sqA, sqB, sqC, i64_w, i32_w]; rfl
                    refine pure_ (i := 24) (N := some 111) (v := ?_) (a' := ?_) T54481_24 rfl rfl (any_of HT_.out (by kernel_rfl)) idq (.inl ⟨by rfl, ?_⟩) ?_ ?_
                    rotate_left; ·intro w'; go_simp; with_reducible rfl
                    rotate_left; ·simp only [Act.put, sqA, sqB, sqC, i64_w, i32_w]; rfl
                    refine take_ (i := 22) (N := some 109) (v := ?_) (a' := ?_) T54481_25 rfl rfl (take_ofW HT_.out HW_.out (by kernel_rfl)) idq (.inl ⟨by rfl, ?_⟩) hHeld ?_ ?_
                    rotate_left
                    ·rintro w' ⟨s0, s1, s2, s3, s4⟩
                     go_simp
                     with_reducible rfl
                    rotate_left; ·simp only [Act.put, sqA, sqB, sqC, i64_w, i32_w]; rfl
                    refine one_ (i := 25) (N := some 112) T54481_26 rfl rfl (one_of HT_.out (by kernel_rfl)) (by decide) (fun K hK => ?_)
                    refine goes_ Try.func27 (by kernel_rfl) rfl #[.int .i32 (rd t266 x82_2), .int .i32 a2] (by rfl) rfl rfl (by (try simp only [List.map_toArray, List.map_cons, List.map_nil]); first | done | rfl | (simp only [List.length_drop, List.length_take]; rfl)) ?_
                    with_reducible refine (tillerref01_Mul.calls k2 (rd t266 x82_2) a2 t293 _ A72.out).mono ?_
                    rintro e w' ⟨rfl, ⟨nd, rfl⟩⟩
                    refine ⟨_, rfl, ?_⟩
                    obtain ⟨Ao82, co82, eo82⟩ := Kd.R_slice HO_10.out
                    (first | subst eo82 | (injection eo82 with f1_ f2_ f3_; have f4_ := f1_.symm; have f5_ := f3_.symm; clear f1_ f2_ f3_; subst f4_; subst f5_))
                    refine hK.out _ _ ⟨hHeld.1, hHeld.2.1, hHeld.2.2.1, hHeld.2.2.2.1, hHeld.2.2.2.2⟩ (fun hHeld => ?_)
                    clear hK K
                    refine norm_ (a' := ?_) ?_ ?_
                    rotate_left
                    ·show Act.put _ (some 112) _ = _
                     simp only [Act.put, sqA, sqB, sqC, i64_w, i32_w]
                     rfl
                    refine pure_ (i := 26) (N := some 113) (v := ?_) (a' := ?_) T54481_27 rfl rfl (any_of HT_.out (by kernel_rfl)) idq (.inl ⟨by rfl, ?_⟩) ?_ ?_
                    rotate_left; ·intro w'; go_simp; with_reducible rfl
                    rotate_left; ·simp only [Act.put, sqA, sqB, sqC, i64_w, i32_w]; rfl
                    refine pure_ (i := 27) (N := some 114) (v := ?_) (a' := ?_) T54481_28 rfl rfl (any_of HT_.out (by kernel_rfl)) idq (.inl ⟨by rfl, ?_⟩) ?_ ?_
                    rotate_left; ·intro w'; go_simp; with_reducible rfl
                    rotate_left; ·simp only [Act.put, sqA, sqB, sqC, i64_w, i32_w]; rfl
                    refine pure_ (i := 28) (N := some 115) (v := ?_) (a' := ?_) T54481_29 rfl rfl (any_of HT_.out (by kernel_rfl)) idq (.inl ⟨by rfl, ?_⟩) ?_ ?_
                    rotate_left; ·intro w'; go_simp; with_reducible rfl
                    rotate_left; ·simp only [Act.put, sqA, sqB, sqC, i64_w, i32_w]; rfl
                    refine pure_ (i := 29) (N := some 116) (v := ?_) (a' := ?_) T54481_30 rfl rfl (any_of HT_.out (by kernel_rfl)) idq (.inl ⟨by rfl, ?_⟩) ?_ ?_
                    rotate_left; ·intro w'; go_simp; with_reducible rfl
                    rotate_left; ·simp only [Act.put, sqA, sqB, sqC, i64_w, i32_w]; rfl
                    refine pure_ (i := 30) (N := some 117) (v := ?_) (a' := ?_) T54481_31 rfl rfl (any_of HT_.out (by kernel_rfl)) idq (.inl ⟨by rfl, ?_⟩) ?_ ?_
                    rotate_left; ·intro w'; go_simp; with_reducible rfl
                    rotate_left; ·simp only [Act.put, sqA, sqB, sqC, i64_w, i32_w]; rfl
                    refine pure_ (i := 31) (N := some 118) (v := ?_) (a' := ?_) T54481_32 rfl rfl (any_of HT_.out (by kernel_rfl)) idq (.inl ⟨by rfl, ?_⟩) ?_ ?_
                    rotate_left; ·intro w'; go_simp; with_reducible rfl
                    rotate_left; ·simp only [Act.put, sqA, sqB, sqC, i64_w, i32_w]; rfl
                    refine pure_ (i := 32) (N := some 119) (v := ?_) (a' := ?_) T54481_33 rfl rfl (any_of HT_.out (by kernel_rfl)) idq (.inl ⟨by rfl, ?_⟩) ?_ ?_
                    rotate_left; ·intro w'; go_simp; with_reducible rfl
                    rotate_left; ·simp only [Act.put, sqA, sqB, sqC, i64_w, i32_w]; rfl
                    refine pure_ (i := 33) (N := some 120) (v := ?_) (a' := ?_) T54481_34 rfl rfl (any_of HT_.out (by kernel_rfl)) idq (.inl ⟨by rfl, ?_⟩) ?_ ?_
                    rotate_left; ·intro w'; go_simp; with_reducible rfl
                    rotate_left; ·simp only [Act.put, sqA, sqB, sqC, i64_w, i32_w]; rfl
                    refine pure_ (i := 34) (N := some 121) (v := ?_) (a' := ?_) T54481_35 rfl rfl (any_of HT_.out (by kernel_rfl)) idq (.inl ⟨by rfl, ?_⟩) ?_ ?_
                    rotate_left; ·intro w'; go_simp; with_reducible rfl
                    rotate_left; ·simp only [Act.put, sqA, sqB, sqC, i64_w, i32_w]; rfl
                    refine pure_ (i := 36) (N := some 123) (v := ?_) (a' := ?_) T54481_36 rfl rfl (any_of HT_.out (by kernel_rfl)) idq (.inl ⟨by rfl, ?_⟩) ?_ ?_
                    rotate_left; ·intro w'; go_simp; with_reducible rfl
                    rotate_left; ·simp only [Act.put, sqA, sqB, sqC, i64_w, i32_w]; rfl
                    refine take_ (i := 35) (N := some 122) (v := ?_) (a' := ?_) T54481_37 rfl rfl (take_ofW HT_.out HW_.out (by kernel_rfl)) idq (.inl ⟨by rfl, ?_⟩) hHeld ?_ ?_
                    rotate_left
                    ·rintro w' ⟨s0, s1, s2, s3, s4⟩
                     go_simp
                     with_reducible rfl
                    rotate_left; ·simp only [Act.put, sqA, sqB, sqC, i64_w, i32_w]; rfl
                    refine pure_ (i := 37) (N := some 124) (v := ?_) (a' := ?_) T54481_38 rfl rfl (any_of HT_.out (by kernel_rfl)) idq (.inl ⟨by rfl, ?_⟩) ?_ ?_
                    rotate_left; ·intro w'; go_simp; with_reducible rfl
                    rotate_left; ·simp only [Act.put, sqA, sqB, sqC, i64_w, i32_w]; rfl
                    refine pure_ (i := 38) (N := some 125) (v := ?_) (a' := ?_) T54481_39 rfl rfl (any_of HT_.out (by kernel_rfl)) idq (.inl ⟨by rfl, ?_⟩) ?_ ?_
                    rotate_left; ·intro w'; go_simp; with_reducible rfl
                    rotate_left; ·simp only [Act.put, sqA, sqB, sqC, i64_w, i32_w]; rfl
                    refine pure_ (i := 39) (N := some 126) (v := ?_) (a' := ?_) T54481_40 rfl rfl (any_of HT_.out (by kernel_rfl)) idq (.inl ⟨by rfl, ?_⟩) ?_ ?_
                    rotate_left; ·intro w'; go_simp; with_reducible rfl
                    rotate_left; ·simp only [Act.put, sqA, sqB, sqC, i64_w, i32_w]; rfl
                    refine pure_ (i := 40) (N := some 127) (v := ?_) (a' := ?_) T54481_41 rfl rfl (any_of HT_.out (by kernel_rfl)) idq (.inl ⟨by rfl, ?_⟩) ?_ ?_
                    rotate_left; ·intro w'; go_simp; with_reducible rfl
                    rotate_left; ·simp only [Act.put, sqA, sqB, sqC, i64_w, i32_w]; rfl
                    refine pure_ (i := 41) (N := some 128) (v := ?_) (a' := ?_) T54481_42 rfl rfl (any_of HT_.out (by kernel_rfl)) idq (.inl ⟨by rfl, ?_⟩) ?_ ?_
                    rotate_left; ·intro w'; go_simp; with_reducible rfl
                    rotate_left; ·simp only [Act.put, sqA, sqB, sqC, i64_w, i32_w]; rfl
                    refine pure_ (i := 42) (N := some 129) (v := ?_) (a' := ?_) T54481_43 rfl rfl (any_of HT_.out (by kernel_rfl)) idq (.inl ⟨by rfl, ?_⟩) ?_ ?_
                    rotate_left; ·intro w'; go_simp; with_reducible rfl
                    rotate_left; ·simp only [Act.put, sqA, sqB, sqC, i64_w, i32_w]; rfl
                    refine pure_ (i := 43) (N := some 130) (v := ?_) (a' := ?_) T54481_44 rfl rfl (any_of HT_.out (by kernel_rfl)) idq (.inl ⟨by rfl, ?_⟩) ?_ ?_
                    rotate_left; ·intro w'; go_simp; with_reducible rfl
                    rotate_left; ·simp only [Act.put, sqA, sqB, sqC, i64_w, i32_w]; rfl
                    refine pure_ (i := 44) (N := some 131) (v := ?_) (a' := ?_) T54481_45 rfl rfl (any_of HT_.out (by kernel_rfl)) idq (.inl ⟨by rfl, ?_⟩) ?_ ?_
                    rotate_left; ·intro w'; go_simp; with_reducible rfl
                    rotate_left; ·simp only [Act.put, sqA, sqB, sqC, i64_w, i32_w]; rfl
                    refine pure_ (i := 45) (N := some 132) (v := ?_) (a' := ?_) T54481_46 rfl rfl (any_of HT_.out (by kernel_rfl)) idq (.inl ⟨by rfl, ?_⟩) ?_ ?_
                    rotate_left; ·intro w'; go_simp; with_reducible rfl
                    rotate_left; ·simp only [Act.put, sqA, sqB, sqC, i64_w, i32_w]; rfl
                    refine pure_ (i := 46) (N := some 133) (v := ?_) (a' := ?_) T54481_47 rfl rfl (any_of HT_.out (by kernel_rfl)) idq (.inl ⟨by rfl, ?_⟩) ?_ ?_
                    rotate_left; ·intro w'; go_simp; with_reducible rfl
                    rotate_left; ·simp only [Act.put, sqA, sqB, sqC, i64_w, i32_w]; rfl
                    refine take_ (i := 47) (N := some 134) (v := ?_) (a' := ?_) T54481_48 rfl rfl (take_ofW HT_.out HW_.out (by kernel_rfl)) idq (.inl ⟨by rfl, ?_⟩) hHeld ?_ ?_
                    rotate_left
                    ·rintro w' ⟨s0, s1, s2, s3, s4⟩
                     go_simp
                     with_reducible rfl
                    rotate_left; ·simp only [Act.put, sqA, sqB, sqC, i64_w, i32_w]; rfl
                    refine pure_ (i := 48) (N := some 135) (v := ?_) (a' := ?_) T54481_49 rfl rfl (any_of HT_.out (by kernel_rfl)) idq (.inl ⟨by rfl, ?_⟩) ?_ ?_
                    rotate_left; ·intro w'; go_simp; with_reducible rfl
                    rotate_left; ·simp only [Act.put, sqA, sqB, sqC, i64_w, i32_w]; rfl
                    refine pure_ (i := 49) (N := some 136) (v := ?_) (a' := ?_) T54481_50 rfl rfl (any_of HT_.out (by kernel_rfl)) idq (.inl ⟨by rfl, ?_⟩) ?_ ?_
                    rotate_left; ·intro w'; go_simp; with_reducible rfl
                    rotate_left; ·simp only [Act.put, sqA, sqB, sqC, i64_w, i32_w]; rfl
                    refine pure_ (i := 50) (N := some 137) (v := ?_) (a' := ?_) T54481_51 rfl rfl (any_of HT_.out (by kernel_rfl)) idq (.inl ⟨by rfl, ?_⟩) ?_ ?_
                    rotate_left; ·intro w'; go_simp; with_reducible rfl
                    rotate_left; ·simp only [Act.put, sqA, sqB, sqC, i64_w, i32_w]; rfl
                    refine done_ (done_of HT_.out (by kernel_rfl)) ?_
                    try go_wp2
                    go_roundg k2
                    case measure => have := HJ9.out; have := HK2.out; omega
                    case rel => exact ⟨(wrap64 (x82_2 + 1)), (by first | rfl | (simp; done) | (simp [*]; done)), H', ⟨by have := HJ9.out; have := HK2.out; omega⟩, ⟨by (with_reducible repeat (first | apply Kd.R_alloc | apply Kd.R_drewN | apply Kd.R_drew)); exact HO_1.out⟩, ⟨by (with_reducible repeat (first | apply Kd.R_alloc | apply Kd.R_drewN | apply Kd.R_drew)); exact HO_7.out⟩, ⟨by (with_reducible repeat (first | apply Kd.R_alloc | apply Kd.R_drewN | apply Kd.R_drew)); exact HO_9.out⟩, ⟨by (with_reducible repeat (first | apply Kd.R_alloc | apply Kd.R_drewN | apply Kd.R_drew)); exact HO_10.out⟩, ⟨by (with_reducible repeat (first | apply Kd.R_alloc | apply Kd.R_drewN | apply Kd.R_drew)); exact HO_80.out⟩, ⟨by repeat (first | (with_reducible first | exact HB.out | apply below_alloc | apply pw_below_drewN | apply below_drew1) | exact HB.out)⟩⟩
                   ·rw [if_neg c78] at H
                    exact absurd (Option.some.inj H) (by rw [hr_.out]; decide)
                  ·rw [if_neg c77] at H
                   have c77b0 : decide ((rd t266 x82_2) < 0) = false := decide_eq_false c77
                   clear c77
                   have H' := Aside0.mk H
                   clear H
                   have p288 : 0 ≤ (x82_2 : Int) := ofd_
                   have q288 : x82_2 < (t266.length : Int) := ofd_
                   (first | obtain ⟨ad288, e288, hx288_0⟩ := Kd.at_int (Kd.R_reads' HO_80.out).2.2 x82_2 p288 q288 | (obtain ⟨Az_, cz_, ez_⟩ := Kd.R_slice HO_80.out; subst ez_; obtain ⟨ad288, e288, hx288_0⟩ := Kd.at_int (Kd.R_reads' HO_80.out).2.2 x82_2 p288 q288))
                   cases e288
                   replace p288 := eq_true p288
                   replace q288 := eq_true q288
                   try go_wp2
                   have n0_ := Aside0.mk (Kd.R_drew HO_1.out)
                   have n1_ := Aside0.mk (Kd.R_drew HO_7.out)
                   have n2_ := Aside0.mk (Kd.R_drew HO_9.out)
                   have n3_ := Aside0.mk (Kd.R_drew HO_10.out)
                   have n4_ := Aside0.mk (Kd.R_drew HO_80.out)
                   have n5_ := Aside0.mk (below_drew1 HB.out)
                   clear HO_1
                   clear HO_7
                   clear HO_9
                   clear HO_10
                   clear HO_80
                   clear HB
                   have HO_1 := n0_
                   have HO_7 := n1_
                   have HO_9 := n2_
                   have HO_10 := n3_
                   have HO_80 := n4_
                   have HB := n5_
                   clear n0_ n1_ n2_ n3_ n4_ n5_
                   obtain ⟨Ao84, co84, eo84⟩ := Kd.R_slice HO_7.out
                   (first | subst eo84 | (injection eo84 with f1_ f2_ f3_; have f4_ := f1_.symm; have f5_ := f3_.symm; clear f1_ f2_ f3_; subst f4_; subst f5_))
                   have p289 : 0 ≤ (x82_2 : Int) := ofd_
                   have q289 : x82_2 < (t272.length : Int) := ofd_
                   (first | obtain ⟨ad289, e289, hx289_0⟩ := Kd.at_int (Kd.R_reads' HO_7.out).2.2 x82_2 p289 q289 | (obtain ⟨Az_, cz_, ez_⟩ := Kd.R_slice HO_7.out; subst ez_; obtain ⟨ad289, e289, hx289_0⟩ := Kd.at_int (Kd.R_reads' HO_7.out).2.2 x82_2 p289 q289))
                   cases e289
                   replace p289 := eq_true p289
                   replace q289 := eq_true q289
                   have p290 : 0 ≤ (x82_2 : Int) := ofd_
                   have q290 : x82_2 < (t269.length : Int) := ofd_
                   (first | obtain ⟨ad290, e290, hx290_0⟩ := Kd.at_int (Kd.R_reads' HO_1.out).2.2 x82_2 p290 q290 | (obtain ⟨Az_, cz_, ez_⟩ := Kd.R_slice HO_1.out; subst ez_; obtain ⟨ad290, e290, hx290_0⟩ := Kd.at_int (Kd.R_reads' HO_1.out).2.2 x82_2 p290 q290))
                   cases e290
                   replace p290 := eq_true p290
                   replace q290 := eq_true q290
                   have p292 : 0 ≤ (x82_2 : Int) := ofd_
                   have q292 : x82_2 < (t276.length : Int) := ofd_
                   (first | obtain ⟨ad292, e292, hx292_0⟩ := Kd.at_int (Kd.R_reads' HO_9.out).2.2 x82_2 p292 q292 | (obtain ⟨Az_, cz_, ez_⟩ := Kd.R_slice HO_9.out; subst ez_; obtain ⟨ad292, e292, hx292_0⟩ := Kd.at_int (Kd.R_reads' HO_9.out).2.2 x82_2 p292 q292))
                   cases e292
                   replace p292 := eq_true p292
                   replace q292 := eq_true q292
                   have p294 : 0 ≤ (x82_2 : Int) := ofd_
                   have q294 : x82_2 < (t279.length : Int) := ofd_
                   (first | obtain ⟨ad294, e294, hx294_0⟩ := Kd.at_int (Kd.R_reads' HO_10.out).2.2 x82_2 p294 q294 | (obtain ⟨Az_, cz_, ez_⟩ := Kd.R_slice HO_10.out; subst ez_; obtain ⟨ad294, e294, hx294_0⟩ := Kd.at_int (Kd.R_reads' HO_10.out).2.2 x82_2 p294 q294))
                   cases e294
                   replace p294 := eq_true p294
                   replace q294 := eq_true q294
                   refine start_ (n := 51) (S := fun w' => w'.cell? (ad289.add (x82_2).toNat) = some (.int .i32 (rd t272 x82_2)) ∧ w'.cell? (ad290.add (x82_2).toNat) = some (.int .i32 (rd t269 x82_2)) ∧ w'.cell? (ad292.add (x82_2).toNat) = some (.int .i32 (rd t276 x82_2)) ∧ w'.cell? (ad294.add (x82_2).toNat) = some (.int .i32 (rd t279 x82_2))) (ds := []) T54481_0 (by kernel_rfl) rfl rfl ⟨hx289_0, hx290_0, hx292_0, hx294_0⟩ (fun hHeld => ?_); refine with_tabW tillerlaw03_VecPlaces.tab10 tillerlaw03_VecPlaces.bits10 (fun HT_ HW_ => ?_)
                   generalize wr.drew = w83 at HO_1 HO_7 HO_9 HO_10 HO_80 HB hx289_0 hx290_0 hx292_0 hx294_0 hHeld ⊢
                   refine pure_ (i := 0) (N := some 87) (v := ?_) (a' := ?_) T54481_1 rfl rfl (any_of HT_.out (by kernel_rfl)) idq (.inl ⟨by rfl, ?_⟩) ?_ ?_
                   rotate_left; ·intro w'; go_simp; with_reducible rfl
                   rotate_left; ·simp only [Act.put, sqA, sqB, sqC, i64_w, i32_w]; rfl
                   refine pure_ (i := 1) (N := some 88) (v := ?_) (a' := ?_) T54481_2 rfl rfl (any_of HT_.out (by kernel_rfl)) idq (.inl ⟨by rfl, ?_⟩) ?_ ?_
                   rotate_left; ·intro w'; go_simp; with_reducible rfl
                   rotate_left; ·simp only [Act.put, sqA, sqB, sqC, i64_w, i32_w]; rfl
                   refine pure_ (i := 2) (N := some 89) (v := ?_) (a' := ?_) T54481_3 rfl rfl (any_of HT_.out (by kernel_rfl)) idq (.inl ⟨by rfl, ?_⟩) ?_ ?_
                   rotate_left; ·intro w'; go_simp; with_reducible rfl
                   rotate_left; ·simp only [Act.put, sqA, sqB, sqC, i64_w, i32_w]; rfl
                   refine pure_ (i := 3) (N := some 90) (v := ?_) (a' := ?_) T54481_4 rfl rfl (any_of HT_.out (by kernel_rfl)) idq (.inl ⟨by rfl, ?_⟩) ?_ ?_
                   rotate_left; ·intro w'; go_simp; with_reducible rfl
                   rotate_left; ·simp only [Act.put, sqA, sqB, sqC, i64_w, i32_w]; rfl
                   refine pure_ (i := 4) (N := some 91) (v := ?_) (a' := ?_) T54481_5 rfl rfl (any_of HT_.out (by kernel_rfl)) idq (.inl ⟨by rfl, ?_⟩) ?_ ?_
                   rotate_left; ·intro w'; go_simp; with_reducible rfl
                   rotate_left; ·simp only [Act.put, sqA, sqB, sqC, i64_w, i32_w]; rfl
                   refine pure_ (i := 5) (N := some 92) (v := ?_) (a' := ?_) T54481_6 rfl rfl (any_of HT_.out (by kernel_rfl)) idq (.inl ⟨by rfl, ?_⟩) ?_ ?_
                   rotate_left; ·intro w'; go_simp; with_reducible rfl
                   rotate_left; ·simp only [Act.put, sqA, sqB, sqC, i64_w, i32_w]; rfl
                   refine pure_ (i := 7) (N := some 94) (v := ?_) (a' := ?_) T54481_7 rfl rfl (any_of HT_.out (by kernel_rfl)) idq (.inl ⟨by rfl, ?_⟩) ?_ ?_
                   rotate_left; ·intro w'; go_simp; with_reducible rfl
                   rotate_left; ·simp only [Act.put, sqA, sqB, sqC, i64_w, i32_w]; rfl
                   refine pure_ (i := 8) (N := some 95) (v := ?_) (a' := ?_) T54481_8 rfl rfl (any_of HT_.out (by kernel_rfl)) idq (.inl ⟨by rfl, ?_⟩) ?_ ?_
                   rotate_left; ·intro w'; go_simp; with_reducible rfl
                   rotate_left; ·simp only [Act.put, sqA, sqB, sqC, i64_w, i32_w]; rfl
                   refine pure_ (i := 9) (N := some 96) (v := ?_) (a' := ?_) T54481_9 rfl rfl (any_of HT_.out (by kernel_rfl)) idq (.inl ⟨by rfl, ?_⟩) ?_ ?_
                   rotate_left; ·intro w'; go_simp; with_reducible rfl
                   rotate_left; ·simp only [Act.put, sqA, sqB, sqC, i64_w, i32_w]; rfl
                   refine pure_ (i := 10) (N := some 97) (v := ?_) (a' := ?_) T54481_10 rfl rfl (any_of HT_.out (by kernel_rfl)) idq (.inl ⟨by rfl, ?_⟩) ?_ ?_
                   rotate_left; ·intro w'; go_simp; with_reducible rfl
                   rotate_left; ·simp only [Act.put, sqA, sqB, sqC, i64_w, i32_w]; rfl
                   refine pure_ (i := 11) (N := some 98) (v := ?_) (a' := ?_) T54481_11 rfl rfl (any_of HT_.out (by kernel_rfl)) idq (.inl ⟨by rfl, ?_⟩) ?_ ?_
                   rotate_left; ·intro w'; go_simp; with_reducible rfl
                   rotate_left; ·simp only [Act.put, sqA, sqB, sqC, i64_w, i32_w]; rfl
                   refine take_ (i := 6) (N := some 93) (v := ?_) (a' := ?_) T54481_12 rfl rfl (take_ofW HT_.out HW_.out (by kernel_rfl)) idq (.inl ⟨by rfl, ?_⟩) hHeld ?_ ?_
                   rotate_left
                   ·rintro w' ⟨s0, s1, s2, s3⟩
                    go_simp
                    with_reducible rfl
                   rotate_left; ·simp only [Act.put, sqA, sqB, sqC, i64_w, i32_w]; rfl
                   refine take_ (i := 12) (N := some 99) (v := ?_) (a' := ?_) T54481_13 rfl rfl (take_ofW HT_.out HW_.out (by kernel_rfl)) idq (.inl ⟨by rfl, ?_⟩) hHeld ?_ ?_
                   rotate_left
                   ·rintro w' ⟨s0, s1, s2, s3⟩
                    go_simp
                    with_reducible rfl
                   rotate_left; ·simp only [Act.put, sqA, sqB, sqC, i64_w, i32_w]; rfl
                   refine pure_ (i := 13) (N := some 100) (v := ?_) (a' := ?_) T54481_14 rfl rfl (any_of HT_.out (by kernel_rfl)) idq (.inl ⟨by rfl, ?_⟩) ?_ ?_
                   rotate_left; ·intro w'; go_simp; with_reducible rfl
                   rotate_left; ·simp only [Act.put, sqA, sqB, sqC, i64_w, i32_w]; rfl
                   refine pure_ (i := 14) (N := some 101) (v := ?_) (a' := ?_) T54481_15 rfl rfl (any_of HT_.out (by kernel_rfl)) idq (.inl ⟨by rfl, ?_⟩) ?_ ?_
                   rotate_left; ·intro w'; go_simp; with_reducible rfl
                   rotate_left; ·simp only [Act.put, sqA, sqB, sqC, i64_w, i32_w]; rfl
                   refine one_ (i := 15) (N := some 102) T54481_16 rfl rfl (one_of HT_.out (by kernel_rfl)) (by decide) (fun K hK => ?_)
                   refine goes_ Try.func26 (by kernel_rfl) rfl #[.int .i64 (wrap64 ((wrap64 (rd t266 x82_2)) + (wrap64 (rd t269 x82_2))))] (by rfl) rfl rfl (by (try simp only [List.map_toArray, List.map_cons, List.map_nil]); first | done | rfl | (simp only [List.length_drop, List.length_take]; rfl)) ?_
                   with_reducible refine (tillerref01_Sat.calls (wrap64 ((wrap64 (rd t266 x82_2)) + (wrap64 (rd t269 x82_2)))) t291 _ A69.out).mono ?_
                   rintro e w' ⟨rfl, ⟨nd, rfl⟩⟩
                   refine ⟨_, rfl, ?_⟩
                   obtain ⟨Ao85, co85, eo85⟩ := Kd.R_slice HO_9.out
                   (first | subst eo85 | (injection eo85 with f1_ f2_ f3_; have f4_ := f1_.symm; have f5_ := f3_.symm; clear f1_ f2_ f3_; subst f4_; subst f5_))
                   refine hK.out _ _ ⟨hHeld.1, hHeld.2.1, hHeld.2.2.1, hHeld.2.2.2⟩ (fun hHeld => ?_)
                   clear hK K
                   refine norm_ (a' := ?_) ?_ ?_
                   rotate_left
                   ·show Act.put _ (some 102) _ = _
                    simp only [Act.put, sqA, sqB, sqC, i64_w, i32_w]
                    rfl
                   refine pure_ (i := 16) (N := some 103) (v := ?_) (a' := ?_) T54481_17 rfl rfl (any_of HT_.out (by kernel_rfl)) idq (.inl ⟨by rfl, ?_⟩) ?_ ?_
                   rotate_left; ·intro w'; go_simp; with_reducible rfl
                   rotate_left; ·simp only [Act.put, sqA, sqB, sqC, i64_w, i32_w]; rfl
                   refine pure_ (i := 17) (N := some 104) (v := ?_) (a' := ?_) T54481_18 rfl rfl (any_of HT_.out (by kernel_rfl)) idq (.inl ⟨by rfl, ?_⟩) ?_ ?_
                   rotate_left; ·intro w'; go_simp; with_reducible rfl
                   rotate_left; ·simp only [Act.put, sqA, sqB, sqC, i64_w, i32_w]; rfl
                   refine pure_ (i := 18) (N := some 105) (v := ?_) (a' := ?_) T54481_19 rfl rfl (any_of HT_.out (by kernel_rfl)) idq (.inl ⟨by rfl, ?_⟩) ?_ ?_
                   rotate_left; ·intro w'; go_simp; with_reducible rfl
                   rotate_left; ·simp only [Act.put, sqA, sqB, sqC, i64_w, i32_w]; rfl
                   refine pure_ (i := 19) (N := some 106) (v := ?_) (a' := ?_) T54481_20 rfl rfl (any_of HT_.out (by kernel_rfl)) idq (.inl ⟨by rfl, ?_⟩) ?_ ?_
                   rotate_left; ·intro w'; go_simp; with_reducible rfl
                   rotate_left; ·simp only [Act.put, sqA, sqB, sqC, i64_w, i32_w]; rfl
                   refine pure_ (i := 20) (N := some 107) (v := ?_) (a' := ?_) T54481_21 rfl rfl (any_of HT_.out (by kernel_rfl)) idq (.inl ⟨by rfl, ?_⟩) ?_ ?_
                   rotate_left; ·intro w'; go_simp; with_reducible rfl
                   rotate_left; ·simp only [Act.put, sqA, sqB, sqC, i64_w, i32_w]; rfl
                   refine pure_ (i := 21) (N := some 108) (v := ?_) (a' := ?_) T54481_22 rfl rfl (any_of HT_.out (by kernel_rfl)) idq (.inl ⟨by rfl, ?_⟩) ?_ ?_
                   rotate_left; ·intro w'; go_simp; with_reducible rfl
                   rotate_left; ·simp only [Act.put, sqA, sqB, sqC, i64_w, i32_w]; rfl
                   refine pure_ (i := 23) (N := some 110) (v := ?_) (a' := ?_) T54481_23 rfl rfl (any_of HT_.out (by kernel_rfl)) idq (.inl ⟨by rfl, ?_⟩) ?_ ?_
                   rotate_left; ·intro w'; go_simp; with_reducible rfl
                   rotate_left; ·simp only [Act.put, sqA, sqB, sqC, i64_w, i32_w]; rfl
                   refine pure_ (i := 24) (N := some 111) (v := ?_) (a' := ?_) T54481_24 rfl rfl (any_of HT_.out (by kernel_rfl)) idq (.inl ⟨by rfl, ?_⟩) ?_ ?_
                   rotate_left; ·intro w'; go_simp; with_reducible rfl
                   rotate_left; ·simp only [Act.put, sqA, sqB, sqC, i64_w, i32_w]; rfl
                   refine take_ (i := 22) (N := some 109) (v := ?_) (a' := ?_) T54481_25 rfl rfl (take_ofW HT_.out HW_.out (by kernel_rfl)) idq (.inl ⟨by rfl, ?_⟩) hHeld ?_ ?_
                   rotate_left
                   ·rintro w' ⟨s0, s1, s2, s3⟩
                    go_simp
                    with_reducible rfl
                   rotate_left; ·simp only [Act.put, sqA, sqB, sqC, i64_w, i32_w]; rfl
                   refine one_ (i := 25) (N := some 112) T54481_26 rfl rfl (one_of HT_.out (by kernel_rfl)) (by decide) (fun K hK => ?_)
                   refine goes_ Try.func27 (by kernel_rfl) rfl #[.int .i32 (rd t266 x82_2), .int .i32 a2] (by rfl) rfl rfl (by (try simp only [List.map_toArray, List.map_cons, List.map_nil]); first | done | rfl | (simp only [List.length_drop, List.length_take]; rfl)) ?_
                   with_reducible refine (tillerref01_Mul.calls k2 (rd t266 x82_2) a2 t293 _ A72.out).mono ?_
                   rintro e w' ⟨rfl, ⟨nd, rfl⟩⟩
                   refine ⟨_, rfl, ?_⟩
                   obtain ⟨Ao86, co86, eo86⟩ := Kd.R_slice HO_10.out
                   (first | subst eo86 | (injection eo86 with f1_ f2_ f3_; have f4_ := f1_.symm; have f5_ := f3_.symm; clear f1_ f2_ f3_; subst f4_; subst f5_))
                   refine hK.out _ _ ⟨hHeld.1, hHeld.2.1, hHeld.2.2.1, hHeld.2.2.2⟩ (fun hHeld => ?_)
                   clear hK K
                   refine norm_ (a' := ?_) ?_ ?_
                   rotate_left
                   ·show Act.put _ (some 112) _ = _
                    simp only [Act.put, sqA, sqB, sqC, i64_w, i32_w]
                    rfl
                   refine pure_ (i := 26) (N := some 113) (v := ?_) (a' := ?_) T54481_27 rfl rfl (any_of HT_.out (by kernel_rfl)) idq (.inl ⟨by rfl, ?_⟩) ?_ ?_
                   rotate_left; ·intro w'; go_simp; with_reducible rfl
                   rotate_left; ·simp only [Act.put, sqA, sqB, sqC, i64_w, i32_w]; rfl
                   refine pure_ (i := 27) (N := some 114) (v := ?_) (a' := ?_) T54481_28 rfl rfl (any_of HT_.out (by kernel_rfl)) idq (.inl ⟨by rfl, ?_⟩) ?_ ?_
                   rotate_left; ·intro w'; go_simp; with_reducible rfl
                   rotate_left; ·simp only [Act.put, sqA, sqB, sqC, i64_w, i32_w]; rfl
                   refine pure_ (i := 28) (N := some 115) (v := ?_) (a' := ?_) T54481_29 rfl rfl (any_of HT_.out (by kernel_rfl)) idq (.inl ⟨by rfl, ?_⟩) ?_ ?_
                   rotate_left; ·intro w'; go_simp; with_reducible rfl
                   rotate_left; ·simp only [Act.put, sqA, sqB, sqC, i64_w, i32_w]; rfl
                   refine pure_ (i := 29) (N := some 116) (v := ?_) (a' := ?_) T54481_30 rfl rfl (any_of HT_.out (by kernel_rfl)) idq (.inl ⟨by rfl, ?_⟩) ?_ ?_
                   rotate_left; ·intro w'; go_simp; with_reducible rfl
                   rotate_left; ·simp only [Act.put, sqA, sqB, sqC, i64_w, i32_w]; rfl
                   refine pure_ (i := 30) (N := some 117) (v := ?_) (a' := ?_) T54481_31 rfl rfl (any_of HT_.out (by kernel_rfl)) idq (.inl ⟨by rfl, ?_⟩) ?_ ?_
                   rotate_left; ·intro w'; go_simp; with_reducible rfl
                   rotate_left; ·simp only [Act.put, sqA, sqB, sqC, i64_w, i32_w]; rfl
                   refine pure_ (i := 31) (N := some 118) (v := ?_) (a' := ?_) T54481_32 rfl rfl (any_of HT_.out (by kernel_rfl)) idq (.inl ⟨by rfl, ?_⟩) ?_ ?_
                   rotate_left; ·intro w'; go_simp; with_reducible rfl
                   rotate_left; ·simp only [Act.put, sqA, sqB, sqC, i64_w, i32_w]; rfl
                   refine pure_ (i := 32) (N := some 119) (v := ?_) (a' := ?_) T54481_33 rfl rfl (any_of HT_.out (by kernel_rfl)) idq (.inl ⟨by rfl, ?_⟩) ?_ ?_
                   rotate_left; ·intro w'; go_simp; with_reducible rfl
                   rotate_left; ·simp only [Act.put, sqA, sqB, sqC, i64_w, i32_w]; rfl
                   refine pure_ (i := 33) (N := some 120) (v := ?_) (a' := ?_) T54481_34 rfl rfl (any_of HT_.out (by kernel_rfl)) idq (.inl ⟨by rfl, ?_⟩) ?_ ?_
                   rotate_left; ·intro w'; go_simp; with_reducible rfl
                   rotate_left; ·simp only [Act.put, sqA, sqB, sqC, i64_w, i32_w]; rfl
                   refine pure_ (i := 34) (N := some 121) (v := ?_) (a' := ?_) T54481_35 rfl rfl (any_of HT_.out (by kernel_rfl)) idq (.inl ⟨by rfl, ?_⟩) ?_ ?_
                   rotate_left; ·intro w'; go_simp; with_reducible rfl
                   rotate_left; ·simp only [Act.put, sqA, sqB, sqC, i64_w, i32_w]; rfl
                   refine pure_ (i := 36) (N := some 123) (v := ?_) (a' := ?_) T54481_36 rfl rfl (any_of HT_.out (by kernel_rfl)) idq (.inl ⟨by rfl, ?_⟩) ?_ ?_
                   rotate_left; ·intro w'; go_simp; with_reducible rfl
                   rotate_left; ·simp only [Act.put, sqA, sqB, sqC, i64_w, i32_w]; rfl
                   refine take_ (i := 35) (N := some 122) (v := ?_) (a' := ?_) T54481_37 rfl rfl (take_ofW HT_.out HW_.out (by kernel_rfl)) idq (.inl ⟨by rfl, ?_⟩) hHeld ?_ ?_
                   rotate_left
                   ·rintro w' ⟨s0, s1, s2, s3⟩
                    go_simp
                    with_reducible rfl
                   rotate_left; ·simp only [Act.put, sqA, sqB, sqC, i64_w, i32_w]; rfl
                   refine pure_ (i := 37) (N := some 124) (v := ?_) (a' := ?_) T54481_38 rfl rfl (any_of HT_.out (by kernel_rfl)) idq (.inl ⟨by rfl, ?_⟩) ?_ ?_
                   rotate_left; ·intro w'; go_simp; with_reducible rfl
                   rotate_left; ·simp only [Act.put, sqA, sqB, sqC, i64_w, i32_w]; rfl
                   refine pure_ (i := 38) (N := some 125) (v := ?_) (a' := ?_) T54481_39 rfl rfl (any_of HT_.out (by kernel_rfl)) idq (.inl ⟨by rfl, ?_⟩) ?_ ?_
                   rotate_left; ·intro w'; go_simp; with_reducible rfl
                   rotate_left; ·simp only [Act.put, sqA, sqB, sqC, i64_w, i32_w]; rfl
                   refine pure_ (i := 39) (N := some 126) (v := ?_) (a' := ?_) T54481_40 rfl rfl (any_of HT_.out (by kernel_rfl)) idq (.inl ⟨by rfl, ?_⟩) ?_ ?_
                   rotate_left; ·intro w'; go_simp; with_reducible rfl
                   rotate_left; ·simp only [Act.put, sqA, sqB, sqC, i64_w, i32_w]; rfl
                   refine pure_ (i := 40) (N := some 127) (v := ?_) (a' := ?_) T54481_41 rfl rfl (any_of HT_.out (by kernel_rfl)) idq (.inl ⟨by rfl, ?_⟩) ?_ ?_
                   rotate_left; ·intro w'; go_simp; with_reducible rfl
                   rotate_left; ·simp only [Act.put, sqA, sqB, sqC, i64_w, i32_w]; rfl
                   refine pure_ (i := 41) (N := some 128) (v := ?_) (a' := ?_) T54481_42 rfl rfl (any_of HT_.out (by kernel_rfl)) idq (.inl ⟨by rfl, ?_⟩) ?_ ?_
                   rotate_left; ·intro w'; go_simp; with_reducible rfl
                   rotate_left; ·simp only [Act.put, sqA, sqB, sqC, i64_w, i32_w]; rfl
                   refine pure_ (i := 42) (N := some 129) (v := ?_) (a' := ?_) T54481_43 rfl rfl (any_of HT_.out (by kernel_rfl)) idq (.inl ⟨by rfl, ?_⟩) ?_ ?_
                   rotate_left; ·intro w'; go_simp; with_reducible rfl
                   rotate_left; ·simp only [Act.put, sqA, sqB, sqC, i64_w, i32_w]; rfl
                   refine pure_ (i := 43) (N := some 130) (v := ?_) (a' := ?_) T54481_44 rfl rfl (any_of HT_.out (by kernel_rfl)) idq (.inl ⟨by rfl, ?_⟩) ?_ ?_
                   rotate_left; ·intro w'; go_simp; with_reducible rfl
                   rotate_left; ·simp only [Act.put, sqA, sqB, sqC, i64_w, i32_w]; rfl
                   refine pure_ (i := 44) (N := some 131) (v := undef) (a' := ?_) T54481_45 rfl rfl (any_of HT_.out (by kernel_rfl)) (fun _ _ _ h => h) (Or.inr ⟨by rfl, rfl⟩) ?_ ?_
                   rotate_left; ·simp only [Act.put, sqA, sqB, sqC, i64_w, i32_w]; rfl
                   refine pure_ (i := 45) (N := some 132) (v := undef) (a' := ?_) T54481_46 rfl rfl (any_of HT_.out (by kernel_rfl)) (fun _ _ _ h => h) (Or.inr ⟨by rfl, rfl⟩) ?_ ?_
                   rotate_left; ·simp only [Act.put, sqA, sqB, sqC, i64_w, i32_w]; rfl
                   refine pure_ (i := 46) (N := some 133) (v := undef) (a' := ?_) T54481_47 rfl rfl (any_of HT_.out (by kernel_rfl)) (fun _ _ _ h => h) (Or.inr ⟨by rfl, rfl⟩) ?_ ?_
                   rotate_left; ·simp only [Act.put, sqA, sqB, sqC, i64_w, i32_w]; rfl
                   refine pure_ (i := 47) (N := some 134) (v := undef) (a' := ?_) T54481_48 rfl rfl (any_of HT_.out (by kernel_rfl)) (fun _ _ _ h => h) (Or.inr ⟨by rfl, rfl⟩) ?_ ?_
                   rotate_left; ·simp only [Act.put, sqA, sqB, sqC, i64_w, i32_w]; rfl
                   refine pure_ (i := 48) (N := some 135) (v := undef) (a' := ?_) T54481_49 rfl rfl (any_of HT_.out (by kernel_rfl)) (fun _ _ _ h => h) (Or.inr ⟨by rfl, rfl⟩) ?_ ?_
                   rotate_left; ·simp only [Act.put, sqA, sqB, sqC, i64_w, i32_w]; rfl
                   refine pure_ (i := 49) (N := some 136) (v := ?_) (a' := ?_) T54481_50 rfl rfl (any_of HT_.out (by kernel_rfl)) idq (.inl ⟨by rfl, ?_⟩) ?_ ?_
                   rotate_left; ·intro w'; go_simp; with_reducible rfl
                   rotate_left; ·simp only [Act.put, sqA, sqB, sqC, i64_w, i32_w]; rfl
                   refine pure_ (i := 50) (N := some 137) (v := ?_) (a' := ?_) T54481_51 rfl rfl (any_of HT_.out (by kernel_rfl)) idq (.inl ⟨by rfl, ?_⟩) ?_ ?_
                   rotate_left; ·intro w'; go_simp; with_reducible rfl
                   rotate_left; ·simp only [Act.put, sqA, sqB, sqC, i64_w, i32_w]; rfl
                   refine done_ (done_of HT_.out (by kernel_rfl)) ?_
                   try go_wp2
                   go_roundg k2
                   case measure => have := HJ9.out; have := HK2.out; omega
                   case rel => exact ⟨(wrap64 (x82_2 + 1)), (by first | rfl | (simp; done) | (simp [*]; done)), H', ⟨by have := HJ9.out; have := HK2.out; omega⟩, ⟨by (with_reducible repeat (first | apply Kd.R_alloc | apply Kd.R_drewN | apply Kd.R_drew)); exact HO_1.out⟩, ⟨by (with_reducible repeat (first | apply Kd.R_alloc | apply Kd.R_drewN | apply Kd.R_drew)); exact HO_7.out⟩, ⟨by (with_reducible repeat (first | apply Kd.R_alloc | apply Kd.R_drewN | apply Kd.R_drew)); exact HO_9.out⟩, ⟨by (with_reducible repeat (first | apply Kd.R_alloc | apply Kd.R_drewN | apply Kd.R_drew)); exact HO_10.out⟩, ⟨by (with_reducible repeat (first | apply Kd.R_alloc | apply Kd.R_drewN | apply Kd.R_drew)); exact HO_80.out⟩, ⟨by repeat (first | (with_reducible first | exact HB.out | apply below_alloc | apply pw_below_drewN | apply below_drew1) | exact HB.out)⟩⟩
                 ·rw [if_neg c76] at H
                  have c76b0 : ((rd t279 x82_2) == (rd t266 x82_2)) = false := beq_eq_false_iff_ne.mpr c76
                  have c76b1 : ((rd t279 x82_2) != (rd t266 x82_2)) = true := bne_iff_ne.mpr c76
                  exact absurd (Option.some.inj H) (by rw [hr_.out]; decide)
                ·rw [if_neg c75] at H
                 exact absurd H (by simp)
               ·rw [if_neg c74] at H
                have c74b0 : decide (0 ≤ (rd t266 x82_2)) = false := decide_eq_false c74
                clear c74
                by_cases c87 : (rd t266 x82_2) < 0
                ·rw [if_pos c87] at H
                 have c87b0 : decide ((rd t266 x82_2) < 0) = true := decide_eq_true c87
                 clear c87
                 by_cases c88 : x82_2 < (t279.length : Int)
                 ·rw [if_pos c88] at H
                  have c88b0 : decide (x82_2 < (t279.length : Int)) = true := decide_eq_true c88
                  clear c88
                  by_cases c89 : (rd t279 x82_2) = 0
                  ·rw [if_pos c89] at H
                   have c89b0 : ((rd t279 x82_2) == 0) = true := beq_iff_eq.mpr c89
                   have c89b1 : ((rd t279 x82_2) != 0) = false := bne_eq_false_iff_eq.mpr c89
                   clear c89
                   have H' := Aside0.mk H
                   clear H
                   have p288 : 0 ≤ (x82_2 : Int) := ofd_
                   have q288 : x82_2 < (t266.length : Int) := ofd_
                   (first | obtain ⟨ad288, e288, hx288_0⟩ := Kd.at_int (Kd.R_reads' HO_80.out).2.2 x82_2 p288 q288 | (obtain ⟨Az_, cz_, ez_⟩ := Kd.R_slice HO_80.out; subst ez_; obtain ⟨ad288, e288, hx288_0⟩ := Kd.at_int (Kd.R_reads' HO_80.out).2.2 x82_2 p288 q288))
                   cases e288
                   replace p288 := eq_true p288
                   replace q288 := eq_true q288
                   try go_wp2
                   have n0_ := Aside0.mk (Kd.R_drew HO_1.out)
                   have n1_ := Aside0.mk (Kd.R_drew HO_7.out)
                   have n2_ := Aside0.mk (Kd.R_drew HO_9.out)
                   have n3_ := Aside0.mk (Kd.R_drew HO_10.out)
                   have n4_ := Aside0.mk (Kd.R_drew HO_80.out)
                   have n5_ := Aside0.mk (below_drew1 HB.out)
                   clear HO_1
                   clear HO_7
                   clear HO_9
                   clear HO_10
                   clear HO_80
                   clear HB
                   have HO_1 := n0_
                   have HO_7 := n1_
                   have HO_9 := n2_
                   have HO_10 := n3_
                   have HO_80 := n4_
                   have HB := n5_
                   clear n0_ n1_ n2_ n3_ n4_ n5_
                   obtain ⟨Ao91, co91, eo91⟩ := Kd.R_slice HO_7.out
                   (first | subst eo91 | (injection eo91 with f1_ f2_ f3_; have f4_ := f1_.symm; have f5_ := f3_.symm; clear f1_ f2_ f3_; subst f4_; subst f5_))
                   have p289 : 0 ≤ (x82_2 : Int) := ofd_
                   have q289 : x82_2 < (t272.length : Int) := ofd_
                   (first | obtain ⟨ad289, e289, hx289_0⟩ := Kd.at_int (Kd.R_reads' HO_7.out).2.2 x82_2 p289 q289 | (obtain ⟨Az_, cz_, ez_⟩ := Kd.R_slice HO_7.out; subst ez_; obtain ⟨ad289, e289, hx289_0⟩ := Kd.at_int (Kd.R_reads' HO_7.out).2.2 x82_2 p289 q289))
                   cases e289
                   replace p289 := eq_true p289
                   replace q289 := eq_true q289
                   have p290 : 0 ≤ (x82_2 : Int) := ofd_
                   have q290 : x82_2 < (t269.length : Int) := ofd_
                   (first | obtain ⟨ad290, e290, hx290_0⟩ := Kd.at_int (Kd.R_reads' HO_1.out).2.2 x82_2 p290 q290 | (obtain ⟨Az_, cz_, ez_⟩ := Kd.R_slice HO_1.out; subst ez_; obtain ⟨ad290, e290, hx290_0⟩ := Kd.at_int (Kd.R_reads' HO_1.out).2.2 x82_2 p290 q290))
                   cases e290
                   replace p290 := eq_true p290
                   replace q290 := eq_true q290
                   have p292 : 0 ≤ (x82_2 : Int) := ofd_
                   have q292 : x82_2 < (t276.length : Int) := ofd_
                   (first | obtain ⟨ad292, e292, hx292_0⟩ := Kd.at_int (Kd.R_reads' HO_9.out).2.2 x82_2 p292 q292 | (obtain ⟨Az_, cz_, ez_⟩ := Kd.R_slice HO_9.out; subst ez_; obtain ⟨ad292, e292, hx292_0⟩ := Kd.at_int (Kd.R_reads' HO_9.out).2.2 x82_2 p292 q292))
                   cases e292
                   replace p292 := eq_true p292
                   replace q292 := eq_true q292
                   have p296 : 0 ≤ (x82_2 : Int) := ofd_
                   have q296 : x82_2 < (t279.length : Int) := ofd_
                   (first | obtain ⟨ad296, e296, hx296_0⟩ := Kd.at_int (Kd.R_reads' HO_10.out).2.2 x82_2 p296 q296 | (obtain ⟨Az_, cz_, ez_⟩ := Kd.R_slice HO_10.out; subst ez_; obtain ⟨ad296, e296, hx296_0⟩ := Kd.at_int (Kd.R_reads' HO_10.out).2.2 x82_2 p296 q296))
                   cases e296
                   replace p296 := eq_true p296
                   replace q296 := eq_true q296
                   refine start_ (n := 51) (S := fun w' => w'.cell? (ad289.add (x82_2).toNat) = some (.int .i32 (rd t272 x82_2)) ∧ w'.cell? (ad290.add (x82_2).toNat) = some (.int .i32 (rd t269 x82_2)) ∧ w'.cell? (ad292.add (x82_2).toNat) = some (.int .i32 (rd t276 x82_2)) ∧ w'.cell? (ad296.add (x82_2).toNat) = some (.int .i32 (rd t279 x82_2))) (ds := []) T54481_0 (by kernel_rfl) rfl rfl ⟨hx289_0, hx290_0, hx292_0, hx296_0⟩ (fun hHeld => ?_); refine with_tabW tillerlaw03_VecPlaces.tab10 tillerlaw03_VecPlaces.bits10 (fun HT_ HW_ => ?_)
                   generalize wr.drew = w90 at HO_1 HO_7 HO_9 HO_10 HO_80 HB hx289_0 hx290_0 hx292_0 hx296_0 hHeld ⊢
                   refine pure_ (i := 0) (N := some 87) (v := ?_) (a' := ?_) T54481_1 rfl rfl (any_of HT_.out (by kernel_rfl)) idq (.inl ⟨by rfl, ?_⟩) ?_ ?_
                   rotate_left; ·intro w'; go_simp; with_reducible rfl
                   rotate_left; ·simp only [Act.put, sqA, sqB, sqC, i64_w, i32_w]; rfl
                   refine pure_ (i := 1) (N := some 88) (v := ?_) (a' := ?_) T54481_2 rfl rfl (any_of HT_.out (by kernel_rfl)) idq (.inl ⟨by rfl, ?_⟩) ?_ ?_
                   rotate_left; ·intro w'; go_simp; with_reducible rfl
                   rotate_left; ·simp only [Act.put, sqA, sqB, sqC, i64_w, i32_w]; rfl
                   refine pure_ (i := 2) (N := some 89) (v := ?_) (a' := ?_) T54481_3 rfl rfl (any_of HT_.out (by kernel_rfl)) idq (.inl ⟨by rfl, ?_⟩) ?_ ?_
                   rotate_left; ·intro w'; go_simp; with_reducible rfl
                   rotate_left; ·simp only [Act.put, sqA, sqB, sqC, i64_w, i32_w]; rfl
                   refine pure_ (i := 3) (N := some 90) (v := ?_) (a' := ?_) T54481_4 rfl rfl (any_of HT_.out (by kernel_rfl)) idq (.inl ⟨by rfl, ?_⟩) ?_ ?_
                   rotate_left; ·intro w'; go_simp; with_reducible rfl
                   rotate_left; ·simp only [Act.put, sqA, sqB, sqC, i64_w, i32_w]; rfl
                   refine pure_ (i := 4) (N := some 91) (v := ?_) (a' := ?_) T54481_5 rfl rfl (any_of HT_.out (by kernel_rfl)) idq (.inl ⟨by rfl, ?_⟩) ?_ ?_
                   rotate_left; ·intro w'; go_simp; with_reducible rfl
                   rotate_left; ·simp only [Act.put, sqA, sqB, sqC, i64_w, i32_w]; rfl
                   refine pure_ (i := 5) (N := some 92) (v := ?_) (a' := ?_) T54481_6 rfl rfl (any_of HT_.out (by kernel_rfl)) idq (.inl ⟨by rfl, ?_⟩) ?_ ?_
                   rotate_left; ·intro w'; go_simp; with_reducible rfl
                   rotate_left; ·simp only [Act.put, sqA, sqB, sqC, i64_w, i32_w]; rfl
                   refine pure_ (i := 7) (N := some 94) (v := ?_) (a' := ?_) T54481_7 rfl rfl (any_of HT_.out (by kernel_rfl)) idq (.inl ⟨by rfl, ?_⟩) ?_ ?_
                   rotate_left; ·intro w'; go_simp; with_reducible rfl
                   rotate_left; ·simp only [Act.put, sqA, sqB, sqC, i64_w, i32_w]; rfl
                   refine pure_ (i := 8) (N := some 95) (v := ?_) (a' := ?_) T54481_8 rfl rfl (any_of HT_.out (by kernel_rfl)) idq (.inl ⟨by rfl, ?_⟩) ?_ ?_
                   rotate_left; ·intro w'; go_simp; with_reducible rfl
                   rotate_left; ·simp only [Act.put, sqA, sqB, sqC, i64_w, i32_w]; rfl
                   refine pure_ (i := 9) (N := some 96) (v := ?_) (a' := ?_) T54481_9 rfl rfl (any_of HT_.out (by kernel_rfl)) idq (.inl ⟨by rfl, ?_⟩) ?_ ?_
                   rotate_left; ·intro w'; go_simp; with_reducible rfl
                   rotate_left; ·simp only [Act.put, sqA, sqB, sqC, i64_w, i32_w]; rfl
                   refine pure_ (i := 10) (N := some 97) (v := ?_) (a' := ?_) T54481_10 rfl rfl (any_of HT_.out (by kernel_rfl)) idq (.inl ⟨by rfl, ?_⟩) ?_ ?_
                   rotate_left; ·intro w'; go_simp; with_reducible rfl
                   rotate_left; ·simp only [Act.put, sqA, sqB, sqC, i64_w, i32_w]; rfl
                   refine pure_ (i := 11) (N := some 98) (v := ?_) (a' := ?_) T54481_11 rfl rfl (any_of HT_.out (by kernel_rfl)) idq (.inl ⟨by rfl, ?_⟩) ?_ ?_
                   rotate_left; ·intro w'; go_simp; with_reducible rfl
                   rotate_left; ·simp only [Act.put, sqA, sqB, sqC, i64_w, i32_w]; rfl
                   refine take_ (i := 6) (N := some 93) (v := ?_) (a' := ?_) T54481_12 rfl rfl (take_ofW HT_.out HW_.out (by kernel_rfl)) idq (.inl ⟨by rfl, ?_⟩) hHeld ?_ ?_
                   rotate_left
                   ·rintro w' ⟨s0, s1, s2, s3⟩
                    go_simp
                    with_reducible rfl
                   rotate_left; ·simp only [Act.put, sqA, sqB, sqC, i64_w, i32_w]; rfl
                   refine take_ (i := 12) (N := some 99) (v := ?_) (a' := ?_) T54481_13 rfl rfl (take_ofW HT_.out HW_.out (by kernel_rfl)) idq (.inl ⟨by rfl, ?_⟩) hHeld ?_ ?_
                   rotate_left
                   ·rintro w' ⟨s0, s1, s2, s3⟩
                    go_simp
                    with_reducible rfl
                   rotate_left; ·simp only [Act.put, sqA, sqB, sqC, i64_w, i32_w]; rfl
                   refine pure_ (i := 13) (N := some 100) (v := ?_) (a' := ?_) T54481_14 rfl rfl (any_of HT_.out (by kernel_rfl)) idq (.inl ⟨by rfl, ?_⟩) ?_ ?_
                   rotate_left; ·intro w'; go_simp; with_reducible rfl
                   rotate_left; ·simp only [Act.put, sqA, sqB, sqC, i64_w, i32_w]; rfl
                   refine pure_ (i := 14) (N := some 101) (v := ?_) (a' := ?_) T54481_15 rfl rfl (any_of HT_.out (by kernel_rfl)) idq (.inl ⟨by rfl, ?_⟩) ?_ ?_
                   rotate_left; ·intro w'; go_simp; with_reducible rfl
                   rotate_left; ·simp only [Act.put, sqA, sqB, sqC, i64_w, i32_w]; rfl
                   refine one_ (i := 15) (N := some 102) T54481_16 rfl rfl (one_of HT_.out (by kernel_rfl)) (by decide) (fun K hK => ?_)
                   refine goes_ Try.func26 (by kernel_rfl) rfl #[.int .i64 (wrap64 ((wrap64 (rd t266 x82_2)) + (wrap64 (rd t269 x82_2))))] (by rfl) rfl rfl (by (try simp only [List.map_toArray, List.map_cons, List.map_nil]); first | done | rfl | (simp only [List.length_drop, List.length_take]; rfl)) ?_
                   with_reducible refine (tillerref01_Sat.calls (wrap64 ((wrap64 (rd t266 x82_2)) + (wrap64 (rd t269 x82_2)))) t291 _ A69.out).mono ?_
                   rintro e w' ⟨rfl, ⟨nd, rfl⟩⟩
                   refine ⟨_, rfl, ?_⟩
                   obtain ⟨Ao92, co92, eo92⟩ := Kd.R_slice HO_9.out
                   (first | subst eo92 | (injection eo92 with f1_ f2_ f3_; have f4_ := f1_.symm; have f5_ := f3_.symm; clear f1_ f2_ f3_; subst f4_; subst f5_))
                   refine hK.out _ _ ⟨hHeld.1, hHeld.2.1, hHeld.2.2.1, hHeld.2.2.2⟩ (fun hHeld => ?_)
                   clear hK K
                   refine norm_ (a' := ?_) ?_ ?_
                   rotate_left
                   ·show Act.put _ (some 102) _ = _
                    simp only [Act.put, sqA, sqB, sqC, i64_w, i32_w]
                    rfl
                   refine pure_ (i := 16) (N := some 103) (v := ?_) (a' := ?_) T54481_17 rfl rfl (any_of HT_.out (by kernel_rfl)) idq (.inl ⟨by rfl, ?_⟩) ?_ ?_
                   rotate_left; ·intro w'; go_simp; with_reducible rfl
                   rotate_left; ·simp only [Act.put, sqA, sqB, sqC, i64_w, i32_w]; rfl
                   refine pure_ (i := 17) (N := some 104) (v := ?_) (a' := ?_) T54481_18 rfl rfl (any_of HT_.out (by kernel_rfl)) idq (.inl ⟨by rfl, ?_⟩) ?_ ?_
                   rotate_left; ·intro w'; go_simp; with_reducible rfl
                   rotate_left; ·simp only [Act.put, sqA, sqB, sqC, i64_w, i32_w]; rfl
                   refine pure_ (i := 18) (N := some 105) (v := ?_) (a' := ?_) T54481_19 rfl rfl (any_of HT_.out (by kernel_rfl)) idq (.inl ⟨by rfl, ?_⟩) ?_ ?_
                   rotate_left; ·intro w'; go_simp; with_reducible rfl
                   rotate_left; ·simp only [Act.put, sqA, sqB, sqC, i64_w, i32_w]; rfl
                   refine pure_ (i := 19) (N := some 106) (v := ?_) (a' := ?_) T54481_20 rfl rfl (any_of HT_.out (by kernel_rfl)) idq (.inl ⟨by rfl, ?_⟩) ?_ ?_
                   rotate_left; ·intro w'; go_simp; with_reducible rfl
                   rotate_left; ·simp only [Act.put, sqA, sqB, sqC, i64_w, i32_w]; rfl
                   refine pure_ (i := 20) (N := some 107) (v := ?_) (a' := ?_) T54481_21 rfl rfl (any_of HT_.out (by kernel_rfl)) idq (.inl ⟨by rfl, ?_⟩) ?_ ?_
                   rotate_left; ·intro w'; go_simp; with_reducible rfl
                   rotate_left; ·simp only [Act.put, sqA, sqB, sqC, i64_w, i32_w]; rfl
                   refine pure_ (i := 21) (N := some 108) (v := ?_) (a' := ?_) T54481_22 rfl rfl (any_of HT_.out (by kernel_rfl)) idq (.inl ⟨by rfl, ?_⟩) ?_ ?_
                   rotate_left; ·intro w'; go_simp; with_reducible rfl
                   rotate_left; ·simp only [Act.put, sqA, sqB, sqC, i64_w, i32_w]; rfl
                   refine pure_ (i := 23) (N := some 110) (v := ?_) (a' := ?_) T54481_23 rfl rfl (any_of HT_.out (by kernel_rfl)) idq (.inl ⟨by rfl, ?_⟩) ?_ ?_
                   rotate_left; ·intro w'; go_simp; with_reducible rfl
                   rotate_left; ·simp only [Act.put, sqA, sqB, sqC, i64_w, i32_w]; rfl
                   refine pure_ (i := 24) (N := some 111) (v := ?_) (a' := ?_) T54481_24 rfl rfl (any_of HT_.out (by kernel_rfl)) idq (.inl ⟨by rfl, ?_⟩) ?_ ?_
                   rotate_left; ·intro w'; go_simp; with_reducible rfl
                   rotate_left; ·simp only [Act.put, sqA, sqB, sqC, i64_w, i32_w]; rfl
                   refine take_ (i := 22) (N := some 109) (v := ?_) (a' := ?_) T54481_25 rfl rfl (take_ofW HT_.out HW_.out (by kernel_rfl)) idq (.inl ⟨by rfl, ?_⟩) hHeld ?_ ?_
                   rotate_left
                   ·rintro w' ⟨s0, s1, s2, s3⟩
                    go_simp
                    with_reducible rfl
                   rotate_left; ·simp only [Act.put, sqA, sqB, sqC, i64_w, i32_w]; rfl
                   refine one_ (i := 25) (N := some 112) T54481_26 rfl rfl (one_of HT_.out (by kernel_rfl)) (by decide) (fun K hK => ?_)
                   refine goes_ Try.func27 (by kernel_rfl) rfl #[.int .i32 (rd t266 x82_2), .int .i32 a2] (by rfl) rfl rfl (by (try simp only [List.map_toArray, List.map_cons, List.map_nil]); first | done | rfl | (simp only [List.length_drop, List.length_take]; rfl)) ?_
                   with_reducible refine (tillerref01_Mul.calls k2 (rd t266 x82_2) a2 t293 _ A72.out).mono ?_
                   rintro e w' ⟨rfl, ⟨nd, rfl⟩⟩
                   refine ⟨_, rfl, ?_⟩
                   obtain ⟨Ao93, co93, eo93⟩ := Kd.R_slice HO_10.out
                   (first | subst eo93 | (injection eo93 with f1_ f2_ f3_; have f4_ := f1_.symm; have f5_ := f3_.symm; clear f1_ f2_ f3_; subst f4_; subst f5_))
                   refine hK.out _ _ ⟨hHeld.1, hHeld.2.1, hHeld.2.2.1, hHeld.2.2.2⟩ (fun hHeld => ?_)
                   clear hK K
                   refine norm_ (a' := ?_) ?_ ?_
                   rotate_left
                   ·show Act.put _ (some 112) _ = _
                    simp only [Act.put, sqA, sqB, sqC, i64_w, i32_w]
                    rfl
                   refine pure_ (i := 26) (N := some 113) (v := ?_) (a' := ?_) T54481_27 rfl rfl (any_of HT_.out (by kernel_rfl)) idq (.inl ⟨by rfl, ?_⟩) ?_ ?_
                   rotate_left; ·intro w'; go_simp; with_reducible rfl
                   rotate_left; ·simp only [Act.put, sqA, sqB, sqC, i64_w, i32_w]; rfl
                   refine pure_ (i := 27) (N := some 114) (v := ?_) (a' := ?_) T54481_28 rfl rfl (any_of HT_.out (by kernel_rfl)) idq (.inl ⟨by rfl, ?_⟩) ?_ ?_
                   rotate_left; ·intro w'; go_simp; with_reducible rfl
                   rotate_left; ·simp only [Act.put, sqA, sqB, sqC, i64_w, i32_w]; rfl
                   refine pure_ (i := 28) (N := some 115) (v := ?_) (a' := ?_) T54481_29 rfl rfl (any_of HT_.out (by kernel_rfl)) idq (.inl ⟨by rfl, ?_⟩) ?_ ?_
                   rotate_left; ·intro w'; go_simp; with_reducible rfl
                   rotate_left; ·simp only [Act.put, sqA, sqB, sqC, i64_w, i32_w]; rfl
                   refine pure_ (i := 29) (N := some 116) (v := ?_) (a' := ?_) T54481_30 rfl rfl (any_of HT_.out (by kernel_rfl)) idq (.inl ⟨by rfl, ?_⟩) ?_ ?_
                   rotate_left; ·intro w'; go_simp; with_reducible rfl
                   rotate_left; ·simp only [Act.put, sqA, sqB, sqC, i64_w, i32_w]; rfl
                   refine pure_ (i := 30) (N := some 117) (v := ?_) (a' := ?_) T54481_31 rfl rfl (any_of HT_.out (by kernel_rfl)) idq (.inl ⟨by rfl, ?_⟩) ?_ ?_
                   rotate_left; ·intro w'; go_simp; with_reducible rfl
                   rotate_left; ·simp only [Act.put, sqA, sqB, sqC, i64_w, i32_w]; rfl
                   refine pure_ (i := 31) (N := some 118) (v := ?_) (a' := ?_) T54481_32 rfl rfl (any_of HT_.out (by kernel_rfl)) idq (.inl ⟨by rfl, ?_⟩) ?_ ?_
                   rotate_left; ·intro w'; go_simp; with_reducible rfl
                   rotate_left; ·simp only [Act.put, sqA, sqB, sqC, i64_w, i32_w]; rfl
                   refine pure_ (i := 32) (N := some 119) (v := undef) (a' := ?_) T54481_33 rfl rfl (any_of HT_.out (by kernel_rfl)) (fun _ _ _ h => h) (Or.inr ⟨by rfl, rfl⟩) ?_ ?_
                   rotate_left; ·simp only [Act.put, sqA, sqB, sqC, i64_w, i32_w]; rfl
                   refine pure_ (i := 33) (N := some 120) (v := undef) (a' := ?_) T54481_34 rfl rfl (any_of HT_.out (by kernel_rfl)) (fun _ _ _ h => h) (Or.inr ⟨by rfl, rfl⟩) ?_ ?_
                   rotate_left; ·simp only [Act.put, sqA, sqB, sqC, i64_w, i32_w]; rfl
                   refine pure_ (i := 34) (N := some 121) (v := undef) (a' := ?_) T54481_35 rfl rfl (any_of HT_.out (by kernel_rfl)) (fun _ _ _ h => h) (Or.inr ⟨by rfl, rfl⟩) ?_ ?_
                   rotate_left; ·simp only [Act.put, sqA, sqB, sqC, i64_w, i32_w]; rfl
                   refine pure_ (i := 35) (N := some 122) (v := undef) (a' := ?_) T54481_52 rfl rfl (any_of HT_.out (by kernel_rfl)) (fun _ _ _ h => h) (Or.inr ⟨by rfl, rfl⟩) ?_ ?_
                   rotate_left; ·simp only [Act.put, sqA, sqB, sqC, i64_w, i32_w]; rfl
                   refine pure_ (i := 36) (N := some 123) (v := undef) (a' := ?_) T54481_37 rfl rfl (any_of HT_.out (by kernel_rfl)) (fun _ _ _ h => h) (Or.inr ⟨by rfl, rfl⟩) ?_ ?_
                   rotate_left; ·simp only [Act.put, sqA, sqB, sqC, i64_w, i32_w]; rfl
                   refine pure_ (i := 37) (N := some 124) (v := undef) (a' := ?_) T54481_38 rfl rfl (any_of HT_.out (by kernel_rfl)) (fun _ _ _ h => h) (Or.inr ⟨by rfl, rfl⟩) ?_ ?_
                   rotate_left; ·simp only [Act.put, sqA, sqB, sqC, i64_w, i32_w]; rfl
                   refine pure_ (i := 38) (N := some 125) (v := ?_) (a' := ?_) T54481_39 rfl rfl (any_of HT_.out (by kernel_rfl)) idq (.inl ⟨by rfl, ?_⟩) ?_ ?_
                   rotate_left; ·intro w'; go_simp; with_reducible rfl
                   rotate_left; ·simp only [Act.put, sqA, sqB, sqC, i64_w, i32_w]; rfl
                   refine pure_ (i := 39) (N := some 126) (v := ?_) (a' := ?_) T54481_40 rfl rfl (any_of HT_.out (by kernel_rfl)) idq (.inl ⟨by rfl, ?_⟩) ?_ ?_
                   rotate_left; ·intro w'; go_simp; with_reducible rfl
                   rotate_left; ·simp only [Act.put, sqA, sqB, sqC, i64_w, i32_w]; rfl
                   refine pure_ (i := 40) (N := some 127) (v := ?_) (a' := ?_) T54481_41 rfl rfl (any_of HT_.out (by kernel_rfl)) idq (.inl ⟨by rfl, ?_⟩) ?_ ?_
                   rotate_left; ·intro w'; go_simp; with_reducible rfl
                   rotate_left; ·simp only [Act.put, sqA, sqB, sqC, i64_w, i32_w]; rfl
                   refine pure_ (i := 41) (N := some 128) (v := ?_) (a' := ?_) T54481_42 rfl rfl (any_of HT_.out (by kernel_rfl)) idq (.inl ⟨by rfl, ?_⟩) ?_ ?_
                   rotate_left; ·intro w'; go_simp; with_reducible rfl
                   rotate_left; ·simp only [Act.put, sqA, sqB, sqC, i64_w, i32_w]; rfl
                   refine pure_ (i := 42) (N := some 129) (v := ?_) (a' := ?_) T54481_43 rfl rfl (any_of HT_.out (by kernel_rfl)) idq (.inl ⟨by rfl, ?_⟩) ?_ ?_
                   rotate_left; ·intro w'; go_simp; with_reducible rfl
                   rotate_left; ·simp only [Act.put, sqA, sqB, sqC, i64_w, i32_w]; rfl
                   refine pure_ (i := 43) (N := some 130) (v := ?_) (a' := ?_) T54481_44 rfl rfl (any_of HT_.out (by kernel_rfl)) idq (.inl ⟨by rfl, ?_⟩) ?_ ?_
                   rotate_left; ·intro w'; go_simp; with_reducible rfl
                   rotate_left; ·simp only [Act.put, sqA, sqB, sqC, i64_w, i32_w]; rfl
                   refine pure_ (i := 44) (N := some 131) (v := ?_) (a' := ?_) T54481_45 rfl rfl (any_of HT_.out (by kernel_rfl)) idq (.inl ⟨by rfl, ?_⟩) ?_ ?_
                   rotate_left; ·intro w'; go_simp; with_reducible rfl
                   rotate_left; ·simp only [Act.put, sqA, sqB, sqC, i64_w, i32_w]; rfl
                   refine pure_ (i := 45) (N := some 132) (v := ?_) (a' := ?_) T54481_46 rfl rfl (any_of HT_.out (by kernel_rfl)) idq (.inl ⟨by rfl, ?_⟩) ?_ ?_
                   rotate_left; ·intro w'; go_simp; with_reducible rfl
                   rotate_left; ·simp only [Act.put, sqA, sqB, sqC, i64_w, i32_w]; rfl
                   refine pure_ (i := 46) (N := some 133) (v := ?_) (a' := ?_) T54481_47 rfl rfl (any_of HT_.out (by kernel_rfl)) idq (.inl ⟨by rfl, ?_⟩) ?_ ?_
                   rotate_left; ·intro w'; go_simp; with_reducible rfl
                   rotate_left; ·simp only [Act.put, sqA, sqB, sqC, i64_w, i32_w]; rfl
                   refine take_ (i := 47) (N := some 134) (v := ?_) (a' := ?_) T54481_48 rfl rfl (take_ofW HT_.out HW_.out (by kernel_rfl)) idq (.inl ⟨by rfl, ?_⟩) hHeld ?_ ?_
                   rotate_left
                   ·rintro w' ⟨s0, s1, s2, s3⟩
                    go_simp
                    with_reducible rfl
                   rotate_left; ·simp only [Act.put, sqA, sqB, sqC, i64_w, i32_w]; rfl
                   refine pure_ (i := 48) (N := some 135) (v := ?_) (a' := ?_) T54481_49 rfl rfl (any_of HT_.out (by kernel_rfl)) idq (.inl ⟨by rfl, ?_⟩) ?_ ?_
                   rotate_left; ·intro w'; go_simp; with_reducible rfl
                   rotate_left; ·simp only [Act.put, sqA, sqB, sqC, i64_w, i32_w]; rfl
                   refine pure_ (i := 49) (N := some 136) (v := ?_) (a' := ?_) T54481_50 rfl rfl (any_of HT_.out (by kernel_rfl)) idq (.inl ⟨by rfl, ?_⟩) ?_ ?_
                   rotate_left; ·intro w'; go_simp; with_reducible rfl
                   rotate_left; ·simp only [Act.put, sqA, sqB, sqC, i64_w, i32_w]; rfl
                   refine pure_ (i := 50) (N := some 137) (v := ?_) (a' := ?_) T54481_51 rfl rfl (any_of HT_.out (by kernel_rfl)) idq (.inl ⟨by rfl, ?_⟩) ?_ ?_
                   rotate_left; ·intro w'; go_simp; with_reducible rfl
                   rotate_left; ·simp only [Act.put, sqA, sqB, sqC, i64_w, i32_w]; rfl
                   refine done_ (done_of HT_.out (by kernel_rfl)) ?_
                   try go_wp2
                   go_roundg k2
                   case measure => have := HJ9.out; have := HK2.out; omega
                   case rel => exact ⟨(wrap64 (x82_2 + 1)), (by first | rfl | (simp; done) | (simp [*]; done)), H', ⟨by have := HJ9.out; have := HK2.out; omega⟩, ⟨by (with_reducible repeat (first | apply Kd.R_alloc | apply Kd.R_drewN | apply Kd.R_drew)); exact HO_1.out⟩, ⟨by (with_reducible repeat (first | apply Kd.R_alloc | apply Kd.R_drewN | apply Kd.R_drew)); exact HO_7.out⟩, ⟨by (with_reducible repeat (first | apply Kd.R_alloc | apply Kd.R_drewN | apply Kd.R_drew)); exact HO_9.out⟩, ⟨by (with_reducible repeat (first | apply Kd.R_alloc | apply Kd.R_drewN | apply Kd.R_drew)); exact HO_10.out⟩, ⟨by (with_reducible repeat (first | apply Kd.R_alloc | apply Kd.R_drewN | apply Kd.R_drew)); exact HO_80.out⟩, ⟨by repeat (first | (with_reducible first | exact HB.out | apply below_alloc | apply pw_below_drewN | apply below_drew1) | exact HB.out)⟩⟩
                  ·rw [if_neg c89] at H
                   exact absurd (Option.some.inj H) (by rw [hr_.out]; decide)
                 ·rw [if_neg c88] at H
                  exact absurd H (by simp)
                ·rw [if_neg c87] at H
                 have c87b0 : decide ((rd t266 x82_2) < 0) = false := decide_eq_false c87
                 clear c87
                 have H' := Aside0.mk H
                 clear H
                 have p288 : 0 ≤ (x82_2 : Int) := ofd_
                 have q288 : x82_2 < (t266.length : Int) := ofd_
                 (first | obtain ⟨ad288, e288, hx288_0⟩ := Kd.at_int (Kd.R_reads' HO_80.out).2.2 x82_2 p288 q288 | (obtain ⟨Az_, cz_, ez_⟩ := Kd.R_slice HO_80.out; subst ez_; obtain ⟨ad288, e288, hx288_0⟩ := Kd.at_int (Kd.R_reads' HO_80.out).2.2 x82_2 p288 q288))
                 cases e288
                 replace p288 := eq_true p288
                 replace q288 := eq_true q288
                 try go_wp2
                 have n0_ := Aside0.mk (Kd.R_drew HO_1.out)
                 have n1_ := Aside0.mk (Kd.R_drew HO_7.out)
                 have n2_ := Aside0.mk (Kd.R_drew HO_9.out)
                 have n3_ := Aside0.mk (Kd.R_drew HO_10.out)
                 have n4_ := Aside0.mk (Kd.R_drew HO_80.out)
                 have n5_ := Aside0.mk (below_drew1 HB.out)
                 clear HO_1
                 clear HO_7
                 clear HO_9
                 clear HO_10
                 clear HO_80
                 clear HB
                 have HO_1 := n0_
                 have HO_7 := n1_
                 have HO_9 := n2_
                 have HO_10 := n3_
                 have HO_80 := n4_
                 have HB := n5_
                 clear n0_ n1_ n2_ n3_ n4_ n5_
                 obtain ⟨Ao95, co95, eo95⟩ := Kd.R_slice HO_7.out
                 (first | subst eo95 | (injection eo95 with f1_ f2_ f3_; have f4_ := f1_.symm; have f5_ := f3_.symm; clear f1_ f2_ f3_; subst f4_; subst f5_))
                 have p289 : 0 ≤ (x82_2 : Int) := ofd_
                 have q289 : x82_2 < (t272.length : Int) := ofd_
                 (first | obtain ⟨ad289, e289, hx289_0⟩ := Kd.at_int (Kd.R_reads' HO_7.out).2.2 x82_2 p289 q289 | (obtain ⟨Az_, cz_, ez_⟩ := Kd.R_slice HO_7.out; subst ez_; obtain ⟨ad289, e289, hx289_0⟩ := Kd.at_int (Kd.R_reads' HO_7.out).2.2 x82_2 p289 q289))
                 cases e289
                 replace p289 := eq_true p289
                 replace q289 := eq_true q289
                 have p290 : 0 ≤ (x82_2 : Int) := ofd_
                 have q290 : x82_2 < (t269.length : Int) := ofd_
                 (first | obtain ⟨ad290, e290, hx290_0⟩ := Kd.at_int (Kd.R_reads' HO_1.out).2.2 x82_2 p290 q290 | (obtain ⟨Az_, cz_, ez_⟩ := Kd.R_slice HO_1.out; subst ez_; obtain ⟨ad290, e290, hx290_0⟩ := Kd.at_int (Kd.R_reads' HO_1.out).2.2 x82_2 p290 q290))
                 cases e290
                 replace p290 := eq_true p290
                 replace q290 := eq_true q290
                 have p292 : 0 ≤ (x82_2 : Int) := ofd_
                 have q292 : x82_2 < (t276.length : Int) := ofd_
                 (first | obtain ⟨ad292, e292, hx292_0⟩ := Kd.at_int (Kd.R_reads' HO_9.out).2.2 x82_2 p292 q292 | (obtain ⟨Az_, cz_, ez_⟩ := Kd.R_slice HO_9.out; subst ez_; obtain ⟨ad292, e292, hx292_0⟩ := Kd.at_int (Kd.R_reads' HO_9.out).2.2 x82_2 p292 q292))
                 cases e292
                 replace p292 := eq_true p292
                 replace q292 := eq_true q292
                 refine start_ (n := 51) (S := fun w' => w'.cell? (ad289.add (x82_2).toNat) = some (.int .i32 (rd t272 x82_2)) ∧ w'.cell? (ad290.add (x82_2).toNat) = some (.int .i32 (rd t269 x82_2)) ∧ w'.cell? (ad292.add (x82_2).toNat) = some (.int .i32 (rd t276 x82_2))) (ds := []) T54481_0 (by kernel_rfl) rfl rfl ⟨hx289_0, hx290_0, hx292_0⟩ (fun hHeld => ?_); refine with_tabW tillerlaw03_VecPlaces.tab10 tillerlaw03_VecPlaces.bits10 (fun HT_ HW_ => ?_)
                 generalize wr.drew = w94 at HO_1 HO_7 HO_9 HO_10 HO_80 HB hx289_0 hx290_0 hx292_0 hHeld ⊢
                 refine pure_ (i := 0) (N := some 87) (v := ?_) (a' := ?_) T54481_1 rfl rfl (any_of HT_.out (by kernel_rfl)) idq (.inl ⟨by rfl, ?_⟩) ?_ ?_
                 rotate_left; ·intro w'; go_simp; with_reducible rfl
                 rotate_left; ·simp only [Act.put, sqA, sqB, sqC, i64_w, i32_w]; rfl
                 refine pure_ (i := 1) (N := some 88) (v := ?_) (a' := ?_) T54481_2 rfl rfl (any_of HT_.out (by kernel_rfl)) idq (.inl ⟨by rfl, ?_⟩) ?_ ?_
                 rotate_left; ·intro w'; go_simp; with_reducible rfl
                 rotate_left; ·simp only [Act.put, sqA, sqB, sqC, i64_w, i32_w]; rfl
                 refine pure_ (i := 2) (N := some 89) (v := ?_) (a' := ?_) T54481_3 rfl rfl (any_of HT_.out (by kernel_rfl)) idq (.inl ⟨by rfl, ?_⟩) ?_ ?_
                 rotate_left; ·intro w'; go_simp; with_reducible rfl
                 rotate_left; ·simp only [Act.put, sqA, sqB, sqC, i64_w, i32_w]; rfl
                 refine pure_ (i := 3) (N := some 90) (v := ?_) (a' := ?_) T54481_4 rfl rfl (any_of HT_.out (by kernel_rfl)) idq (.inl ⟨by rfl, ?_⟩) ?_ ?_
                 rotate_left; ·intro w'; go_simp; with_reducible rfl
                 rotate_left; ·simp only [Act.put, sqA, sqB, sqC, i64_w, i32_w]; rfl
                 refine pure_ (i := 4) (N := some 91) (v := ?_) (a' := ?_) T54481_5 rfl rfl (any_of HT_.out (by kernel_rfl)) idq (.inl ⟨by rfl, ?_⟩) ?_ ?_
                 rotate_left; ·intro w'; go_simp; with_reducible rfl
                 rotate_left; ·simp only [Act.put, sqA, sqB, sqC, i64_w, i32_w]; rfl
                 refine pure_ (i := 5) (N := some 92) (v := ?_) (a' := ?_) T54481_6 rfl rfl (any_of HT_.out (by kernel_rfl)) idq (.inl ⟨by rfl, ?_⟩) ?_ ?_
                 rotate_left; ·intro w'; go_simp; with_reducible rfl
                 rotate_left; ·simp only [Act.put, sqA, sqB, sqC, i64_w, i32_w]; rfl
                 refine pure_ (i := 7) (N := some 94) (v := ?_) (a' := ?_) T54481_7 rfl rfl (any_of HT_.out (by kernel_rfl)) idq (.inl ⟨by rfl, ?_⟩) ?_ ?_
                 rotate_left; ·intro w'; go_simp; with_reducible rfl
                 rotate_left; ·simp only [Act.put, sqA, sqB, sqC, i64_w, i32_w]; rfl
                 refine pure_ (i := 8) (N := some 95) (v := ?_) (a' := ?_) T54481_8 rfl rfl (any_of HT_.out (by kernel_rfl)) idq (.inl ⟨by rfl, ?_⟩) ?_ ?_
                 rotate_left; ·intro w'; go_simp; with_reducible rfl
                 rotate_left; ·simp only [Act.put, sqA, sqB, sqC, i64_w, i32_w]; rfl
                 refine pure_ (i := 9) (N := some 96) (v := ?_) (a' := ?_) T54481_9 rfl rfl (any_of HT_.out (by kernel_rfl)) idq (.inl ⟨by rfl, ?_⟩) ?_ ?_
                 rotate_left; ·intro w'; go_simp; with_reducible rfl
                 rotate_left; ·simp only [Act.put, sqA, sqB, sqC, i64_w, i32_w]; rfl
                 refine pure_ (i := 10) (N := some 97) (v := ?_) (a' := ?_) T54481_10 rfl rfl (any_of HT_.out (by kernel_rfl)) idq (.inl ⟨by rfl, ?_⟩) ?_ ?_
                 rotate_left; ·intro w'; go_simp; with_reducible rfl
                 rotate_left; ·simp only [Act.put, sqA, sqB, sqC, i64_w, i32_w]; rfl
                 refine pure_ (i := 11) (N := some 98) (v := ?_) (a' := ?_) T54481_11 rfl rfl (any_of HT_.out (by kernel_rfl)) idq (.inl ⟨by rfl, ?_⟩) ?_ ?_
                 rotate_left; ·intro w'; go_simp; with_reducible rfl
                 rotate_left; ·simp only [Act.put, sqA, sqB, sqC, i64_w, i32_w]; rfl
                 refine take_ (i := 6) (N := some 93) (v := ?_) (a' := ?_) T54481_12 rfl rfl (take_ofW HT_.out HW_.out (by kernel_rfl)) idq (.inl ⟨by rfl, ?_⟩) hHeld ?_ ?_
                 rotate_left
                 ·rintro w' ⟨s0, s1, s2⟩
                  go_simp
                  with_reducible rfl
                 rotate_left; ·simp only [Act.put, sqA, sqB, sqC, i64_w, i32_w]; rfl
                 refine take_ (i := 12) (N := some 99) (v := ?_) (a' := ?_) T54481_13 rfl rfl (take_ofW HT_.out HW_.out (by kernel_rfl)) idq (.inl ⟨by rfl, ?_⟩) hHeld ?_ ?_
                 rotate_left
                 ·rintro w' ⟨s0, s1, s2⟩
                  go_simp
                  with_reducible rfl
                 rotate_left; ·simp only [Act.put, sqA, sqB, sqC, i64_w, i32_w]; rfl
                 refine pure_ (i := 13) (N := some 100) (v := ?_) (a' := ?_) T54481_14 rfl rfl (any_of HT_.out (by kernel_rfl)) idq (.inl ⟨by rfl, ?_⟩) ?_ ?_
                 rotate_left; ·intro w'; go_simp; with_reducible rfl
                 rotate_left; ·simp only [Act.put, sqA, sqB, sqC, i64_w, i32_w]; rfl
                 refine pure_ (i := 14) (N := some 101) (v := ?_) (a' := ?_) T54481_15 rfl rfl (any_of HT_.out (by kernel_rfl)) idq (.inl ⟨by rfl, ?_⟩) ?_ ?_
                 rotate_left; ·intro w'; go_simp; with_reducible rfl
                 rotate_left; ·simp only [Act.put, sqA, sqB, sqC, i64_w, i32_w]; rfl
                 refine one_ (i := 15) (N := some 102) T54481_16 rfl rfl (one_of HT_.out (by kernel_rfl)) (by decide) (fun K hK => ?_)
                 refine goes_ Try.func26 (by kernel_rfl) rfl #[.int .i64 (wrap64 ((wrap64 (rd t266 x82_2)) + (wrap64 (rd t269 x82_2))))] (by rfl) rfl rfl (by (try simp only [List.map_toArray, List.map_cons, List.map_nil]); first | done | rfl | (simp only [List.length_drop, List.length_take]; rfl)) ?_
                 with_reducible refine (tillerref01_Sat.calls (wrap64 ((wrap64 (rd t266 x82_2)) + (wrap64 (rd t269 x82_2)))) t291 _ A69.out).mono ?_
                 rintro e w' ⟨rfl, ⟨nd, rfl⟩⟩
                 refine ⟨_, rfl, ?_⟩
                 obtain ⟨Ao96, co96, eo96⟩ := Kd.R_slice HO_9.out
                 (first | subst eo96 | (injection eo96 with f1_ f2_ f3_; have f4_ := f1_.symm; have f5_ := f3_.symm; clear f1_ f2_ f3_; subst f4_; subst f5_))
                 refine hK.out _ _ ⟨hHeld.1, hHeld.2.1, hHeld.2.2⟩ (fun hHeld => ?_)
                 clear hK K
                 refine norm_ (a' := ?_) ?_ ?_
                 rotate_left
                 ·show Act.put _ (some 102) _ = _
                  simp only [Act.put, sqA, sqB, sqC, i64_w, i32_w]
                  rfl
                 refine pure_ (i := 16) (N := some 103) (v := ?_) (a' := ?_) T54481_17 rfl rfl (any_of HT_.out (by kernel_rfl)) idq (.inl ⟨by rfl, ?_⟩) ?_ ?_
                 rotate_left; ·intro w'; go_simp; with_reducible rfl
                 rotate_left; ·simp only [Act.put, sqA, sqB, sqC, i64_w, i32_w]; rfl
                 refine pure_ (i := 17) (N := some 104) (v := ?_) (a' := ?_) T54481_18 rfl rfl (any_of HT_.out (by kernel_rfl)) idq (.inl ⟨by rfl, ?_⟩) ?_ ?_
                 rotate_left; ·intro w'; go_simp; with_reducible rfl
                 rotate_left; ·simp only [Act.put, sqA, sqB, sqC, i64_w, i32_w]; rfl
                 refine pure_ (i := 18) (N := some 105) (v := ?_) (a' := ?_) T54481_19 rfl rfl (any_of HT_.out (by kernel_rfl)) idq (.inl ⟨by rfl, ?_⟩) ?_ ?_
                 rotate_left; ·intro w'; go_simp; with_reducible rfl
                 rotate_left; ·simp only [Act.put, sqA, sqB, sqC, i64_w, i32_w]; rfl
                 refine pure_ (i := 19) (N := some 106) (v := ?_) (a' := ?_) T54481_20 rfl rfl (any_of HT_.out (by kernel_rfl)) idq (.inl ⟨by rfl, ?_⟩) ?_ ?_
                 rotate_left; ·intro w'; go_simp; with_reducible rfl
                 rotate_left; ·simp only [Act.put, sqA, sqB, sqC, i64_w, i32_w]; rfl
                 refine pure_ (i := 20) (N := some 107) (v := ?_) (a' := ?_) T54481_21 rfl rfl (any_of HT_.out (by kernel_rfl)) idq (.inl ⟨by rfl, ?_⟩) ?_ ?_
                 rotate_left; ·intro w'; go_simp; with_reducible rfl
                 rotate_left; ·simp only [Act.put, sqA, sqB, sqC, i64_w, i32_w]; rfl
                 refine pure_ (i := 21) (N := some 108) (v := ?_) (a' := ?_) T54481_22 rfl rfl (any_of HT_.out (by kernel_rfl)) idq (.inl ⟨by rfl, ?_⟩) ?_ ?_
                 rotate_left; ·intro w'; go_simp; with_reducible rfl
                 rotate_left; ·simp only [Act.put, sqA, sqB, sqC, i64_w, i32_w]; rfl
                 refine pure_ (i := 23) (N := some 110) (v := ?_) (a' := ?_) T54481_23 rfl rfl (any_of HT_.out (by kernel_rfl)) idq (.inl ⟨by rfl, ?_⟩) ?_ ?_
                 rotate_left; ·intro w'; go_simp; with_reducible rfl
                 rotate_left; ·simp only [Act.put, sqA, sqB, sqC, i64_w, i32_w]; rfl
                 refine pure_ (i := 24) (N := some 111) (v := ?_) (a' := ?_) T54481_24 rfl rfl (any_of HT_.out (by kernel_rfl)) idq (.inl ⟨by rfl, ?_⟩) ?_ ?_
                 rotate_left; ·intro w'; go_simp; with_reducible rfl
                 rotate_left; ·simp only [Act.put, sqA, sqB, sqC, i64_w, i32_w]; rfl
                 refine take_ (i := 22) (N := some 109) (v := ?_) (a' := ?_) T54481_25 rfl rfl (take_ofW HT_.out HW_.out (by kernel_rfl)) idq (.inl ⟨by rfl, ?_⟩) hHeld ?_ ?_
                 rotate_left
                 ·rintro w' ⟨s0, s1, s2⟩
                  go_simp
                  with_reducible rfl
                 rotate_left; ·simp only [Act.put, sqA, sqB, sqC, i64_w, i32_w]; rfl
                 refine one_ (i := 25) (N := some 112) T54481_26 rfl rfl (one_of HT_.out (by kernel_rfl)) (by decide) (fun K hK => ?_)
                 refine goes_ Try.func27 (by kernel_rfl) rfl #[.int .i32 (rd t266 x82_2), .int .i32 a2] (by rfl) rfl rfl (by (try simp only [List.map_toArray, List.map_cons, List.map_nil]); first | done | rfl | (simp only [List.length_drop, List.length_take]; rfl)) ?_
                 with_reducible refine (tillerref01_Mul.calls k2 (rd t266 x82_2) a2 t293 _ A72.out).mono ?_
                 rintro e w' ⟨rfl, ⟨nd, rfl⟩⟩
                 refine ⟨_, rfl, ?_⟩
                 refine hK.out _ _ ⟨hHeld.1, hHeld.2.1, hHeld.2.2⟩ (fun hHeld => ?_)
                 clear hK K
                 refine norm_ (a' := ?_) ?_ ?_
                 rotate_left
                 ·show Act.put _ (some 112) _ = _
                  simp only [Act.put, sqA, sqB, sqC, i64_w, i32_w]
                  rfl
                 refine pure_ (i := 26) (N := some 113) (v := ?_) (a' := ?_) T54481_27 rfl rfl (any_of HT_.out (by kernel_rfl)) idq (.inl ⟨by rfl, ?_⟩) ?_ ?_
                 rotate_left; ·intro w'; go_simp; with_reducible rfl
                 rotate_left; ·simp only [Act.put, sqA, sqB, sqC, i64_w, i32_w]; rfl
                 refine pure_ (i := 27) (N := some 114) (v := ?_) (a' := ?_) T54481_28 rfl rfl (any_of HT_.out (by kernel_rfl)) idq (.inl ⟨by rfl, ?_⟩) ?_ ?_
                 rotate_left; ·intro w'; go_simp; with_reducible rfl
                 rotate_left; ·simp only [Act.put, sqA, sqB, sqC, i64_w, i32_w]; rfl
                 refine pure_ (i := 28) (N := some 115) (v := ?_) (a' := ?_) T54481_29 rfl rfl (any_of HT_.out (by kernel_rfl)) idq (.inl ⟨by rfl, ?_⟩) ?_ ?_
                 rotate_left; ·intro w'; go_simp; with_reducible rfl
                 rotate_left; ·simp only [Act.put, sqA, sqB, sqC, i64_w, i32_w]; rfl
                 refine pure_ (i := 29) (N := some 116) (v := ?_) (a' := ?_) T54481_30 rfl rfl (any_of HT_.out (by kernel_rfl)) idq (.inl ⟨by rfl, ?_⟩) ?_ ?_
                 rotate_left; ·intro w'; go_simp; with_reducible rfl
                 rotate_left; ·simp only [Act.put, sqA, sqB, sqC, i64_w, i32_w]; rfl
                 refine pure_ (i := 30) (N := some 117) (v := ?_) (a' := ?_) T54481_31 rfl rfl (any_of HT_.out (by kernel_rfl)) idq (.inl ⟨by rfl, ?_⟩) ?_ ?_
                 rotate_left; ·intro w'; go_simp; with_reducible rfl
                 rotate_left; ·simp only [Act.put, sqA, sqB, sqC, i64_w, i32_w]; rfl
                 refine pure_ (i := 31) (N := some 118) (v := ?_) (a' := ?_) T54481_32 rfl rfl (any_of HT_.out (by kernel_rfl)) idq (.inl ⟨by rfl, ?_⟩) ?_ ?_
                 rotate_left; ·intro w'; go_simp; with_reducible rfl
                 rotate_left; ·simp only [Act.put, sqA, sqB, sqC, i64_w, i32_w]; rfl
                 refine pure_ (i := 32) (N := some 119) (v := undef) (a' := ?_) T54481_33 rfl rfl (any_of HT_.out (by kernel_rfl)) (fun _ _ _ h => h) (Or.inr ⟨by rfl, rfl⟩) ?_ ?_
                 rotate_left; ·simp only [Act.put, sqA, sqB, sqC, i64_w, i32_w]; rfl
                 refine pure_ (i := 33) (N := some 120) (v := undef) (a' := ?_) T54481_34 rfl rfl (any_of HT_.out (by kernel_rfl)) (fun _ _ _ h => h) (Or.inr ⟨by rfl, rfl⟩) ?_ ?_
                 rotate_left; ·simp only [Act.put, sqA, sqB, sqC, i64_w, i32_w]; rfl
                 refine pure_ (i := 34) (N := some 121) (v := undef) (a' := ?_) T54481_35 rfl rfl (any_of HT_.out (by kernel_rfl)) (fun _ _ _ h => h) (Or.inr ⟨by rfl, rfl⟩) ?_ ?_
                 rotate_left; ·simp only [Act.put, sqA, sqB, sqC, i64_w, i32_w]; rfl
                 refine pure_ (i := 35) (N := some 122) (v := undef) (a' := ?_) T54481_52 rfl rfl (any_of HT_.out (by kernel_rfl)) (fun _ _ _ h => h) (Or.inr ⟨by rfl, rfl⟩) ?_ ?_
                 rotate_left; ·simp only [Act.put, sqA, sqB, sqC, i64_w, i32_w]; rfl
                 refine pure_ (i := 36) (N := some 123) (v := undef) (a' := ?_) T54481_37 rfl rfl (any_of HT_.out (by kernel_rfl)) (fun _ _ _ h => h) (Or.inr ⟨by rfl, rfl⟩) ?_ ?_
                 rotate_left; ·simp only [Act.put, sqA, sqB, sqC, i64_w, i32_w]; rfl
                 refine pure_ (i := 37) (N := some 124) (v := undef) (a' := ?_) T54481_38 rfl rfl (any_of HT_.out (by kernel_rfl)) (fun _ _ _ h => h) (Or.inr ⟨by rfl, rfl⟩) ?_ ?_
                 rotate_left; ·simp only [Act.put, sqA, sqB, sqC, i64_w, i32_w]; rfl
                 refine pure_ (i := 38) (N := some 125) (v := ?_) (a' := ?_) T54481_39 rfl rfl (any_of HT_.out (by kernel_rfl)) idq (.inl ⟨by rfl, ?_⟩) ?_ ?_
                 rotate_left; ·intro w'; go_simp; with_reducible rfl
                 rotate_left; ·simp only [Act.put, sqA, sqB, sqC, i64_w, i32_w]; rfl
                 refine pure_ (i := 39) (N := some 126) (v := ?_) (a' := ?_) T54481_40 rfl rfl (any_of HT_.out (by kernel_rfl)) idq (.inl ⟨by rfl, ?_⟩) ?_ ?_
                 rotate_left; ·intro w'; go_simp; with_reducible rfl
                 rotate_left; ·simp only [Act.put, sqA, sqB, sqC, i64_w, i32_w]; rfl
                 refine pure_ (i := 40) (N := some 127) (v := ?_) (a' := ?_) T54481_41 rfl rfl (any_of HT_.out (by kernel_rfl)) idq (.inl ⟨by rfl, ?_⟩) ?_ ?_
                 rotate_left; ·intro w'; go_simp; with_reducible rfl
                 rotate_left; ·simp only [Act.put, sqA, sqB, sqC, i64_w, i32_w]; rfl
                 refine pure_ (i := 41) (N := some 128) (v := ?_) (a' := ?_) T54481_42 rfl rfl (any_of HT_.out (by kernel_rfl)) idq (.inl ⟨by rfl, ?_⟩) ?_ ?_
                 rotate_left; ·intro w'; go_simp; with_reducible rfl
                 rotate_left; ·simp only [Act.put, sqA, sqB, sqC, i64_w, i32_w]; rfl
                 refine pure_ (i := 42) (N := some 129) (v := ?_) (a' := ?_) T54481_43 rfl rfl (any_of HT_.out (by kernel_rfl)) idq (.inl ⟨by rfl, ?_⟩) ?_ ?_
                 rotate_left; ·intro w'; go_simp; with_reducible rfl
                 rotate_left; ·simp only [Act.put, sqA, sqB, sqC, i64_w, i32_w]; rfl
                 refine pure_ (i := 43) (N := some 130) (v := ?_) (a' := ?_) T54481_44 rfl rfl (any_of HT_.out (by kernel_rfl)) idq (.inl ⟨by rfl, ?_⟩) ?_ ?_
                 rotate_left; ·intro w'; go_simp; with_reducible rfl
                 rotate_left; ·simp only [Act.put, sqA, sqB, sqC, i64_w, i32_w]; rfl
                 refine pure_ (i := 44) (N := some 131) (v := undef) (a' := ?_) T54481_45 rfl rfl (any_of HT_.out (by kernel_rfl)) (fun _ _ _ h => h) (Or.inr ⟨by rfl, rfl⟩) ?_ ?_
                 rotate_left; ·simp only [Act.put, sqA, sqB, sqC, i64_w, i32_w]; rfl
                 refine pure_ (i := 45) (N := some 132) (v := undef) (a' := ?_) T54481_46 rfl rfl (any_of HT_.out (by kernel_rfl)) (fun _ _ _ h => h) (Or.inr ⟨by rfl, rfl⟩) ?_ ?_
                 rotate_left; ·simp only [Act.put, sqA, sqB, sqC, i64_w, i32_w]; rfl
                 refine pure_ (i := 46) (N := some 133) (v := undef) (a' := ?_) T54481_47 rfl rfl (any_of HT_.out (by kernel_rfl)) (fun _ _ _ h => h) (Or.inr ⟨by rfl, rfl⟩) ?_ ?_
                 rotate_left; ·simp only [Act.put, sqA, sqB, sqC, i64_w, i32_w]; rfl
                 refine pure_ (i := 47) (N := some 134) (v := undef) (a' := ?_) T54481_48 rfl rfl (any_of HT_.out (by kernel_rfl)) (fun _ _ _ h => h) (Or.inr ⟨by rfl, rfl⟩) ?_ ?_
                 rotate_left; ·simp only [Act.put, sqA, sqB, sqC, i64_w, i32_w]; rfl
                 refine pure_ (i := 48) (N := some 135) (v := undef) (a' := ?_) T54481_49 rfl rfl (any_of HT_.out (by kernel_rfl)) (fun _ _ _ h => h) (Or.inr ⟨by rfl, rfl⟩) ?_ ?_
                 rotate_left; ·simp only [Act.put, sqA, sqB, sqC, i64_w, i32_w]; rfl
                 refine pure_ (i := 49) (N := some 136) (v := ?_) (a' := ?_) T54481_50 rfl rfl (any_of HT_.out (by kernel_rfl)) idq (.inl ⟨by rfl, ?_⟩) ?_ ?_
                 rotate_left; ·intro w'; go_simp; with_reducible rfl
                 rotate_left; ·simp only [Act.put, sqA, sqB, sqC, i64_w, i32_w]; rfl
                 refine pure_ (i := 50) (N := some 137) (v := ?_) (a' := ?_) T54481_51 rfl rfl (any_of HT_.out (by kernel_rfl)) idq (.inl ⟨by rfl, ?_⟩) ?_ ?_
                 rotate_left; ·intro w'; go_simp; with_reducible rfl
                 rotate_left; ·simp only [Act.put, sqA, sqB, sqC, i64_w, i32_w]; rfl
                 refine done_ (done_of HT_.out (by kernel_rfl)) ?_
                 try go_wp2
                 go_roundg k2
                 case measure => have := HJ9.out; have := HK2.out; omega
                 case rel => exact ⟨(wrap64 (x82_2 + 1)), (by first | rfl | (simp; done) | (simp [*]; done)), H', ⟨by have := HJ9.out; have := HK2.out; omega⟩, ⟨by (with_reducible repeat (first | apply Kd.R_alloc | apply Kd.R_drewN | apply Kd.R_drew)); exact HO_1.out⟩, ⟨by (with_reducible repeat (first | apply Kd.R_alloc | apply Kd.R_drewN | apply Kd.R_drew)); exact HO_7.out⟩, ⟨by (with_reducible repeat (first | apply Kd.R_alloc | apply Kd.R_drewN | apply Kd.R_drew)); exact HO_9.out⟩, ⟨by (with_reducible repeat (first | apply Kd.R_alloc | apply Kd.R_drewN | apply Kd.R_drew)); exact HO_10.out⟩, ⟨by (with_reducible repeat (first | apply Kd.R_alloc | apply Kd.R_drewN | apply Kd.R_drew)); exact HO_80.out⟩, ⟨by repeat (first | (with_reducible first | exact HB.out | apply below_alloc | apply pw_below_drewN | apply below_drew1) | exact HB.out)⟩⟩
              ·rw [if_neg c73] at H
               have c73b0 : ((rd t276 x82_2) == t293) = false := beq_eq_false_iff_ne.mpr c73
               have c73b1 : ((rd t276 x82_2) != t293) = true := bne_iff_ne.mpr c73
               exact absurd (Option.some.inj H) (by rw [hr_.out]; decide)
             ·rw [if_neg c71] at H
              exact absurd H (by simp)
            ·rw [if_neg c70] at H
             have c70b0 : ((rd t272 x82_2) == t291) = false := beq_eq_false_iff_ne.mpr c70
             have c70b1 : ((rd t272 x82_2) != t291) = true := bne_iff_ne.mpr c70
             exact absurd (Option.some.inj H) (by rw [hr_.out]; decide)
           ·rw [if_neg c68] at H
            exact absurd H (by simp)
          ·rw [if_neg c67] at H
           exact absurd H (by simp)
         ·rw [if_neg c66] at H
          have c66b0 : (t282 == 0) = false := beq_eq_false_iff_ne.mpr c66
          have c66b1 : (t282 != 0) = true := bne_iff_ne.mpr c66
          by_cases c97 : x82_2 < (t276.length : Int)
          ·rw [if_pos c97] at H
           have c97b0 : decide (x82_2 < (t276.length : Int)) = true := decide_eq_true c97
           clear c97
           replace H := Option.bind_eq_some_iff.mp H
           obtain ⟨t298, A980, H⟩ := H
           replace H : (if (rd t276 x82_2) = t298 then (if (rd t266 x82_2) ≥ 0 then (if x82_2 < (t279.length : Int) then (if (rd t279 x82_2) = (rd t266 x82_2) then (if (rd t266 x82_2) < 0 then (if (rd t279 x82_2) = 0 then (tillerlaw03_VecPlaces.l0 k2 t269 a2 t272 t276 t279 t282 t266 (t266.length : Int) (wrap64 (x82_2 + 1))) else (some false)) else (tillerlaw03_VecPlaces.l0 k2 t269 a2 t272 t276 t279 t282 t266 (t266.length : Int) (wrap64 (x82_2 + 1)))) else (some false)) else (none)) else (if (rd t266 x82_2) < 0 then (if x82_2 < (t279.length : Int) then (if (rd t279 x82_2) = 0 then (tillerlaw03_VecPlaces.l0 k2 t269 a2 t272 t276 t279 t282 t266 (t266.length : Int) (wrap64 (x82_2 + 1))) else (some false)) else (none)) else (tillerlaw03_VecPlaces.l0 k2 t269 a2 t272 t276 t279 t282 t266 (t266.length : Int) (wrap64 (x82_2 + 1))))) else (some false)) = some r := H
           have A98 := Aside0.mk A980
           clear A980
           by_cases c99 : (rd t276 x82_2) = t298
           ·rw [if_pos c99] at H
            have c99b0 : ((rd t276 x82_2) == t298) = true := beq_iff_eq.mpr c99
            have c99b1 : ((rd t276 x82_2) != t298) = false := bne_eq_false_iff_eq.mpr c99
            clear c99
            by_cases c100 : (rd t266 x82_2) ≥ 0
            ·rw [if_pos c100] at H
             have c100b0 : decide (0 ≤ (rd t266 x82_2)) = true := decide_eq_true c100
             clear c100
             by_cases c101 : x82_2 < (t279.length : Int)
             ·rw [if_pos c101] at H
              have c101b0 : decide (x82_2 < (t279.length : Int)) = true := decide_eq_true c101
              clear c101
              by_cases c102 : (rd t279 x82_2) = (rd t266 x82_2)
              ·rw [if_pos c102] at H
               have c102b0 : ((rd t279 x82_2) == (rd t266 x82_2)) = true := beq_iff_eq.mpr c102
               have c102b1 : ((rd t279 x82_2) != (rd t266 x82_2)) = false := bne_eq_false_iff_eq.mpr c102
               clear c102
               by_cases c103 : (rd t266 x82_2) < 0
               ·rw [if_pos c103] at H
                have c103b0 : decide ((rd t266 x82_2) < 0) = true := decide_eq_true c103
                clear c103
                by_cases c104 : (rd t279 x82_2) = 0
                ·rw [if_pos c104] at H
                 have c104b0 : ((rd t279 x82_2) == 0) = true := beq_iff_eq.mpr c104
                 have c104b1 : ((rd t279 x82_2) != 0) = false := bne_eq_false_iff_eq.mpr c104
                 clear c104
                 have H' := Aside0.mk H
                 clear H
                 have p288 : 0 ≤ (x82_2 : Int) := ofd_
                 have q288 : x82_2 < (t266.length : Int) := ofd_
                 (first | obtain ⟨ad288, e288, hx288_0⟩ := Kd.at_int (Kd.R_reads' HO_80.out).2.2 x82_2 p288 q288 | (obtain ⟨Az_, cz_, ez_⟩ := Kd.R_slice HO_80.out; subst ez_; obtain ⟨ad288, e288, hx288_0⟩ := Kd.at_int (Kd.R_reads' HO_80.out).2.2 x82_2 p288 q288))
                 cases e288
                 replace p288 := eq_true p288
                 replace q288 := eq_true q288
                 try go_wp2
                 have n0_ := Aside0.mk (Kd.R_drew HO_1.out)
                 have n1_ := Aside0.mk (Kd.R_drew HO_7.out)
                 have n2_ := Aside0.mk (Kd.R_drew HO_9.out)
                 have n3_ := Aside0.mk (Kd.R_drew HO_10.out)
                 have n4_ := Aside0.mk (Kd.R_drew HO_80.out)
                 have n5_ := Aside0.mk (below_drew1 HB.out)
                 clear HO_1
                 clear HO_7
                 clear HO_9
                 clear HO_10
                 clear HO_80
                 clear HB
                 have HO_1 := n0_
                 have HO_7 := n1_
                 have HO_9 := n2_
                 have HO_10 := n3_
                 have HO_80 := n4_
                 have HB := n5_
                 clear n0_ n1_ n2_ n3_ n4_ n5_
                 obtain ⟨Ao106, co106, eo106⟩ := Kd.R_slice HO_9.out
                 (first | subst eo106 | (injection eo106 with f1_ f2_ f3_; have f4_ := f1_.symm; have f5_ := f3_.symm; clear f1_ f2_ f3_; subst f4_; subst f5_))
                 have p297 : 0 ≤ (x82_2 : Int) := ofd_
                 have q297 : x82_2 < (t276.length : Int) := ofd_
                 (first | obtain ⟨ad297, e297, hx297_0⟩ := Kd.at_int (Kd.R_reads' HO_9.out).2.2 x82_2 p297 q297 | (obtain ⟨Az_, cz_, ez_⟩ := Kd.R_slice HO_9.out; subst ez_; obtain ⟨ad297, e297, hx297_0⟩ := Kd.at_int (Kd.R_reads' HO_9.out).2.2 x82_2 p297 q297))
                 cases e297
                 replace p297 := eq_true p297
                 replace q297 := eq_true q297
                 have p299 : 0 ≤ (x82_2 : Int) := ofd_
                 have q299 : x82_2 < (t279.length : Int) := ofd_
                 (first | obtain ⟨ad299, e299, hx299_0⟩ := Kd.at_int (Kd.R_reads' HO_10.out).2.2 x82_2 p299 q299 | (obtain ⟨Az_, cz_, ez_⟩ := Kd.R_slice HO_10.out; subst ez_; obtain ⟨ad299, e299, hx299_0⟩ := Kd.at_int (Kd.R_reads' HO_10.out).2.2 x82_2 p299 q299))
                 cases e299
                 replace p299 := eq_true p299
                 replace q299 := eq_true q299
                 have p300 : 0 ≤ (x82_2 : Int) := ofd_
                 have q300 : x82_2 < (t279.length : Int) := ofd_
                 (first | obtain ⟨ad300, e300, hx300_0⟩ := Kd.at_int (Kd.R_reads' HO_10.out).2.2 x82_2 p300 q300 | (obtain ⟨Az_, cz_, ez_⟩ := Kd.R_slice HO_10.out; subst ez_; obtain ⟨ad300, e300, hx300_0⟩ := Kd.at_int (Kd.R_reads' HO_10.out).2.2 x82_2 p300 q300))
                 obtain rfl : ad299 = ad300 := (by injection e300)
                 replace p300 := eq_true p300
                 replace q300 := eq_true q300
                 refine start_ (n := 51) (S := fun w' => w'.cell? (ad297.add (x82_2).toNat) = some (.int .i32 (rd t276 x82_2)) ∧ w'.cell? (ad299.add (x82_2).toNat) = some (.int .i32 (rd t279 x82_2)) ∧ w'.cell? (ad299.add (x82_2).toNat) = some (.int .i32 (rd t279 x82_2))) (ds := []) T54481_0 (by kernel_rfl) rfl rfl ⟨hx297_0, hx299_0, hx300_0⟩ (fun hHeld => ?_); refine with_tabW tillerlaw03_VecPlaces.tab10 tillerlaw03_VecPlaces.bits10 (fun HT_ HW_ => ?_)
                 generalize wr.drew = w105 at HO_1 HO_7 HO_9 HO_10 HO_80 HB hx297_0 hx299_0 hx300_0 hHeld ⊢
                 refine pure_ (i := 0) (N := some 87) (v := ?_) (a' := ?_) T54481_1 rfl rfl (any_of HT_.out (by kernel_rfl)) idq (.inl ⟨by rfl, ?_⟩) ?_ ?_
                 rotate_left; ·intro w'; go_simp; with_reducible rfl
                 rotate_left; ·simp only [Act.put, sqA, sqB, sqC, i64_w, i32_w]; rfl
                 refine pure_ (i := 1) (N := some 88) (v := ?_) (a' := ?_) T54481_2 rfl rfl (any_of HT_.out (by kernel_rfl)) idq (.inl ⟨by rfl, ?_⟩) ?_ ?_
                 rotate_left; ·intro w'; go_simp; with_reducible rfl
                 rotate_left; ·simp only [Act.put, sqA, sqB, sqC, i64_w, i32_w]; rfl
                 refine pure_ (i := 2) (N := some 89) (v := ?_) (a' := ?_) T54481_3 rfl rfl (any_of HT_.out (by kernel_rfl)) idq (.inl ⟨by rfl, ?_⟩) ?_ ?_
                 rotate_left; ·intro w'; go_simp; with_reducible rfl
                 rotate_left; ·simp only [Act.put, sqA, sqB, sqC, i64_w, i32_w]; rfl
                 refine pure_ (i := 3) (N := some 90) (v := undef) (a' := ?_) T54481_4 rfl rfl (any_of HT_.out (by kernel_rfl)) (fun _ _ _ h => h) (Or.inr ⟨by rfl, rfl⟩) ?_ ?_
                 rotate_left; ·simp only [Act.put, sqA, sqB, sqC, i64_w, i32_w]; rfl
                 refine pure_ (i := 4) (N := some 91) (v := undef) (a' := ?_) T54481_5 rfl rfl (any_of HT_.out (by kernel_rfl)) (fun _ _ _ h => h) (Or.inr ⟨by rfl, rfl⟩) ?_ ?_
                 rotate_left; ·simp only [Act.put, sqA, sqB, sqC, i64_w, i32_w]; rfl
                 refine pure_ (i := 5) (N := some 92) (v := undef) (a' := ?_) T54481_6 rfl rfl (any_of HT_.out (by kernel_rfl)) (fun _ _ _ h => h) (Or.inr ⟨by rfl, rfl⟩) ?_ ?_
                 rotate_left; ·simp only [Act.put, sqA, sqB, sqC, i64_w, i32_w]; rfl
                 refine pure_ (i := 6) (N := some 93) (v := undef) (a' := ?_) T54481_53 rfl rfl (any_of HT_.out (by kernel_rfl)) (fun _ _ _ h => h) (Or.inr ⟨by rfl, rfl⟩) ?_ ?_
                 rotate_left; ·simp only [Act.put, sqA, sqB, sqC, i64_w, i32_w]; rfl
                 refine pure_ (i := 7) (N := some 94) (v := undef) (a' := ?_) T54481_54 rfl rfl (any_of HT_.out (by kernel_rfl)) (fun _ _ _ h => h) (Or.inr ⟨by rfl, rfl⟩) ?_ ?_
                 rotate_left; ·simp only [Act.put, sqA, sqB, sqC, i64_w, i32_w]; rfl
                 refine pure_ (i := 8) (N := some 95) (v := undef) (a' := ?_) T54481_55 rfl rfl (any_of HT_.out (by kernel_rfl)) (fun _ _ _ h => h) (Or.inr ⟨by rfl, rfl⟩) ?_ ?_
                 rotate_left; ·simp only [Act.put, sqA, sqB, sqC, i64_w, i32_w]; rfl
                 refine pure_ (i := 9) (N := some 96) (v := undef) (a' := ?_) T54481_56 rfl rfl (any_of HT_.out (by kernel_rfl)) (fun _ _ _ h => h) (Or.inr ⟨by rfl, rfl⟩) ?_ ?_
                 rotate_left; ·simp only [Act.put, sqA, sqB, sqC, i64_w, i32_w]; rfl
                 refine pure_ (i := 10) (N := some 97) (v := undef) (a' := ?_) T54481_57 rfl rfl (any_of HT_.out (by kernel_rfl)) (fun _ _ _ h => h) (Or.inr ⟨by rfl, rfl⟩) ?_ ?_
                 rotate_left; ·simp only [Act.put, sqA, sqB, sqC, i64_w, i32_w]; rfl
                 refine pure_ (i := 11) (N := some 98) (v := undef) (a' := ?_) T54481_12 rfl rfl (any_of HT_.out (by kernel_rfl)) (fun _ _ _ h => h) (Or.inr ⟨by rfl, rfl⟩) ?_ ?_
                 rotate_left; ·simp only [Act.put, sqA, sqB, sqC, i64_w, i32_w]; rfl
                 refine pure_ (i := 12) (N := some 99) (v := undef) (a' := ?_) T54481_13 rfl rfl (any_of HT_.out (by kernel_rfl)) (fun _ _ _ h => h) (Or.inr ⟨by rfl, rfl⟩) ?_ ?_
                 rotate_left; ·simp only [Act.put, sqA, sqB, sqC, i64_w, i32_w]; rfl
                 refine pure_ (i := 13) (N := some 100) (v := undef) (a' := ?_) T54481_14 rfl rfl (any_of HT_.out (by kernel_rfl)) (fun _ _ _ h => h) (Or.inr ⟨by rfl, rfl⟩) ?_ ?_
                 rotate_left; ·simp only [Act.put, sqA, sqB, sqC, i64_w, i32_w]; rfl
                 refine pure_ (i := 14) (N := some 101) (v := undef) (a' := ?_) T54481_15 rfl rfl (any_of HT_.out (by kernel_rfl)) (fun _ _ _ h => h) (Or.inr ⟨by rfl, rfl⟩) ?_ ?_
                 rotate_left; ·simp only [Act.put, sqA, sqB, sqC, i64_w, i32_w]; rfl
                 refine pure_ (i := 15) (N := some 102) (v := undef) (a' := ?_) T54481_16 rfl rfl (any_of HT_.out (by kernel_rfl)) (fun _ _ _ h => h) (Or.inr ⟨by rfl, rfl⟩) ?_ ?_
                 rotate_left; ·simp only [Act.put, sqA, sqB, sqC, i64_w, i32_w]; rfl
                 refine pure_ (i := 16) (N := some 103) (v := undef) (a' := ?_) T54481_17 rfl rfl (any_of HT_.out (by kernel_rfl)) (fun _ _ _ h => h) (Or.inr ⟨by rfl, rfl⟩) ?_ ?_
                 rotate_left; ·simp only [Act.put, sqA, sqB, sqC, i64_w, i32_w]; rfl
                 refine pure_ (i := 17) (N := some 104) (v := ?_) (a' := ?_) T54481_18 rfl rfl (any_of HT_.out (by kernel_rfl)) idq (.inl ⟨by rfl, ?_⟩) ?_ ?_
                 rotate_left; ·intro w'; go_simp; with_reducible rfl
                 rotate_left; ·simp only [Act.put, sqA, sqB, sqC, i64_w, i32_w]; rfl
                 refine pure_ (i := 18) (N := some 105) (v := ?_) (a' := ?_) T54481_19 rfl rfl (any_of HT_.out (by kernel_rfl)) idq (.inl ⟨by rfl, ?_⟩) ?_ ?_
                 rotate_left; ·intro w'; go_simp; with_reducible rfl
                 rotate_left; ·simp only [Act.put, sqA, sqB, sqC, i64_w, i32_w]; rfl
                 refine pure_ (i := 19) (N := some 106) (v := ?_) (a' := ?_) T54481_20 rfl rfl (any_of HT_.out (by kernel_rfl)) idq (.inl ⟨by rfl, ?_⟩) ?_ ?_
                 rotate_left; ·intro w'; go_simp; with_reducible rfl
                 rotate_left; ·simp only [Act.put, sqA, sqB, sqC, i64_w, i32_w]; rfl
                 refine pure_ (i := 20) (N := some 107) (v := ?_) (a' := ?_) T54481_21 rfl rfl (any_of HT_.out (by kernel_rfl)) idq (.inl ⟨by rfl, ?_⟩) ?_ ?_
                 rotate_left; ·intro w'; go_simp; with_reducible rfl
                 rotate_left; ·simp only [Act.put, sqA, sqB, sqC, i64_w, i32_w]; rfl
                 refine pure_ (i := 21) (N := some 108) (v := ?_) (a' := ?_) T54481_22 rfl rfl (any_of HT_.out (by kernel_rfl)) idq (.inl ⟨by rfl, ?_⟩) ?_ ?_
                 rotate_left; ·intro w'; go_simp; with_reducible rfl
                 rotate_left; ·simp only [Act.put, sqA, sqB, sqC, i64_w, i32_w]; rfl
                 refine pure_ (i := 23) (N := some 110) (v := ?_) (a' := ?_) T54481_23 rfl rfl (any_of HT_.out (by kernel_rfl)) idq (.inl ⟨by rfl, ?_⟩) ?_ ?_
                 rotate_left; ·intro w'; go_simp; with_reducible rfl
                 rotate_left; ·simp only [Act.put, sqA, sqB, sqC, i64_w, i32_w]; rfl
                 refine pure_ (i := 24) (N := some 111) (v := ?_) (a' := ?_) T54481_24 rfl rfl (any_of HT_.out (by kernel_rfl)) idq (.inl ⟨by rfl, ?_⟩) ?_ ?_
                 rotate_left; ·intro w'; go_simp; with_reducible rfl
                 rotate_left; ·simp only [Act.put, sqA, sqB, sqC, i64_w, i32_w]; rfl
                 refine take_ (i := 22) (N := some 109) (v := ?_) (a' := ?_) T54481_25 rfl rfl (take_ofW HT_.out HW_.out (by kernel_rfl)) idq (.inl ⟨by rfl, ?_⟩) hHeld ?_ ?_
                 rotate_left
                 ·rintro w' ⟨s0, s1, s2⟩
                  go_simp
                  with_reducible rfl
                 rotate_left; ·simp only [Act.put, sqA, sqB, sqC, i64_w, i32_w]; rfl
                 refine one_ (i := 25) (N := some 112) T54481_26 rfl rfl (one_of HT_.out (by kernel_rfl)) (by decide) (fun K hK => ?_)
                 refine goes_ Try.func27 (by kernel_rfl) rfl #[.int .i32 (rd t266 x82_2), .int .i32 a2] (by rfl) rfl rfl (by (try simp only [List.map_toArray, List.map_cons, List.map_nil]); first | done | rfl | (simp only [List.length_drop, List.length_take]; rfl)) ?_
                 with_reducible refine (tillerref01_Mul.calls k2 (rd t266 x82_2) a2 t298 _ A98.out).mono ?_
                 rintro e w' ⟨rfl, ⟨nd, rfl⟩⟩
                 refine ⟨_, rfl, ?_⟩
                 obtain ⟨Ao107, co107, eo107⟩ := Kd.R_slice HO_10.out
                 (first | subst eo107 | (injection eo107 with f1_ f2_ f3_; have f4_ := f1_.symm; have f5_ := f3_.symm; clear f1_ f2_ f3_; subst f4_; subst f5_))
                 refine hK.out _ _ ⟨hHeld.1, hHeld.2.1, hHeld.2.2⟩ (fun hHeld => ?_)
                 clear hK K
                 refine norm_ (a' := ?_) ?_ ?_
                 rotate_left
                 ·show Act.put _ (some 112) _ = _
                  simp only [Act.put, sqA, sqB, sqC, i64_w, i32_w]
                  rfl
                 refine pure_ (i := 26) (N := some 113) (v := ?_) (a' := ?_) T54481_27 rfl rfl (any_of HT_.out (by kernel_rfl)) idq (.inl ⟨by rfl, ?_⟩) ?_ ?_
                 rotate_left; ·intro w'; go_simp; with_reducible rfl
                 rotate_left; ·simp only [Act.put, sqA, sqB, sqC, i64_w, i32_w]; rfl
                 refine pure_ (i := 27) (N := some 114) (v := ?_) (a' := ?_) T54481_28 rfl rfl (any_of HT_.out (by kernel_rfl)) idq (.inl ⟨by rfl, ?_⟩) ?_ ?_
                 rotate_left; ·intro w'; go_simp; with_reducible rfl
                 rotate_left; ·simp only [Act.put, sqA, sqB, sqC, i64_w, i32_w]; rfl
                 refine pure_ (i := 28) (N := some 115) (v := ?_) (a' := ?_) T54481_29 rfl rfl (any_of HT_.out (by kernel_rfl)) idq (.inl ⟨by rfl, ?_⟩) ?_ ?_
                 rotate_left; ·intro w'; go_simp; with_reducible rfl
                 rotate_left; ·simp only [Act.put, sqA, sqB, sqC, i64_w, i32_w]; rfl
                 refine pure_ (i := 29) (N := some 116) (v := ?_) (a' := ?_) T54481_30 rfl rfl (any_of HT_.out (by kernel_rfl)) idq (.inl ⟨by rfl, ?_⟩) ?_ ?_
                 rotate_left; ·intro w'; go_simp; with_reducible rfl
                 rotate_left; ·simp only [Act.put, sqA, sqB, sqC, i64_w, i32_w]; rfl
                 refine pure_ (i := 30) (N := some 117) (v := ?_) (a' := ?_) T54481_31 rfl rfl (any_of HT_.out (by kernel_rfl)) idq (.inl ⟨by rfl, ?_⟩) ?_ ?_
                 rotate_left; ·intro w'; go_simp; with_reducible rfl
                 rotate_left; ·simp only [Act.put, sqA, sqB, sqC, i64_w, i32_w]; rfl
                 refine pure_ (i := 31) (N := some 118) (v := ?_) (a' := ?_) T54481_32 rfl rfl (any_of HT_.out (by kernel_rfl)) idq (.inl ⟨by rfl, ?_⟩) ?_ ?_
                 rotate_left; ·intro w'; go_simp; with_reducible rfl
                 rotate_left; ·simp only [Act.put, sqA, sqB, sqC, i64_w, i32_w]; rfl
                 refine pure_ (i := 32) (N := some 119) (v := ?_) (a' := ?_) T54481_33 rfl rfl (any_of HT_.out (by kernel_rfl)) idq (.inl ⟨by rfl, ?_⟩) ?_ ?_
                 rotate_left; ·intro w'; go_simp; with_reducible rfl
                 rotate_left; ·simp only [Act.put, sqA, sqB, sqC, i64_w, i32_w]; rfl
                 refine pure_ (i := 33) (N := some 120) (v := ?_) (a' := ?_) T54481_34 rfl rfl (any_of HT_.out (by kernel_rfl)) idq (.inl ⟨by rfl, ?_⟩) ?_ ?_
                 rotate_left; ·intro w'; go_simp; with_reducible rfl
                 rotate_left; ·simp only [Act.put, sqA, sqB, sqC, i64_w, i32_w]; rfl
                 refine pure_ (i := 34) (N := some 121) (v := ?_) (a' := ?_) T54481_35 rfl rfl (any_of HT_.out (by kernel_rfl)) idq (.inl ⟨by rfl, ?_⟩) ?_ ?_
                 rotate_left; ·intro w'; go_simp; with_reducible rfl
                 rotate_left; ·simp only [Act.put, sqA, sqB, sqC, i64_w, i32_w]; rfl
                 refine pure_ (i := 36) (N := some 123) (v := ?_) (a' := ?_) T54481_36 rfl rfl (any_of HT_.out (by kernel_rfl)) idq (.inl ⟨by rfl, ?_⟩) ?_ ?_
                 rotate_left; ·intro w'; go_simp; with_reducible rfl
                 rotate_left; ·simp only [Act.put, sqA, sqB, sqC, i64_w, i32_w]; rfl
                 refine take_ (i := 35) (N := some 122) (v := ?_) (a' := ?_) T54481_37 rfl rfl (take_ofW HT_.out HW_.out (by kernel_rfl)) idq (.inl ⟨by rfl, ?_⟩) hHeld ?_ ?_
                 rotate_left
                 ·rintro w' ⟨s0, s1, s2⟩
                  go_simp
                  with_reducible rfl
                 rotate_left; ·simp only [Act.put, sqA, sqB, sqC, i64_w, i32_w]; rfl
                 refine pure_ (i := 37) (N := some 124) (v := ?_) (a' := ?_) T54481_38 rfl rfl (any_of HT_.out (by kernel_rfl)) idq (.inl ⟨by rfl, ?_⟩) ?_ ?_
                 rotate_left; ·intro w'; go_simp; with_reducible rfl
                 rotate_left; ·simp only [Act.put, sqA, sqB, sqC, i64_w, i32_w]; rfl
                 refine pure_ (i := 38) (N := some 125) (v := ?_) (a' := ?_) T54481_39 rfl rfl (any_of HT_.out (by kernel_rfl)) idq (.inl ⟨by rfl, ?_⟩) ?_ ?_
                 rotate_left; ·intro w'; go_simp; with_reducible rfl
                 rotate_left; ·simp only [Act.put, sqA, sqB, sqC, i64_w, i32_w]; rfl
                 refine pure_ (i := 39) (N := some 126) (v := ?_) (a' := ?_) T54481_40 rfl rfl (any_of HT_.out (by kernel_rfl)) idq (.inl ⟨by rfl, ?_⟩) ?_ ?_
                 rotate_left; ·intro w'; go_simp; with_reducible rfl
                 rotate_left; ·simp only [Act.put, sqA, sqB, sqC, i64_w, i32_w]; rfl
                 refine pure_ (i := 40) (N := some 127) (v := ?_) (a' := ?_) T54481_41 rfl rfl (any_of HT_.out (by kernel_rfl)) idq (.inl ⟨by rfl, ?_⟩) ?_ ?_
                 rotate_left; ·intro w'; go_simp; with_reducible rfl
                 rotate_left; ·simp only [Act.put, sqA, sqB, sqC, i64_w, i32_w]; rfl
                 refine pure_ (i := 41) (N := some 128) (v := ?_) (a' := ?_) T54481_42 rfl rfl (any_of HT_.out (by kernel_rfl)) idq (.inl ⟨by rfl, ?_⟩) ?_ ?_
                 rotate_left; ·intro w'; go_simp; with_reducible rfl
                 rotate_left; ·simp only [Act.put, sqA, sqB, sqC, i64_w, i32_w]; rfl
                 refine pure_ (i := 42) (N := some 129) (v := ?_) (a' := ?_) T54481_43 rfl rfl (any_of HT_.out (by kernel_rfl)) idq (.inl ⟨by rfl, ?_⟩) ?_ ?_
                 rotate_left; ·intro w'; go_simp; with_reducible rfl
                 rotate_left; ·simp only [Act.put, sqA, sqB, sqC, i64_w, i32_w]; rfl
                 refine pure_ (i := 43) (N := some 130) (v := ?_) (a' := ?_) T54481_44 rfl rfl (any_of HT_.out (by kernel_rfl)) idq (.inl ⟨by rfl, ?_⟩) ?_ ?_
                 rotate_left; ·intro w'; go_simp; with_reducible rfl
                 rotate_left; ·simp only [Act.put, sqA, sqB, sqC, i64_w, i32_w]; rfl
                 refine pure_ (i := 44) (N := some 131) (v := ?_) (a' := ?_) T54481_45 rfl rfl (any_of HT_.out (by kernel_rfl)) idq (.inl ⟨by rfl, ?_⟩) ?_ ?_
                 rotate_left; ·intro w'; go_simp; with_reducible rfl
                 rotate_left; ·simp only [Act.put, sqA, sqB, sqC, i64_w, i32_w]; rfl
                 refine pure_ (i := 45) (N := some 132) (v := ?_) (a' := ?_) T54481_46 rfl rfl (any_of HT_.out (by kernel_rfl)) idq (.inl ⟨by rfl, ?_⟩) ?_ ?_
                 rotate_left; ·intro w'; go_simp; with_reducible rfl
                 rotate_left; ·simp only [Act.put, sqA, sqB, sqC, i64_w, i32_w]; rfl
                 refine pure_ (i := 46) (N := some 133) (v := ?_) (a' := ?_) T54481_47 rfl rfl (any_of HT_.out (by kernel_rfl)) idq (.inl ⟨by rfl, ?_⟩) ?_ ?_
                 rotate_left; ·intro w'; go_simp; with_reducible rfl
                 rotate_left; ·simp only [Act.put, sqA, sqB, sqC, i64_w, i32_w]; rfl
                 refine take_ (i := 47) (N := some 134) (v := ?_) (a' := ?_) T54481_48 rfl rfl (take_ofW HT_.out HW_.out (by kernel_rfl)) idq (.inl ⟨by rfl, ?_⟩) hHeld ?_ ?_
                 rotate_left
                 ·rintro w' ⟨s0, s1, s2⟩
                  go_simp
                  with_reducible rfl
                 rotate_left; ·simp only [Act.put, sqA, sqB, sqC, i64_w, i32_w]; rfl
                 refine pure_ (i := 48) (N := some 135) (v := ?_) (a' := ?_) T54481_49 rfl rfl (any_of HT_.out (by kernel_rfl)) idq (.inl ⟨by rfl, ?_⟩) ?_ ?_
                 rotate_left; ·intro w'; go_simp; with_reducible rfl
                 rotate_left; ·simp only [Act.put, sqA, sqB, sqC, i64_w, i32_w]; rfl
                 refine pure_ (i := 49) (N := some 136) (v := ?_) (a' := ?_) T54481_50 rfl rfl (any_of HT_.out (by kernel_rfl)) idq (.inl ⟨by rfl, ?_⟩) ?_ ?_
                 rotate_left; ·intro w'; go_simp; with_reducible rfl
                 rotate_left; ·simp only [Act.put, sqA, sqB, sqC, i64_w, i32_w]; rfl
                 refine pure_ (i := 50) (N := some 137) (v := ?_) (a' := ?_) T54481_51 rfl rfl (any_of HT_.out (by kernel_rfl)) idq (.inl ⟨by rfl, ?_⟩) ?_ ?_
                 rotate_left; ·intro w'; go_simp; with_reducible rfl
                 rotate_left; ·simp only [Act.put, sqA, sqB, sqC, i64_w, i32_w]; rfl
                 refine done_ (done_of HT_.out (by kernel_rfl)) ?_
                 try go_wp2
                 go_roundg k2
                 case measure => have := HJ9.out; have := HK2.out; omega
                 case rel => exact ⟨(wrap64 (x82_2 + 1)), (by first | rfl | (simp; done) | (simp [*]; done)), H', ⟨by have := HJ9.out; have := HK2.out; omega⟩, ⟨by (with_reducible repeat (first | apply Kd.R_alloc | apply Kd.R_drewN | apply Kd.R_drew)); exact HO_1.out⟩, ⟨by (with_reducible repeat (first | apply Kd.R_alloc | apply Kd.R_drewN | apply Kd.R_drew)); exact HO_7.out⟩, ⟨by (with_reducible repeat (first | apply Kd.R_alloc | apply Kd.R_drewN | apply Kd.R_drew)); exact HO_9.out⟩, ⟨by (with_reducible repeat (first | apply Kd.R_alloc | apply Kd.R_drewN | apply Kd.R_drew)); exact HO_10.out⟩, ⟨by (with_reducible repeat (first | apply Kd.R_alloc | apply Kd.R_drewN | apply Kd.R_drew)); exact HO_80.out⟩, ⟨by repeat (first | (with_reducible first | exact HB.out | apply below_alloc | apply pw_below_drewN | apply below_drew1) | exact HB.out)⟩⟩
                ·rw [if_neg c104] at H
                 exact absurd (Option.some.inj H) (by rw [hr_.out]; decide)
               ·rw [if_neg c103] at H
                have c103b0 : decide ((rd t266 x82_2) < 0) = false := decide_eq_false c103
                clear c103
                have H' := Aside0.mk H
                clear H
                have p288 : 0 ≤ (x82_2 : Int) := ofd_
                have q288 : x82_2 < (t266.length : Int) := ofd_
                (first | obtain ⟨ad288, e288, hx288_0⟩ := Kd.at_int (Kd.R_reads' HO_80.out).2.2 x82_2 p288 q288 | (obtain ⟨Az_, cz_, ez_⟩ := Kd.R_slice HO_80.out; subst ez_; obtain ⟨ad288, e288, hx288_0⟩ := Kd.at_int (Kd.R_reads' HO_80.out).2.2 x82_2 p288 q288))
                cases e288
                replace p288 := eq_true p288
                replace q288 := eq_true q288
                try go_wp2
                have n0_ := Aside0.mk (Kd.R_drew HO_1.out)
                have n1_ := Aside0.mk (Kd.R_drew HO_7.out)
                have n2_ := Aside0.mk (Kd.R_drew HO_9.out)
                have n3_ := Aside0.mk (Kd.R_drew HO_10.out)
                have n4_ := Aside0.mk (Kd.R_drew HO_80.out)
                have n5_ := Aside0.mk (below_drew1 HB.out)
                clear HO_1
                clear HO_7
                clear HO_9
                clear HO_10
                clear HO_80
                clear HB
                have HO_1 := n0_
                have HO_7 := n1_
                have HO_9 := n2_
                have HO_10 := n3_
                have HO_80 := n4_
                have HB := n5_
                clear n0_ n1_ n2_ n3_ n4_ n5_
                obtain ⟨Ao109, co109, eo109⟩ := Kd.R_slice HO_9.out
                (first | subst eo109 | (injection eo109 with f1_ f2_ f3_; have f4_ := f1_.symm; have f5_ := f3_.symm; clear f1_ f2_ f3_; subst f4_; subst f5_))
                have p297 : 0 ≤ (x82_2 : Int) := ofd_
                have q297 : x82_2 < (t276.length : Int) := ofd_
                (first | obtain ⟨ad297, e297, hx297_0⟩ := Kd.at_int (Kd.R_reads' HO_9.out).2.2 x82_2 p297 q297 | (obtain ⟨Az_, cz_, ez_⟩ := Kd.R_slice HO_9.out; subst ez_; obtain ⟨ad297, e297, hx297_0⟩ := Kd.at_int (Kd.R_reads' HO_9.out).2.2 x82_2 p297 q297))
                cases e297
                replace p297 := eq_true p297
                replace q297 := eq_true q297
                have p299 : 0 ≤ (x82_2 : Int) := ofd_
                have q299 : x82_2 < (t279.length : Int) := ofd_
                (first | obtain ⟨ad299, e299, hx299_0⟩ := Kd.at_int (Kd.R_reads' HO_10.out).2.2 x82_2 p299 q299 | (obtain ⟨Az_, cz_, ez_⟩ := Kd.R_slice HO_10.out; subst ez_; obtain ⟨ad299, e299, hx299_0⟩ := Kd.at_int (Kd.R_reads' HO_10.out).2.2 x82_2 p299 q299))
                cases e299
                replace p299 := eq_true p299
                replace q299 := eq_true q299
                refine start_ (n := 51) (S := fun w' => w'.cell? (ad297.add (x82_2).toNat) = some (.int .i32 (rd t276 x82_2)) ∧ w'.cell? (ad299.add (x82_2).toNat) = some (.int .i32 (rd t279 x82_2))) (ds := []) T54481_0 (by kernel_rfl) rfl rfl ⟨hx297_0, hx299_0⟩ (fun hHeld => ?_); refine with_tabW tillerlaw03_VecPlaces.tab10 tillerlaw03_VecPlaces.bits10 (fun HT_ HW_ => ?_)
                generalize wr.drew = w108 at HO_1 HO_7 HO_9 HO_10 HO_80 HB hx297_0 hx299_0 hHeld ⊢
                refine pure_ (i := 0) (N := some 87) (v := ?_) (a' := ?_) T54481_1 rfl rfl (any_of HT_.out (by kernel_rfl)) idq (.inl ⟨by rfl, ?_⟩) ?_ ?_
                rotate_left; ·intro w'; go_simp; with_reducible rfl
                rotate_left; ·simp only [Act.put, sqA, sqB, sqC, i64_w, i32_w]; rfl
                refine pure_ (i := 1) (N := some 88) (v := ?_) (a' := ?_) T54481_2 rfl rfl (any_of HT_.out (by kernel_rfl)) idq (.inl ⟨by rfl, ?_⟩) ?_ ?_
                rotate_left; ·intro w'; go_simp; with_reducible rfl
                rotate_left; ·simp only [Act.put, sqA, sqB, sqC, i64_w, i32_w]; rfl
                refine pure_ (i := 2) (N := some 89) (v := ?_) (a' := ?_) T54481_3 rfl rfl (any_of HT_.out (by kernel_rfl)) idq (.inl ⟨by rfl, ?_⟩) ?_ ?_
                rotate_left; ·intro w'; go_simp; with_reducible rfl
                rotate_left; ·simp only [Act.put, sqA, sqB, sqC, i64_w, i32_w]; rfl
                refine pure_ (i := 3) (N := some 90) (v := undef) (a' := ?_) T54481_4 rfl rfl (any_of HT_.out (by kernel_rfl)) (fun _ _ _ h => h) (Or.inr ⟨by rfl, rfl⟩) ?_ ?_
                rotate_left; ·simp only [Act.put, sqA, sqB, sqC, i64_w, i32_w]; rfl
                refine pure_ (i := 4) (N := some 91) (v := undef) (a' := ?_) T54481_5 rfl rfl (any_of HT_.out (by kernel_rfl)) (fun _ _ _ h => h) (Or.inr ⟨by rfl, rfl⟩) ?_ ?_
                rotate_left; ·simp only [Act.put, sqA, sqB, sqC, i64_w, i32_w]; rfl
                refine pure_ (i := 5) (N := some 92) (v := undef) (a' := ?_) T54481_6 rfl rfl (any_of HT_.out (by kernel_rfl)) (fun _ _ _ h => h) (Or.inr ⟨by rfl, rfl⟩) ?_ ?_
                rotate_left; ·simp only [Act.put, sqA, sqB, sqC, i64_w, i32_w]; rfl
                refine pure_ (i := 6) (N := some 93) (v := undef) (a' := ?_) T54481_53 rfl rfl (any_of HT_.out (by kernel_rfl)) (fun _ _ _ h => h) (Or.inr ⟨by rfl, rfl⟩) ?_ ?_
                rotate_left; ·simp only [Act.put, sqA, sqB, sqC, i64_w, i32_w]; rfl
                refine pure_ (i := 7) (N := some 94) (v := undef) (a' := ?_) T54481_54 rfl rfl (any_of HT_.out (by kernel_rfl)) (fun _ _ _ h => h) (Or.inr ⟨by rfl, rfl⟩) ?_ ?_
                rotate_left; ·simp only [Act.put, sqA, sqB, sqC, i64_w, i32_w]; rfl
                refine pure_ (i := 8) (N := some 95) (v := undef) (a' := ?_) T54481_55 rfl rfl (any_of HT_.out (by kernel_rfl)) (fun _ _ _ h => h) (Or.inr ⟨by rfl, rfl⟩) ?_ ?_
                rotate_left; ·simp only [Act.put, sqA, sqB, sqC, i64_w, i32_w]; rfl
                refine pure_ (i := 9) (N := some 96) (v := undef) (a' := ?_) T54481_56 rfl rfl (any_of HT_.out (by kernel_rfl)) (fun _ _ _ h => h) (Or.inr ⟨by rfl, rfl⟩) ?_ ?_
                rotate_left; ·simp only [Act.put, sqA, sqB, sqC, i64_w, i32_w]; rfl
                refine pure_ (i := 10) (N := some 97) (v := undef) (a' := ?_) T54481_57 rfl rfl (any_of HT_.out (by kernel_rfl)) (fun _ _ _ h => h) (Or.inr ⟨by rfl, rfl⟩) ?_ ?_
                rotate_left; ·simp only [Act.put, sqA, sqB, sqC, i64_w, i32_w]; rfl
                refine pure_ (i := 11) (N := some 98) (v := undef) (a' := ?_) T54481_12 rfl rfl (any_of HT_.out (by kernel_rfl)) (fun _ _ _ h => h) (Or.inr ⟨by rfl, rfl⟩) ?_ ?_
                rotate_left; ·simp only [Act.put, sqA, sqB, sqC, i64_w, i32_w]; rfl
                refine pure_ (i := 12) (N := some 99) (v := undef) (a' := ?_) T54481_13 rfl rfl (any_of HT_.out (by kernel_rfl)) (fun _ _ _ h => h) (Or.inr ⟨by rfl, rfl⟩) ?_ ?_
                rotate_left; ·simp only [Act.put, sqA, sqB, sqC, i64_w, i32_w]; rfl
                refine pure_ (i := 13) (N := some 100) (v := undef) (a' := ?_) T54481_14 rfl rfl (any_of HT_.out (by kernel_rfl)) (fun _ _ _ h => h) (Or.inr ⟨by rfl, rfl⟩) ?_ ?_
                rotate_left; ·simp only [Act.put, sqA, sqB, sqC, i64_w, i32_w]; rfl
                refine pure_ (i := 14) (N := some 101) (v := undef) (a' := ?_) T54481_15 rfl rfl (any_of HT_.out (by kernel_rfl)) (fun _ _ _ h => h) (Or.inr ⟨by rfl, rfl⟩) ?_ ?_
                rotate_left; ·simp only [Act.put, sqA, sqB, sqC, i64_w, i32_w]; rfl
                refine pure_ (i := 15) (N := some 102) (v := undef) (a' := ?_) T54481_16 rfl rfl (any_of HT_.out (by kernel_rfl)) (fun _ _ _ h => h) (Or.inr ⟨by rfl, rfl⟩) ?_ ?_
                rotate_left; ·simp only [Act.put, sqA, sqB, sqC, i64_w, i32_w]; rfl
                refine pure_ (i := 16) (N := some 103) (v := undef) (a' := ?_) T54481_17 rfl rfl (any_of HT_.out (by kernel_rfl)) (fun _ _ _ h => h) (Or.inr ⟨by rfl, rfl⟩) ?_ ?_
                rotate_left; ·simp only [Act.put, sqA, sqB, sqC, i64_w, i32_w]; rfl
                refine pure_ (i := 17) (N := some 104) (v := ?_) (a' := ?_) T54481_18 rfl rfl (any_of HT_.out (by kernel_rfl)) idq (.inl ⟨by rfl, ?_⟩) ?_ ?_
                rotate_left; ·intro w'; go_simp; with_reducible rfl
                rotate_left; ·simp only [Act.put, sqA, sqB, sqC, i64_w, i32_w]; rfl
                refine pure_ (i := 18) (N := some 105) (v := ?_) (a' := ?_) T54481_19 rfl rfl (any_of HT_.out (by kernel_rfl)) idq (.inl ⟨by rfl, ?_⟩) ?_ ?_
                rotate_left; ·intro w'; go_simp; with_reducible rfl
                rotate_left; ·simp only [Act.put, sqA, sqB, sqC, i64_w, i32_w]; rfl
                refine pure_ (i := 19) (N := some 106) (v := ?_) (a' := ?_) T54481_20 rfl rfl (any_of HT_.out (by kernel_rfl)) idq (.inl ⟨by rfl, ?_⟩) ?_ ?_
                rotate_left; ·intro w'; go_simp; with_reducible rfl
                rotate_left; ·simp only [Act.put, sqA, sqB, sqC, i64_w, i32_w]; rfl
                refine pure_ (i := 20) (N := some 107) (v := ?_) (a' := ?_) T54481_21 rfl rfl (any_of HT_.out (by kernel_rfl)) idq (.inl ⟨by rfl, ?_⟩) ?_ ?_
                rotate_left; ·intro w'; go_simp; with_reducible rfl
                rotate_left; ·simp only [Act.put, sqA, sqB, sqC, i64_w, i32_w]; rfl
                refine pure_ (i := 21) (N := some 108) (v := ?_) (a' := ?_) T54481_22 rfl rfl (any_of HT_.out (by kernel_rfl)) idq (.inl ⟨by rfl, ?_⟩) ?_ ?_
                rotate_left; ·intro w'; go_simp; with_reducible rfl
                rotate_left; ·simp only [Act.put, sqA, sqB, sqC, i64_w, i32_w]; rfl
                refine pure_ (i := 23) (N := some 110) (v := ?_) (a' := ?_) T54481_23 rfl rfl (any_of HT_.out (by kernel_rfl)) idq (.inl ⟨by rfl, ?_⟩) ?_ ?_
                rotate_left; ·intro w'; go_simp; with_reducible rfl
                rotate_left; ·simp only [Act.put, sqA, sqB, sqC, i64_w, i32_w]; rfl
                refine pure_ (i := 24) (N := some 111) (v := ?_) (a' := ?_) T54481_24 rfl rfl (any_of HT_.out (by kernel_rfl)) idq (.inl ⟨by rfl, ?_⟩) ?_ ?_
                rotate_left; ·intro w'; go_simp; with_reducible rfl
                rotate_left; ·simp only [Act.put, sqA, sqB, sqC, i64_w, i32_w]; rfl
                refine take_ (i := 22) (N := some 109) (v := ?_) (a' := ?_) T54481_25 rfl rfl (take_ofW HT_.out HW_.out (by kernel_rfl)) idq (.inl ⟨by rfl, ?_⟩) hHeld ?_ ?_
                rotate_left
                ·rintro w' ⟨s0, s1⟩
                 go_simp
                 with_reducible rfl
                rotate_left; ·simp only [Act.put, sqA, sqB, sqC, i64_w, i32_w]; rfl
                refine one_ (i := 25) (N := some 112) T54481_26 rfl rfl (one_of HT_.out (by kernel_rfl)) (by decide) (fun K hK => ?_)
                refine goes_ Try.func27 (by kernel_rfl) rfl #[.int .i32 (rd t266 x82_2), .int .i32 a2] (by rfl) rfl rfl (by (try simp only [List.map_toArray, List.map_cons, List.map_nil]); first | done | rfl | (simp only [List.length_drop, List.length_take]; rfl)) ?_
                with_reducible refine (tillerref01_Mul.calls k2 (rd t266 x82_2) a2 t298 _ A98.out).mono ?_
                rintro e w' ⟨rfl, ⟨nd, rfl⟩⟩
                refine ⟨_, rfl, ?_⟩
                obtain ⟨Ao110, co110, eo110⟩ := Kd.R_slice HO_10.out
                (first | subst eo110 | (injection eo110 with f1_ f2_ f3_; have f4_ := f1_.symm; have f5_ := f3_.symm; clear f1_ f2_ f3_; subst f4_; subst f5_))
                refine hK.out _ _ ⟨hHeld.1, hHeld.2⟩ (fun hHeld => ?_)
                clear hK K
                refine norm_ (a' := ?_) ?_ ?_
                rotate_left
                ·show Act.put _ (some 112) _ = _
                 simp only [Act.put, sqA, sqB, sqC, i64_w, i32_w]
                 rfl
                refine pure_ (i := 26) (N := some 113) (v := ?_) (a' := ?_) T54481_27 rfl rfl (any_of HT_.out (by kernel_rfl)) idq (.inl ⟨by rfl, ?_⟩) ?_ ?_
                rotate_left; ·intro w'; go_simp; with_reducible rfl
                rotate_left; ·simp only [Act.put, sqA, sqB, sqC, i64_w, i32_w]; rfl
                refine pure_ (i := 27) (N := some 114) (v := ?_) (a' := ?_) T54481_28 rfl rfl (any_of HT_.out (by kernel_rfl)) idq (.inl ⟨by rfl, ?_⟩) ?_ ?_
                rotate_left; ·intro w'; go_simp; with_reducible rfl
                rotate_left; ·simp only [Act.put, sqA, sqB, sqC, i64_w, i32_w]; rfl
                refine pure_ (i := 28) (N := some 115) (v := ?_) (a' := ?_) T54481_29 rfl rfl (any_of HT_.out (by kernel_rfl)) idq (.inl ⟨by rfl, ?_⟩) ?_ ?_
                rotate_left; ·intro w'; go_simp; with_reducible rfl
                rotate_left; ·simp only [Act.put, sqA, sqB, sqC, i64_w, i32_w]; rfl
                refine pure_ (i := 29) (N := some 116) (v := ?_) (a' := ?_) T54481_30 rfl rfl (any_of HT_.out (by kernel_rfl)) idq (.inl ⟨by rfl, ?_⟩) ?_ ?_
                rotate_left; ·intro w'; go_simp; with_reducible rfl
                rotate_left; ·simp only [Act.put, sqA, sqB, sqC, i64_w, i32_w]; rfl
                refine pure_ (i := 30) (N := some 117) (v := ?_) (a' := ?_) T54481_31 rfl rfl (any_of HT_.out (by kernel_rfl)) idq (.inl ⟨by rfl, ?_⟩) ?_ ?_
                rotate_left; ·intro w'; go_simp; with_reducible rfl
                rotate_left; ·simp only [Act.put, sqA, sqB, sqC, i64_w, i32_w]; rfl
                refine pure_ (i := 31) (N := some 118) (v := ?_) (a' := ?_) T54481_32 rfl rfl (any_of HT_.out (by kernel_rfl)) idq (.inl ⟨by rfl, ?_⟩) ?_ ?_
                rotate_left; ·intro w'; go_simp; with_reducible rfl
                rotate_left; ·simp only [Act.put, sqA, sqB, sqC, i64_w, i32_w]; rfl
                refine pure_ (i := 32) (N := some 119) (v := ?_) (a' := ?_) T54481_33 rfl rfl (any_of HT_.out (by kernel_rfl)) idq (.inl ⟨by rfl, ?_⟩) ?_ ?_
                rotate_left; ·intro w'; go_simp; with_reducible rfl
                rotate_left; ·simp only [Act.put, sqA, sqB, sqC, i64_w, i32_w]; rfl
                refine pure_ (i := 33) (N := some 120) (v := ?_) (a' := ?_) T54481_34 rfl rfl (any_of HT_.out (by kernel_rfl)) idq (.inl ⟨by rfl, ?_⟩) ?_ ?_
                rotate_left; ·intro w'; go_simp; with_reducible rfl
                rotate_left; ·simp only [Act.put, sqA, sqB, sqC, i64_w, i32_w]; rfl
                refine pure_ (i := 34) (N := some 121) (v := ?_) (a' := ?_) T54481_35 rfl rfl (any_of HT_.out (by kernel_rfl)) idq (.inl ⟨by rfl, ?_⟩) ?_ ?_
                rotate_left; ·intro w'; go_simp; with_reducible rfl
                rotate_left; ·simp only [Act.put, sqA, sqB, sqC, i64_w, i32_w]; rfl
                refine pure_ (i := 36) (N := some 123) (v := ?_) (a' := ?_) T54481_36 rfl rfl (any_of HT_.out (by kernel_rfl)) idq (.inl ⟨by rfl, ?_⟩) ?_ ?_
                rotate_left; ·intro w'; go_simp; with_reducible rfl
                rotate_left; ·simp only [Act.put, sqA, sqB, sqC, i64_w, i32_w]; rfl
                refine take_ (i := 35) (N := some 122) (v := ?_) (a' := ?_) T54481_37 rfl rfl (take_ofW HT_.out HW_.out (by kernel_rfl)) idq (.inl ⟨by rfl, ?_⟩) hHeld ?_ ?_
                rotate_left
                ·rintro w' ⟨s0, s1⟩
                 go_simp
                 with_reducible rfl
                rotate_left; ·simp only [Act.put, sqA, sqB, sqC, i64_w, i32_w]; rfl
                refine pure_ (i := 37) (N := some 124) (v := ?_) (a' := ?_) T54481_38 rfl rfl (any_of HT_.out (by kernel_rfl)) idq (.inl ⟨by rfl, ?_⟩) ?_ ?_
                rotate_left; ·intro w'; go_simp; with_reducible rfl
                rotate_left; ·simp only [Act.put, sqA, sqB, sqC, i64_w, i32_w]; rfl
                refine pure_ (i := 38) (N := some 125) (v := ?_) (a' := ?_) T54481_39 rfl rfl (any_of HT_.out (by kernel_rfl)) idq (.inl ⟨by rfl, ?_⟩) ?_ ?_
                rotate_left; ·intro w'; go_simp; with_reducible rfl
                rotate_left; ·simp only [Act.put, sqA, sqB, sqC, i64_w, i32_w]; rfl
                refine pure_ (i := 39) (N := some 126) (v := ?_) (a' := ?_) T54481_40 rfl rfl (any_of HT_.out (by kernel_rfl)) idq (.inl ⟨by rfl, ?_⟩) ?_ ?_
                rotate_left; ·intro w'; go_simp; with_reducible rfl
                rotate_left; ·simp only [Act.put, sqA, sqB, sqC, i64_w, i32_w]; rfl
                refine pure_ (i := 40) (N := some 127) (v := ?_) (a' := ?_) T54481_41 rfl rfl (any_of HT_.out (by kernel_rfl)) idq (.inl ⟨by rfl, ?_⟩) ?_ ?_
                rotate_left; ·intro w'; go_simp; with_reducible rfl
                rotate_left; ·simp only [Act.put, sqA, sqB, sqC, i64_w, i32_w]; rfl
                refine pure_ (i := 41) (N := some 128) (v := ?_) (a' := ?_) T54481_42 rfl rfl (any_of HT_.out (by kernel_rfl)) idq (.inl ⟨by rfl, ?_⟩) ?_ ?_
                rotate_left; ·intro w'; go_simp; with_reducible rfl
                rotate_left; ·simp only [Act.put, sqA, sqB, sqC, i64_w, i32_w]; rfl
                refine pure_ (i := 42) (N := some 129) (v := ?_) (a' := ?_) T54481_43 rfl rfl (any_of HT_.out (by kernel_rfl)) idq (.inl ⟨by rfl, ?_⟩) ?_ ?_
                rotate_left; ·intro w'; go_simp; with_reducible rfl
                rotate_left; ·simp only [Act.put, sqA, sqB, sqC, i64_w, i32_w]; rfl
                refine pure_ (i := 43) (N := some 130) (v := ?_) (a' := ?_) T54481_44 rfl rfl (any_of HT_.out (by kernel_rfl)) idq (.inl ⟨by rfl, ?_⟩) ?_ ?_
                rotate_left; ·intro w'; go_simp; with_reducible rfl
                rotate_left; ·simp only [Act.put, sqA, sqB, sqC, i64_w, i32_w]; rfl
                refine pure_ (i := 44) (N := some 131) (v := undef) (a' := ?_) T54481_45 rfl rfl (any_of HT_.out (by kernel_rfl)) (fun _ _ _ h => h) (Or.inr ⟨by rfl, rfl⟩) ?_ ?_
                rotate_left; ·simp only [Act.put, sqA, sqB, sqC, i64_w, i32_w]; rfl
                refine pure_ (i := 45) (N := some 132) (v := undef) (a' := ?_) T54481_46 rfl rfl (any_of HT_.out (by kernel_rfl)) (fun _ _ _ h => h) (Or.inr ⟨by rfl, rfl⟩) ?_ ?_
                rotate_left; ·simp only [Act.put, sqA, sqB, sqC, i64_w, i32_w]; rfl
                refine pure_ (i := 46) (N := some 133) (v := undef) (a' := ?_) T54481_47 rfl rfl (any_of HT_.out (by kernel_rfl)) (fun _ _ _ h => h) (Or.inr ⟨by rfl, rfl⟩) ?_ ?_
                rotate_left; ·simp only [Act.put, sqA, sqB, sqC, i64_w, i32_w]; rfl
                refine pure_ (i := 47) (N := some 134) (v := undef) (a' := ?_) T54481_48 rfl rfl (any_of HT_.out (by kernel_rfl)) (fun _ _ _ h => h) (Or.inr ⟨by rfl, rfl⟩) ?_ ?_
                rotate_left; ·simp only [Act.put, sqA, sqB, sqC, i64_w, i32_w]; rfl
                refine pure_ (i := 48) (N := some 135) (v := undef) (a' := ?_) T54481_49 rfl rfl (any_of HT_.out (by kernel_rfl)) (fun _ _ _ h => h) (Or.inr ⟨by rfl, rfl⟩) ?_ ?_
                rotate_left; ·simp only [Act.put, sqA, sqB, sqC, i64_w, i32_w]; rfl
                refine pure_ (i := 49) (N := some 136) (v := ?_) (a' := ?_) T54481_50 rfl rfl (any_of HT_.out (by kernel_rfl)) idq (.inl ⟨by rfl, ?_⟩) ?_ ?_
                rotate_left; ·intro w'; go_simp; with_reducible rfl
                rotate_left; ·simp only [Act.put, sqA, sqB, sqC, i64_w, i32_w]; rfl
                refine pure_ (i := 50) (N := some 137) (v := ?_) (a' := ?_) T54481_51 rfl rfl (any_of HT_.out (by kernel_rfl)) idq (.inl ⟨by rfl, ?_⟩) ?_ ?_
                rotate_left; ·intro w'; go_simp; with_reducible rfl
                rotate_left; ·simp only [Act.put, sqA, sqB, sqC, i64_w, i32_w]; rfl
                refine done_ (done_of HT_.out (by kernel_rfl)) ?_
                try go_wp2
                go_roundg k2
                case measure => have := HJ9.out; have := HK2.out; omega
                case rel => exact ⟨(wrap64 (x82_2 + 1)), (by first | rfl | (simp; done) | (simp [*]; done)), H', ⟨by have := HJ9.out; have := HK2.out; omega⟩, ⟨by (with_reducible repeat (first | apply Kd.R_alloc | apply Kd.R_drewN | apply Kd.R_drew)); exact HO_1.out⟩, ⟨by (with_reducible repeat (first | apply Kd.R_alloc | apply Kd.R_drewN | apply Kd.R_drew)); exact HO_7.out⟩, ⟨by (with_reducible repeat (first | apply Kd.R_alloc | apply Kd.R_drewN | apply Kd.R_drew)); exact HO_9.out⟩, ⟨by (with_reducible repeat (first | apply Kd.R_alloc | apply Kd.R_drewN | apply Kd.R_drew)); exact HO_10.out⟩, ⟨by (with_reducible repeat (first | apply Kd.R_alloc | apply Kd.R_drewN | apply Kd.R_drew)); exact HO_80.out⟩, ⟨by repeat (first | (with_reducible first | exact HB.out | apply below_alloc | apply pw_below_drewN | apply below_drew1) | exact HB.out)⟩⟩
              ·rw [if_neg c102] at H
               have c102b0 : ((rd t279 x82_2) == (rd t266 x82_2)) = false := beq_eq_false_iff_ne.mpr c102
               have c102b1 : ((rd t279 x82_2) != (rd t266 x82_2)) = true := bne_iff_ne.mpr c102
               exact absurd (Option.some.inj H) (by rw [hr_.out]; decide)
             ·rw [if_neg c101] at H
              exact absurd H (by simp)
            ·rw [if_neg c100] at H
             have c100b0 : decide (0 ≤ (rd t266 x82_2)) = false := decide_eq_false c100
             clear c100
             by_cases c111 : (rd t266 x82_2) < 0
             ·rw [if_pos c111] at H
              have c111b0 : decide ((rd t266 x82_2) < 0) = true := decide_eq_true c111
              clear c111
              by_cases c112 : x82_2 < (t279.length : Int)
              ·rw [if_pos c112] at H
               have c112b0 : decide (x82_2 < (t279.length : Int)) = true := decide_eq_true c112
               clear c112
               by_cases c113 : (rd t279 x82_2) = 0
               ·rw [if_pos c113] at H
                have c113b0 : ((rd t279 x82_2) == 0) = true := beq_iff_eq.mpr c113
                have c113b1 : ((rd t279 x82_2) != 0) = false := bne_eq_false_iff_eq.mpr c113
                clear c113
                have H' := Aside0.mk H
                clear H
                have p288 : 0 ≤ (x82_2 : Int) := ofd_
                have q288 : x82_2 < (t266.length : Int) := ofd_
                (first | obtain ⟨ad288, e288, hx288_0⟩ := Kd.at_int (Kd.R_reads' HO_80.out).2.2 x82_2 p288 q288 | (obtain ⟨Az_, cz_, ez_⟩ := Kd.R_slice HO_80.out; subst ez_; obtain ⟨ad288, e288, hx288_0⟩ := Kd.at_int (Kd.R_reads' HO_80.out).2.2 x82_2 p288 q288))
                cases e288
                replace p288 := eq_true p288
                replace q288 := eq_true q288
                try go_wp2
                have n0_ := Aside0.mk (Kd.R_drew HO_1.out)
                have n1_ := Aside0.mk (Kd.R_drew HO_7.out)
                have n2_ := Aside0.mk (Kd.R_drew HO_9.out)
                have n3_ := Aside0.mk (Kd.R_drew HO_10.out)
                have n4_ := Aside0.mk (Kd.R_drew HO_80.out)
                have n5_ := Aside0.mk (below_drew1 HB.out)
                clear HO_1
                clear HO_7
                clear HO_9
                clear HO_10
                clear HO_80
                clear HB
                have HO_1 := n0_
                have HO_7 := n1_
                have HO_9 := n2_
                have HO_10 := n3_
                have HO_80 := n4_
                have HB := n5_
                clear n0_ n1_ n2_ n3_ n4_ n5_
                obtain ⟨Ao115, co115, eo115⟩ := Kd.R_slice HO_9.out
                (first | subst eo115 | (injection eo115 with f1_ f2_ f3_; have f4_ := f1_.symm; have f5_ := f3_.symm; clear f1_ f2_ f3_; subst f4_; subst f5_))
                have p297 : 0 ≤ (x82_2 : Int) := ofd_
                have q297 : x82_2 < (t276.length : Int) := ofd_
                (first | obtain ⟨ad297, e297, hx297_0⟩ := Kd.at_int (Kd.R_reads' HO_9.out).2.2 x82_2 p297 q297 | (obtain ⟨Az_, cz_, ez_⟩ := Kd.R_slice HO_9.out; subst ez_; obtain ⟨ad297, e297, hx297_0⟩ := Kd.at_int (Kd.R_reads' HO_9.out).2.2 x82_2 p297 q297))
                cases e297
                replace p297 := eq_true p297
                replace q297 := eq_true q297
                have p301 : 0 ≤ (x82_2 : Int) := ofd_
                have q301 : x82_2 < (t279.length : Int) := ofd_
                (first | obtain ⟨ad301, e301, hx301_0⟩ := Kd.at_int (Kd.R_reads' HO_10.out).2.2 x82_2 p301 q301 | (obtain ⟨Az_, cz_, ez_⟩ := Kd.R_slice HO_10.out; subst ez_; obtain ⟨ad301, e301, hx301_0⟩ := Kd.at_int (Kd.R_reads' HO_10.out).2.2 x82_2 p301 q301))
                cases e301
                replace p301 := eq_true p301
                replace q301 := eq_true q301
                refine start_ (n := 51) (S := fun w' => w'.cell? (ad297.add (x82_2).toNat) = some (.int .i32 (rd t276 x82_2)) ∧ w'.cell? (ad301.add (x82_2).toNat) = some (.int .i32 (rd t279 x82_2))) (ds := []) T54481_0 (by kernel_rfl) rfl rfl ⟨hx297_0, hx301_0⟩ (fun hHeld => ?_); refine with_tabW tillerlaw03_VecPlaces.tab10 tillerlaw03_VecPlaces.bits10 (fun HT_ HW_ => ?_)
                generalize wr.drew = w114 at HO_1 HO_7 HO_9 HO_10 HO_80 HB hx297_0 hx301_0 hHeld ⊢
                refine pure_ (i := 0) (N := some 87) (v := ?_) (a' := ?_) T54481_1 rfl rfl (any_of HT_.out (by kernel_rfl)) idq (.inl ⟨by rfl, ?_⟩) ?_ ?_
                rotate_left; ·intro w'; go_simp; with_reducible rfl
                rotate_left; ·simp only [Act.put, sqA, sqB, sqC, i64_w, i32_w]; rfl
                refine pure_ (i := 1) (N := some 88) (v := ?_) (a' := ?_) T54481_2 rfl rfl (any_of HT_.out (by kernel_rfl)) idq (.inl ⟨by rfl, ?_⟩) ?_ ?_
                rotate_left; ·intro w'; go_simp; with_reducible rfl
                rotate_left; ·simp only [Act.put, sqA, sqB, sqC, i64_w, i32_w]; rfl
                refine pure_ (i := 2) (N := some 89) (v := ?_) (a' := ?_) T54481_3 rfl rfl (any_of HT_.out (by kernel_rfl)) idq (.inl ⟨by rfl, ?_⟩) ?_ ?_
                rotate_left; ·intro w'; go_simp; with_reducible rfl
                rotate_left; ·simp only [Act.put, sqA, sqB, sqC, i64_w, i32_w]; rfl
                refine pure_ (i := 3) (N := some 90) (v := undef) (a' := ?_) T54481_4 rfl rfl (any_of HT_.out (by kernel_rfl)) (fun _ _ _ h => h) (Or.inr ⟨by rfl, rfl⟩) ?_ ?_
                rotate_left; ·simp only [Act.put, sqA, sqB, sqC, i64_w, i32_w]; rfl
                refine pure_ (i := 4) (N := some 91) (v := undef) (a' := ?_) T54481_5 rfl rfl (any_of HT_.out (by kernel_rfl)) (fun _ _ _ h => h) (Or.inr ⟨by rfl, rfl⟩) ?_ ?_
                rotate_left; ·simp only [Act.put, sqA, sqB, sqC, i64_w, i32_w]; rfl
                refine pure_ (i := 5) (N := some 92) (v := undef) (a' := ?_) T54481_6 rfl rfl (any_of HT_.out (by kernel_rfl)) (fun _ _ _ h => h) (Or.inr ⟨by rfl, rfl⟩) ?_ ?_
                rotate_left; ·simp only [Act.put, sqA, sqB, sqC, i64_w, i32_w]; rfl
                refine pure_ (i := 6) (N := some 93) (v := undef) (a' := ?_) T54481_53 rfl rfl (any_of HT_.out (by kernel_rfl)) (fun _ _ _ h => h) (Or.inr ⟨by rfl, rfl⟩) ?_ ?_
                rotate_left; ·simp only [Act.put, sqA, sqB, sqC, i64_w, i32_w]; rfl
                refine pure_ (i := 7) (N := some 94) (v := undef) (a' := ?_) T54481_54 rfl rfl (any_of HT_.out (by kernel_rfl)) (fun _ _ _ h => h) (Or.inr ⟨by rfl, rfl⟩) ?_ ?_
                rotate_left; ·simp only [Act.put, sqA, sqB, sqC, i64_w, i32_w]; rfl
                refine pure_ (i := 8) (N := some 95) (v := undef) (a' := ?_) T54481_55 rfl rfl (any_of HT_.out (by kernel_rfl)) (fun _ _ _ h => h) (Or.inr ⟨by rfl, rfl⟩) ?_ ?_
                rotate_left; ·simp only [Act.put, sqA, sqB, sqC, i64_w, i32_w]; rfl
                refine pure_ (i := 9) (N := some 96) (v := undef) (a' := ?_) T54481_56 rfl rfl (any_of HT_.out (by kernel_rfl)) (fun _ _ _ h => h) (Or.inr ⟨by rfl, rfl⟩) ?_ ?_
                rotate_left; ·simp only [Act.put, sqA, sqB, sqC, i64_w, i32_w]; rfl
                refine pure_ (i := 10) (N := some 97) (v := undef) (a' := ?_) T54481_57 rfl rfl (any_of HT_.out (by kernel_rfl)) (fun _ _ _ h => h) (Or.inr ⟨by rfl, rfl⟩) ?_ ?_
                rotate_left; ·simp only [Act.put, sqA, sqB, sqC, i64_w, i32_w]; rfl
                refine pure_ (i := 11) (N := some 98) (v := undef) (a' := ?_) T54481_12 rfl rfl (any_of HT_.out (by kernel_rfl)) (fun _ _ _ h => h) (Or.inr ⟨by rfl, rfl⟩) ?_ ?_
                rotate_left; ·simp only [Act.put, sqA, sqB, sqC, i64_w, i32_w]; rfl
                refine pure_ (i := 12) (N := some 99) (v := undef) (a' := ?_) T54481_13 rfl rfl (any_of HT_.out (by kernel_rfl)) (fun _ _ _ h => h) (Or.inr ⟨by rfl, rfl⟩) ?_ ?_
                rotate_left; ·simp only [Act.put, sqA, sqB, sqC, i64_w, i32_w]; rfl
                refine pure_ (i := 13) (N := some 100) (v := undef) (a' := ?_) T54481_14 rfl rfl (any_of HT_.out (by kernel_rfl)) (fun _ _ _ h => h) (Or.inr ⟨by rfl, rfl⟩) ?_ ?_
                rotate_left; ·simp only [Act.put, sqA, sqB, sqC, i64_w, i32_w]; rfl
                refine pure_ (i := 14) (N := some 101) (v := undef) (a' := ?_) T54481_15 rfl rfl (any_of HT_.out (by kernel_rfl)) (fun _ _ _ h => h) (Or.inr ⟨by rfl, rfl⟩) ?_ ?_
                rotate_left; ·simp only [Act.put, sqA, sqB, sqC, i64_w, i32_w]; rfl
                refine pure_ (i := 15) (N := some 102) (v := undef) (a' := ?_) T54481_16 rfl rfl (any_of HT_.out (by kernel_rfl)) (fun _ _ _ h => h) (Or.inr ⟨by rfl, rfl⟩) ?_ ?_
                rotate_left; ·simp only [Act.put, sqA, sqB, sqC, i64_w, i32_w]; rfl
                refine pure_ (i := 16) (N := some 103) (v := undef) (a' := ?_) T54481_17 rfl rfl (any_of HT_.out (by kernel_rfl)) (fun _ _ _ h => h) (Or.inr ⟨by rfl, rfl⟩) ?_ ?_
                rotate_left; ·simp only [Act.put, sqA, sqB, sqC, i64_w, i32_w]; rfl
                refine pure_ (i := 17) (N := some 104) (v := ?_) (a' := ?_) T54481_18 rfl rfl (any_of HT_.out (by kernel_rfl)) idq (.inl ⟨by rfl, ?_⟩) ?_ ?_
                rotate_left; ·intro w'; go_simp; with_reducible rfl
                rotate_left; ·simp only [Act.put, sqA, sqB, sqC, i64_w, i32_w]; rfl
                refine pure_ (i := 18) (N := some 105) (v := ?_) (a' := ?_) T54481_19 rfl rfl (any_of HT_.out (by kernel_rfl)) idq (.inl ⟨by rfl, ?_⟩) ?_ ?_
                rotate_left; ·intro w'; go_simp; with_reducible rfl
                rotate_left; ·simp only [Act.put, sqA, sqB, sqC, i64_w, i32_w]; rfl
                refine pure_ (i := 19) (N := some 106) (v := ?_) (a' := ?_) T54481_20 rfl rfl (any_of HT_.out (by kernel_rfl)) idq (.inl ⟨by rfl, ?_⟩) ?_ ?_
                rotate_left; ·intro w'; go_simp; with_reducible rfl
                rotate_left; ·simp only [Act.put, sqA, sqB, sqC, i64_w, i32_w]; rfl
                refine pure_ (i := 20) (N := some 107) (v := ?_) (a' := ?_) T54481_21 rfl rfl (any_of HT_.out (by kernel_rfl)) idq (.inl ⟨by rfl, ?_⟩) ?_ ?_
                rotate_left; ·intro w'; go_simp; with_reducible rfl
                rotate_left; ·simp only [Act.put, sqA, sqB, sqC, i64_w, i32_w]; rfl
                refine pure_ (i := 21) (N := some 108) (v := ?_) (a' := ?_) T54481_22 rfl rfl (any_of HT_.out (by kernel_rfl)) idq (.inl ⟨by rfl, ?_⟩) ?_ ?_
                rotate_left; ·intro w'; go_simp; with_reducible rfl
                rotate_left; ·simp only [Act.put, sqA, sqB, sqC, i64_w, i32_w]; rfl
                refine pure_ (i := 23) (N := some 110) (v := ?_) (a' := ?_) T54481_23 rfl rfl (any_of HT_.out (by kernel_rfl)) idq (.inl ⟨by rfl, ?_⟩) ?_ ?_
                rotate_left; ·intro w'; go_simp; with_reducible rfl
                rotate_left; ·simp only [Act.put, sqA, sqB, sqC, i64_w, i32_w]; rfl
                refine pure_ (i := 24) (N := some 111) (v := ?_) (a' := ?_) T54481_24 rfl rfl (any_of HT_.out (by kernel_rfl)) idq (.inl ⟨by rfl, ?_⟩) ?_ ?_
                rotate_left; ·intro w'; go_simp; with_reducible rfl
                rotate_left; ·simp only [Act.put, sqA, sqB, sqC, i64_w, i32_w]; rfl
                refine take_ (i := 22) (N := some 109) (v := ?_) (a' := ?_) T54481_25 rfl rfl (take_ofW HT_.out HW_.out (by kernel_rfl)) idq (.inl ⟨by rfl, ?_⟩) hHeld ?_ ?_
                rotate_left
                ·rintro w' ⟨s0, s1⟩
                 go_simp
                 with_reducible rfl
                rotate_left; ·simp only [Act.put, sqA, sqB, sqC, i64_w, i32_w]; rfl
                refine one_ (i := 25) (N := some 112) T54481_26 rfl rfl (one_of HT_.out (by kernel_rfl)) (by decide) (fun K hK => ?_)
                refine goes_ Try.func27 (by kernel_rfl) rfl #[.int .i32 (rd t266 x82_2), .int .i32 a2] (by rfl) rfl rfl (by (try simp only [List.map_toArray, List.map_cons, List.map_nil]); first | done | rfl | (simp only [List.length_drop, List.length_take]; rfl)) ?_
                with_reducible refine (tillerref01_Mul.calls k2 (rd t266 x82_2) a2 t298 _ A98.out).mono ?_
                rintro e w' ⟨rfl, ⟨nd, rfl⟩⟩
                refine ⟨_, rfl, ?_⟩
                obtain ⟨Ao116, co116, eo116⟩ := Kd.R_slice HO_10.out
                (first | subst eo116 | (injection eo116 with f1_ f2_ f3_; have f4_ := f1_.symm; have f5_ := f3_.symm; clear f1_ f2_ f3_; subst f4_; subst f5_))
                refine hK.out _ _ ⟨hHeld.1, hHeld.2⟩ (fun hHeld => ?_)
                clear hK K
                refine norm_ (a' := ?_) ?_ ?_
                rotate_left
                ·show Act.put _ (some 112) _ = _
                 simp only [Act.put, sqA, sqB, sqC, i64_w, i32_w]
                 rfl
                refine pure_ (i := 26) (N := some 113) (v := ?_) (a' := ?_) T54481_27 rfl rfl (any_of HT_.out (by kernel_rfl)) idq (.inl ⟨by rfl, ?_⟩) ?_ ?_
                rotate_left; ·intro w'; go_simp; with_reducible rfl
                rotate_left; ·simp only [Act.put, sqA, sqB, sqC, i64_w, i32_w]; rfl
                refine pure_ (i := 27) (N := some 114) (v := ?_) (a' := ?_) T54481_28 rfl rfl (any_of HT_.out (by kernel_rfl)) idq (.inl ⟨by rfl, ?_⟩) ?_ ?_
                rotate_left; ·intro w'; go_simp; with_reducible rfl
                rotate_left; ·simp only [Act.put, sqA, sqB, sqC, i64_w, i32_w]; rfl
                refine pure_ (i := 28) (N := some 115) (v := ?_) (a' := ?_) T54481_29 rfl rfl (any_of HT_.out (by kernel_rfl)) idq (.inl ⟨by rfl, ?_⟩) ?_ ?_
                rotate_left; ·intro w'; go_simp; with_reducible rfl
                rotate_left; ·simp only [Act.put, sqA, sqB, sqC, i64_w, i32_w]; rfl
                refine pure_ (i := 29) (N := some 116) (v := ?_) (a' := ?_) T54481_30 rfl rfl (any_of HT_.out (by kernel_rfl)) idq (.inl ⟨by rfl, ?_⟩) ?_ ?_
                rotate_left; ·intro w'; go_simp; with_reducible rfl
                rotate_left; ·simp only [Act.put, sqA, sqB, sqC, i64_w, i32_w]; rfl
                refine pure_ (i := 30) (N := some 117) (v := ?_) (a' := ?_) T54481_31 rfl rfl (any_of HT_.out (by kernel_rfl)) idq (.inl ⟨by rfl, ?_⟩) ?_ ?_
                rotate_left; ·intro w'; go_simp; with_reducible rfl
                rotate_left; ·simp only [Act.put, sqA, sqB, sqC, i64_w, i32_w]; rfl
                refine pure_ (i := 31) (N := some 118) (v := ?_) (a' := ?_) T54481_32 rfl rfl (any_of HT_.out (by kernel_rfl)) idq (.inl ⟨by rfl, ?_⟩) ?_ ?_
                rotate_left; ·intro w'; go_simp; with_reducible rfl
                rotate_left; ·simp only [Act.put, sqA, sqB, sqC, i64_w, i32_w]; rfl
                refine pure_ (i := 32) (N := some 119) (v := undef) (a' := ?_) T54481_33 rfl rfl (any_of HT_.out (by kernel_rfl)) (fun _ _ _ h => h) (Or.inr ⟨by rfl, rfl⟩) ?_ ?_
                rotate_left; ·simp only [Act.put, sqA, sqB, sqC, i64_w, i32_w]; rfl
                refine pure_ (i := 33) (N := some 120) (v := undef) (a' := ?_) T54481_34 rfl rfl (any_of HT_.out (by kernel_rfl)) (fun _ _ _ h => h) (Or.inr ⟨by rfl, rfl⟩) ?_ ?_
                rotate_left; ·simp only [Act.put, sqA, sqB, sqC, i64_w, i32_w]; rfl
                refine pure_ (i := 34) (N := some 121) (v := undef) (a' := ?_) T54481_35 rfl rfl (any_of HT_.out (by kernel_rfl)) (fun _ _ _ h => h) (Or.inr ⟨by rfl, rfl⟩) ?_ ?_
                rotate_left; ·simp only [Act.put, sqA, sqB, sqC, i64_w, i32_w]; rfl
                refine pure_ (i := 35) (N := some 122) (v := undef) (a' := ?_) T54481_52 rfl rfl (any_of HT_.out (by kernel_rfl)) (fun _ _ _ h => h) (Or.inr ⟨by rfl, rfl⟩) ?_ ?_
                rotate_left; ·simp only [Act.put, sqA, sqB, sqC, i64_w, i32_w]; rfl
                refine pure_ (i := 36) (N := some 123) (v := undef) (a' := ?_) T54481_37 rfl rfl (any_of HT_.out (by kernel_rfl)) (fun _ _ _ h => h) (Or.inr ⟨by rfl, rfl⟩) ?_ ?_
                rotate_left; ·simp only [Act.put, sqA, sqB, sqC, i64_w, i32_w]; rfl
                refine pure_ (i := 37) (N := some 124) (v := undef) (a' := ?_) T54481_38 rfl rfl (any_of HT_.out (by kernel_rfl)) (fun _ _ _ h => h) (Or.inr ⟨by rfl, rfl⟩) ?_ ?_
                rotate_left; ·simp only [Act.put, sqA, sqB, sqC, i64_w, i32_w]; rfl
                refine pure_ (i := 38) (N := some 125) (v := ?_) (a' := ?_) T54481_39 rfl rfl (any_of HT_.out (by kernel_rfl)) idq (.inl ⟨by rfl, ?_⟩) ?_ ?_
                rotate_left; ·intro w'; go_simp; with_reducible rfl
                rotate_left; ·simp only [Act.put, sqA, sqB, sqC, i64_w, i32_w]; rfl
                refine pure_ (i := 39) (N := some 126) (v := ?_) (a' := ?_) T54481_40 rfl rfl (any_of HT_.out (by kernel_rfl)) idq (.inl ⟨by rfl, ?_⟩) ?_ ?_
                rotate_left; ·intro w'; go_simp; with_reducible rfl
                rotate_left; ·simp only [Act.put, sqA, sqB, sqC, i64_w, i32_w]; rfl
                refine pure_ (i := 40) (N := some 127) (v := ?_) (a' := ?_) T54481_41 rfl rfl (any_of HT_.out (by kernel_rfl)) idq (.inl ⟨by rfl, ?_⟩) ?_ ?_
                rotate_left; ·intro w'; go_simp; with_reducible rfl
                rotate_left; ·simp only [Act.put, sqA, sqB, sqC, i64_w, i32_w]; rfl
                refine pure_ (i := 41) (N := some 128) (v := ?_) (a' := ?_) T54481_42 rfl rfl (any_of HT_.out (by kernel_rfl)) idq (.inl ⟨by rfl, ?_⟩) ?_ ?_
                rotate_left; ·intro w'; go_simp; with_reducible rfl
                rotate_left; ·simp only [Act.put, sqA, sqB, sqC, i64_w, i32_w]; rfl
                refine pure_ (i := 42) (N := some 129) (v := ?_) (a' := ?_) T54481_43 rfl rfl (any_of HT_.out (by kernel_rfl)) idq (.inl ⟨by rfl, ?_⟩) ?_ ?_
                rotate_left; ·intro w'; go_simp; with_reducible rfl
                rotate_left; ·simp only [Act.put, sqA, sqB, sqC, i64_w, i32_w]; rfl
                refine pure_ (i := 43) (N := some 130) (v := ?_) (a' := ?_) T54481_44 rfl rfl (any_of HT_.out (by kernel_rfl)) idq (.inl ⟨by rfl, ?_⟩) ?_ ?_
                rotate_left; ·intro w'; go_simp; with_reducible rfl
                rotate_left; ·simp only [Act.put, sqA, sqB, sqC, i64_w, i32_w]; rfl
                refine pure_ (i := 44) (N := some 131) (v := ?_) (a' := ?_) T54481_45 rfl rfl (any_of HT_.out (by kernel_rfl)) idq (.inl ⟨by rfl, ?_⟩) ?_ ?_
                rotate_left; ·intro w'; go_simp; with_reducible rfl
                rotate_left; ·simp only [Act.put, sqA, sqB, sqC, i64_w, i32_w]; rfl
                refine pure_ (i := 45) (N := some 132) (v := ?_) (a' := ?_) T54481_46 rfl rfl (any_of HT_.out (by kernel_rfl)) idq (.inl ⟨by rfl, ?_⟩) ?_ ?_
                rotate_left; ·intro w'; go_simp; with_reducible rfl
                rotate_left; ·simp only [Act.put, sqA, sqB, sqC, i64_w, i32_w]; rfl
                refine pure_ (i := 46) (N := some 133) (v := ?_) (a' := ?_) T54481_47 rfl rfl (any_of HT_.out (by kernel_rfl)) idq (.inl ⟨by rfl, ?_⟩) ?_ ?_
                rotate_left; ·intro w'; go_simp; with_reducible rfl
                rotate_left; ·simp only [Act.put, sqA, sqB, sqC, i64_w, i32_w]; rfl
                refine take_ (i := 47) (N := some 134) (v := ?_) (a' := ?_) T54481_48 rfl rfl (take_ofW HT_.out HW_.out (by kernel_rfl)) idq (.inl ⟨by rfl, ?_⟩) hHeld ?_ ?_
                rotate_left
                ·rintro w' ⟨s0, s1⟩
                 go_simp
                 with_reducible rfl
                rotate_left; ·simp only [Act.put, sqA, sqB, sqC, i64_w, i32_w]; rfl
                refine pure_ (i := 48) (N := some 135) (v := ?_) (a' := ?_) T54481_49 rfl rfl (any_of HT_.out (by kernel_rfl)) idq (.inl ⟨by rfl, ?_⟩) ?_ ?_
                rotate_left; ·intro w'; go_simp; with_reducible rfl
                rotate_left; ·simp only [Act.put, sqA, sqB, sqC, i64_w, i32_w]; rfl
                refine pure_ (i := 49) (N := some 136) (v := ?_) (a' := ?_) T54481_50 rfl rfl (any_of HT_.out (by kernel_rfl)) idq (.inl ⟨by rfl, ?_⟩) ?_ ?_
                rotate_left; ·intro w'; go_simp; with_reducible rfl
                rotate_left; ·simp only [Act.put, sqA, sqB, sqC, i64_w, i32_w]; rfl
                refine pure_ (i := 50) (N := some 137) (v := ?_) (a' := ?_) T54481_51 rfl rfl (any_of HT_.out (by kernel_rfl)) idq (.inl ⟨by rfl, ?_⟩) ?_ ?_
                rotate_left; ·intro w'; go_simp; with_reducible rfl
                rotate_left; ·simp only [Act.put, sqA, sqB, sqC, i64_w, i32_w]; rfl
                refine done_ (done_of HT_.out (by kernel_rfl)) ?_
                try go_wp2
                go_roundg k2
                case measure => have := HJ9.out; have := HK2.out; omega
                case rel => exact ⟨(wrap64 (x82_2 + 1)), (by first | rfl | (simp; done) | (simp [*]; done)), H', ⟨by have := HJ9.out; have := HK2.out; omega⟩, ⟨by (with_reducible repeat (first | apply Kd.R_alloc | apply Kd.R_drewN | apply Kd.R_drew)); exact HO_1.out⟩, ⟨by (with_reducible repeat (first | apply Kd.R_alloc | apply Kd.R_drewN | apply Kd.R_drew)); exact HO_7.out⟩, ⟨by (with_reducible repeat (first | apply Kd.R_alloc | apply Kd.R_drewN | apply Kd.R_drew)); exact HO_9.out⟩, ⟨by (with_reducible repeat (first | apply Kd.R_alloc | apply Kd.R_drewN | apply Kd.R_drew)); exact HO_10.out⟩, ⟨by (with_reducible repeat (first | apply Kd.R_alloc | apply Kd.R_drewN | apply Kd.R_drew)); exact HO_80.out⟩, ⟨by repeat (first | (with_reducible first | exact HB.out | apply below_alloc | apply pw_below_drewN | apply below_drew1) | exact HB.out)⟩⟩
               ·rw [if_neg c113] at H
                exact absurd (Option.some.inj H) (by rw [hr_.out]; decide)
              ·rw [if_neg c112] at H
               exact absurd H (by simp)
             ·rw [if_neg c111] at H
              have c111b0 : decide ((rd t266 x82_2) < 0) = false := decide_eq_false c111
              clear c111
              have H' := Aside0.mk H
              clear H
              have p288 : 0 ≤ (x82_2 : Int) := ofd_
              have q288 : x82_2 < (t266.length : Int) := ofd_
              (first | obtain ⟨ad288, e288, hx288_0⟩ := Kd.at_int (Kd.R_reads' HO_80.out).2.2 x82_2 p288 q288 | (obtain ⟨Az_, cz_, ez_⟩ := Kd.R_slice HO_80.out; subst ez_; obtain ⟨ad288, e288, hx288_0⟩ := Kd.at_int (Kd.R_reads' HO_80.out).2.2 x82_2 p288 q288))
              cases e288
              replace p288 := eq_true p288
              replace q288 := eq_true q288
              try go_wp2
              have n0_ := Aside0.mk (Kd.R_drew HO_1.out)
              have n1_ := Aside0.mk (Kd.R_drew HO_7.out)
              have n2_ := Aside0.mk (Kd.R_drew HO_9.out)
              have n3_ := Aside0.mk (Kd.R_drew HO_10.out)
              have n4_ := Aside0.mk (Kd.R_drew HO_80.out)
              have n5_ := Aside0.mk (below_drew1 HB.out)
              clear HO_1
              clear HO_7
              clear HO_9
              clear HO_10
              clear HO_80
              clear HB
              have HO_1 := n0_
              have HO_7 := n1_
              have HO_9 := n2_
              have HO_10 := n3_
              have HO_80 := n4_
              have HB := n5_
              clear n0_ n1_ n2_ n3_ n4_ n5_
              obtain ⟨Ao118, co118, eo118⟩ := Kd.R_slice HO_9.out
              (first | subst eo118 | (injection eo118 with f1_ f2_ f3_; have f4_ := f1_.symm; have f5_ := f3_.symm; clear f1_ f2_ f3_; subst f4_; subst f5_))
              have p297 : 0 ≤ (x82_2 : Int) := ofd_
              have q297 : x82_2 < (t276.length : Int) := ofd_
              (first | obtain ⟨ad297, e297, hx297_0⟩ := Kd.at_int (Kd.R_reads' HO_9.out).2.2 x82_2 p297 q297 | (obtain ⟨Az_, cz_, ez_⟩ := Kd.R_slice HO_9.out; subst ez_; obtain ⟨ad297, e297, hx297_0⟩ := Kd.at_int (Kd.R_reads' HO_9.out).2.2 x82_2 p297 q297))
              cases e297
              replace p297 := eq_true p297
              replace q297 := eq_true q297
              refine start_ (n := 51) (S := fun w' => w'.cell? (ad297.add (x82_2).toNat) = some (.int .i32 (rd t276 x82_2))) (ds := []) T54481_0 (by kernel_rfl) rfl rfl (hx297_0) (fun hHeld => ?_); refine with_tabW tillerlaw03_VecPlaces.tab10 tillerlaw03_VecPlaces.bits10 (fun HT_ HW_ => ?_)
              generalize wr.drew = w117 at HO_1 HO_7 HO_9 HO_10 HO_80 HB hx297_0 hHeld ⊢
              refine pure_ (i := 0) (N := some 87) (v := ?_) (a' := ?_) T54481_1 rfl rfl (any_of HT_.out (by kernel_rfl)) idq (.inl ⟨by rfl, ?_⟩) ?_ ?_
              rotate_left; ·intro w'; go_simp; with_reducible rfl
              rotate_left; ·simp only [Act.put, sqA, sqB, sqC, i64_w, i32_w]; rfl
              refine pure_ (i := 1) (N := some 88) (v := ?_) (a' := ?_) T54481_2 rfl rfl (any_of HT_.out (by kernel_rfl)) idq (.inl ⟨by rfl, ?_⟩) ?_ ?_
              rotate_left; ·intro w'; go_simp; with_reducible rfl
              rotate_left; ·simp only [Act.put, sqA, sqB, sqC, i64_w, i32_w]; rfl
              refine pure_ (i := 2) (N := some 89) (v := ?_) (a' := ?_) T54481_3 rfl rfl (any_of HT_.out (by kernel_rfl)) idq (.inl ⟨by rfl, ?_⟩) ?_ ?_
              rotate_left; ·intro w'; go_simp; with_reducible rfl
              rotate_left; ·simp only [Act.put, sqA, sqB, sqC, i64_w, i32_w]; rfl
              refine pure_ (i := 3) (N := some 90) (v := undef) (a' := ?_) T54481_4 rfl rfl (any_of HT_.out (by kernel_rfl)) (fun _ _ _ h => h) (Or.inr ⟨by rfl, rfl⟩) ?_ ?_
              rotate_left; ·simp only [Act.put, sqA, sqB, sqC, i64_w, i32_w]; rfl
              refine pure_ (i := 4) (N := some 91) (v := undef) (a' := ?_) T54481_5 rfl rfl (any_of HT_.out (by kernel_rfl)) (fun _ _ _ h => h) (Or.inr ⟨by rfl, rfl⟩) ?_ ?_
              rotate_left; ·simp only [Act.put, sqA, sqB, sqC, i64_w, i32_w]; rfl
              refine pure_ (i := 5) (N := some 92) (v := undef) (a' := ?_) T54481_6 rfl rfl (any_of HT_.out (by kernel_rfl)) (fun _ _ _ h => h) (Or.inr ⟨by rfl, rfl⟩) ?_ ?_
              rotate_left; ·simp only [Act.put, sqA, sqB, sqC, i64_w, i32_w]; rfl
              refine pure_ (i := 6) (N := some 93) (v := undef) (a' := ?_) T54481_53 rfl rfl (any_of HT_.out (by kernel_rfl)) (fun _ _ _ h => h) (Or.inr ⟨by rfl, rfl⟩) ?_ ?_
              rotate_left; ·simp only [Act.put, sqA, sqB, sqC, i64_w, i32_w]; rfl
              refine pure_ (i := 7) (N := some 94) (v := undef) (a' := ?_) T54481_54 rfl rfl (any_of HT_.out (by kernel_rfl)) (fun _ _ _ h => h) (Or.inr ⟨by rfl, rfl⟩) ?_ ?_
              rotate_left; ·simp only [Act.put, sqA, sqB, sqC, i64_w, i32_w]; rfl
              refine pure_ (i := 8) (N := some 95) (v := undef) (a' := ?_) T54481_55 rfl rfl (any_of HT_.out (by kernel_rfl)) (fun _ _ _ h => h) (Or.inr ⟨by rfl, rfl⟩) ?_ ?_
              rotate_left; ·simp only [Act.put, sqA, sqB, sqC, i64_w, i32_w]; rfl
              refine pure_ (i := 9) (N := some 96) (v := undef) (a' := ?_) T54481_56 rfl rfl (any_of HT_.out (by kernel_rfl)) (fun _ _ _ h => h) (Or.inr ⟨by rfl, rfl⟩) ?_ ?_
              rotate_left; ·simp only [Act.put, sqA, sqB, sqC, i64_w, i32_w]; rfl
              refine pure_ (i := 10) (N := some 97) (v := undef) (a' := ?_) T54481_57 rfl rfl (any_of HT_.out (by kernel_rfl)) (fun _ _ _ h => h) (Or.inr ⟨by rfl, rfl⟩) ?_ ?_
              rotate_left; ·simp only [Act.put, sqA, sqB, sqC, i64_w, i32_w]; rfl
              refine pure_ (i := 11) (N := some 98) (v := undef) (a' := ?_) T54481_12 rfl rfl (any_of HT_.out (by kernel_rfl)) (fun _ _ _ h => h) (Or.inr ⟨by rfl, rfl⟩) ?_ ?_
              rotate_left; ·simp only [Act.put, sqA, sqB, sqC, i64_w, i32_w]; rfl
              refine pure_ (i := 12) (N := some 99) (v := undef) (a' := ?_) T54481_13 rfl rfl (any_of HT_.out (by kernel_rfl)) (fun _ _ _ h => h) (Or.inr ⟨by rfl, rfl⟩) ?_ ?_
              rotate_left; ·simp only [Act.put, sqA, sqB, sqC, i64_w, i32_w]; rfl
              refine pure_ (i := 13) (N := some 100) (v := undef) (a' := ?_) T54481_14 rfl rfl (any_of HT_.out (by kernel_rfl)) (fun _ _ _ h => h) (Or.inr ⟨by rfl, rfl⟩) ?_ ?_
              rotate_left; ·simp only [Act.put, sqA, sqB, sqC, i64_w, i32_w]; rfl
              refine pure_ (i := 14) (N := some 101) (v := undef) (a' := ?_) T54481_15 rfl rfl (any_of HT_.out (by kernel_rfl)) (fun _ _ _ h => h) (Or.inr ⟨by rfl, rfl⟩) ?_ ?_
              rotate_left; ·simp only [Act.put, sqA, sqB, sqC, i64_w, i32_w]; rfl
              refine pure_ (i := 15) (N := some 102) (v := undef) (a' := ?_) T54481_16 rfl rfl (any_of HT_.out (by kernel_rfl)) (fun _ _ _ h => h) (Or.inr ⟨by rfl, rfl⟩) ?_ ?_
              rotate_left; ·simp only [Act.put, sqA, sqB, sqC, i64_w, i32_w]; rfl
              refine pure_ (i := 16) (N := some 103) (v := undef) (a' := ?_) T54481_17 rfl rfl (any_of HT_.out (by kernel_rfl)) (fun _ _ _ h => h) (Or.inr ⟨by rfl, rfl⟩) ?_ ?_
              rotate_left; ·simp only [Act.put, sqA, sqB, sqC, i64_w, i32_w]; rfl
              refine pure_ (i := 17) (N := some 104) (v := ?_) (a' := ?_) T54481_18 rfl rfl (any_of HT_.out (by kernel_rfl)) idq (.inl ⟨by rfl, ?_⟩) ?_ ?_
              rotate_left; ·intro w'; go_simp; with_reducible rfl
              rotate_left; ·simp only [Act.put, sqA, sqB, sqC, i64_w, i32_w]; rfl
              refine pure_ (i := 18) (N := some 105) (v := ?_) (a' := ?_) T54481_19 rfl rfl (any_of HT_.out (by kernel_rfl)) idq (.inl ⟨by rfl, ?_⟩) ?_ ?_
              rotate_left; ·intro w'; go_simp; with_reducible rfl
              rotate_left; ·simp only [Act.put, sqA, sqB, sqC, i64_w, i32_w]; rfl
              refine pure_ (i := 19) (N := some 106) (v := ?_) (a' := ?_) T54481_20 rfl rfl (any_of HT_.out (by kernel_rfl)) idq (.inl ⟨by rfl, ?_⟩) ?_ ?_
              rotate_left; ·intro w'; go_simp; with_reducible rfl
              rotate_left; ·simp only [Act.put, sqA, sqB, sqC, i64_w, i32_w]; rfl
              refine pure_ (i := 20) (N := some 107) (v := ?_) (a' := ?_) T54481_21 rfl rfl (any_of HT_.out (by kernel_rfl)) idq (.inl ⟨by rfl, ?_⟩) ?_ ?_
              rotate_left; ·intro w'; go_simp; with_reducible rfl
              rotate_left; ·simp only [Act.put, sqA, sqB, sqC, i64_w, i32_w]; rfl
              refine pure_ (i := 21) (N := some 108) (v := ?_) (a' := ?_) T54481_22 rfl rfl (any_of HT_.out (by kernel_rfl)) idq (.inl ⟨by rfl, ?_⟩) ?_ ?_
              rotate_left; ·intro w'; go_simp; with_reducible rfl
              rotate_left; ·simp only [Act.put, sqA, sqB, sqC, i64_w, i32_w]; rfl
              refine pure_ (i := 23) (N := some 110) (v := ?_) (a' := ?_) T54481_23 rfl rfl (any_of HT_.out (by kernel_rfl)) idq (.inl ⟨by rfl, ?_⟩) ?_ ?_
              rotate_left; ·intro w'; go_simp; with_reducible rfl
              rotate_left; ·simp only [Act.put, sqA, sqB, sqC, i64_w, i32_w]; rfl
              refine pure_ (i := 24) (N := some 111) (v := ?_) (a' := ?_) T54481_24 rfl rfl (any_of HT_.out (by kernel_rfl)) idq (.inl ⟨by rfl, ?_⟩) ?_ ?_
              rotate_left; ·intro w'; go_simp; with_reducible rfl
              rotate_left; ·simp only [Act.put, sqA, sqB, sqC, i64_w, i32_w]; rfl
              refine take_ (i := 22) (N := some 109) (v := ?_) (a' := ?_) T54481_25 rfl rfl (take_ofW HT_.out HW_.out (by kernel_rfl)) idq (.inl ⟨by rfl, ?_⟩) hHeld ?_ ?_
              rotate_left
              ·intro w' s0
               go_simp
               with_reducible rfl
              rotate_left; ·simp only [Act.put, sqA, sqB, sqC, i64_w, i32_w]; rfl
              refine one_ (i := 25) (N := some 112) T54481_26 rfl rfl (one_of HT_.out (by kernel_rfl)) (by decide) (fun K hK => ?_)
              refine goes_ Try.func27 (by kernel_rfl) rfl #[.int .i32 (rd t266 x82_2), .int .i32 a2] (by rfl) rfl rfl (by (try simp only [List.map_toArray, List.map_cons, List.map_nil]); first | done | rfl | (simp only [List.length_drop, List.length_take]; rfl)) ?_
              with_reducible refine (tillerref01_Mul.calls k2 (rd t266 x82_2) a2 t298 _ A98.out).mono ?_
              rintro e w' ⟨rfl, ⟨nd, rfl⟩⟩
              refine ⟨_, rfl, ?_⟩
              refine hK.out _ _ (hHeld) (fun hHeld => ?_)
              clear hK K
              refine norm_ (a' := ?_) ?_ ?_
              rotate_left
              ·show Act.put _ (some 112) _ = _
               simp only [Act.put, sqA, sqB, sqC, i64_w, i32_w]
               rfl
              refine pure_ (i := 26) (N := some 113) (v := ?_) (a' := ?_) T54481_27 rfl rfl (any_of HT_.out (by kernel_rfl)) idq (.inl ⟨by rfl, ?_⟩) ?_ ?_
              rotate_left; ·intro w'; go_simp; with_reducible rfl
              rotate_left; ·simp only [Act.put, sqA, sqB, sqC, i64_w, i32_w]; rfl
              refine pure_ (i := 27) (N := some 114) (v := ?_) (a' := ?_) T54481_28 rfl rfl (any_of HT_.out (by kernel_rfl)) idq (.inl ⟨by rfl, ?_⟩) ?_ ?_
              rotate_left; ·intro w'; go_simp; with_reducible rfl
              rotate_left; ·simp only [Act.put, sqA, sqB, sqC, i64_w, i32_w]; rfl
              refine pure_ (i := 28) (N := some 115) (v := ?_) (a' := ?_) T54481_29 rfl rfl (any_of HT_.out (by kernel_rfl)) idq (.inl ⟨by rfl, ?_⟩) ?_ ?_
              rotate_left; ·intro w'; go_simp; with_reducible rfl
              rotate_left; ·simp only [Act.put, sqA, sqB, sqC, i64_w, i32_w]; rfl
              refine pure_ (i := 29) (N := some 116) (v := ?_) (a' := ?_) T54481_30 rfl rfl (any_of HT_.out (by kernel_rfl)) idq (.inl ⟨by rfl, ?_⟩) ?_ ?_
              rotate_left; ·intro w'; go_simp; with_reducible rfl
              rotate_left; ·simp only [Act.put, sqA, sqB, sqC, i64_w, i32_w]; rfl
              refine pure_ (i := 30) (N := some 117) (v := ?_) (a' := ?_) T54481_31 rfl rfl (any_of HT_.out (by kernel_rfl)) idq (.inl ⟨by rfl, ?_⟩) ?_ ?_
              rotate_left; ·intro w'; go_simp; with_reducible rfl
              rotate_left; ·simp only [Act.put, sqA, sqB, sqC, i64_w, i32_w]; rfl
              refine pure_ (i := 31) (N := some 118) (v := ?_) (a' := ?_) T54481_32 rfl rfl (any_of HT_.out (by kernel_rfl)) idq (.inl ⟨by rfl, ?_⟩) ?_ ?_
              rotate_left; ·intro w'; go_simp; with_reducible rfl
              rotate_left; ·simp only [Act.put, sqA, sqB, sqC, i64_w, i32_w]; rfl
              refine pure_ (i := 32) (N := some 119) (v := undef) (a' := ?_) T54481_33 rfl rfl (any_of HT_.out (by kernel_rfl)) (fun _ _ _ h => h) (Or.inr ⟨by rfl, rfl⟩) ?_ ?_
              rotate_left; ·simp only [Act.put, sqA, sqB, sqC, i64_w, i32_w]; rfl
              refine pure_ (i := 33) (N := some 120) (v := undef) (a' := ?_) T54481_34 rfl rfl (any_of HT_.out (by kernel_rfl)) (fun _ _ _ h => h) (Or.inr ⟨by rfl, rfl⟩) ?_ ?_
              rotate_left; ·simp only [Act.put, sqA, sqB, sqC, i64_w, i32_w]; rfl
              refine pure_ (i := 34) (N := some 121) (v := undef) (a' := ?_) T54481_35 rfl rfl (any_of HT_.out (by kernel_rfl)) (fun _ _ _ h => h) (Or.inr ⟨by rfl, rfl⟩) ?_ ?_
              rotate_left; ·simp only [Act.put, sqA, sqB, sqC, i64_w, i32_w]; rfl
              refine pure_ (i := 35) (N := some 122) (v := undef) (a' := ?_) T54481_52 rfl rfl (any_of HT_.out (by kernel_rfl)) (fun _ _ _ h => h) (Or.inr ⟨by rfl, rfl⟩) ?_ ?_
              rotate_left; ·simp only [Act.put, sqA, sqB, sqC, i64_w, i32_w]; rfl
              refine pure_ (i := 36) (N := some 123) (v := undef) (a' := ?_) T54481_37 rfl rfl (any_of HT_.out (by kernel_rfl)) (fun _ _ _ h => h) (Or.inr ⟨by rfl, rfl⟩) ?_ ?_
              rotate_left; ·simp only [Act.put, sqA, sqB, sqC, i64_w, i32_w]; rfl
              refine pure_ (i := 37) (N := some 124) (v := undef) (a' := ?_) T54481_38 rfl rfl (any_of HT_.out (by kernel_rfl)) (fun _ _ _ h => h) (Or.inr ⟨by rfl, rfl⟩) ?_ ?_
              rotate_left; ·simp only [Act.put, sqA, sqB, sqC, i64_w, i32_w]; rfl
              refine pure_ (i := 38) (N := some 125) (v := ?_) (a' := ?_) T54481_39 rfl rfl (any_of HT_.out (by kernel_rfl)) idq (.inl ⟨by rfl, ?_⟩) ?_ ?_
              rotate_left; ·intro w'; go_simp; with_reducible rfl
              rotate_left; ·simp only [Act.put, sqA, sqB, sqC, i64_w, i32_w]; rfl
              refine pure_ (i := 39) (N := some 126) (v := ?_) (a' := ?_) T54481_40 rfl rfl (any_of HT_.out (by kernel_rfl)) idq (.inl ⟨by rfl, ?_⟩) ?_ ?_
              rotate_left; ·intro w'; go_simp; with_reducible rfl
              rotate_left; ·simp only [Act.put, sqA, sqB, sqC, i64_w, i32_w]; rfl
              refine pure_ (i := 40) (N := some 127) (v := ?_) (a' := ?_) T54481_41 rfl rfl (any_of HT_.out (by kernel_rfl)) idq (.inl ⟨by rfl, ?_⟩) ?_ ?_
              rotate_left; ·intro w'; go_simp; with_reducible rfl
              rotate_left; ·simp only [Act.put, sqA, sqB, sqC, i64_w, i32_w]; rfl
              refine pure_ (i := 41) (N := some 128) (v := ?_) (a' := ?_) T54481_42 rfl rfl (any_of HT_.out (by kernel_rfl)) idq (.inl ⟨by rfl, ?_⟩) ?_ ?_
              rotate_left; ·intro w'; go_simp; with_reducible rfl
              rotate_left; ·simp only [Act.put, sqA, sqB, sqC, i64_w, i32_w]; rfl
              refine pure_ (i := 42) (N := some 129) (v := ?_) (a' := ?_) T54481_43 rfl rfl (any_of HT_.out (by kernel_rfl)) idq (.inl ⟨by rfl, ?_⟩) ?_ ?_
              rotate_left; ·intro w'; go_simp; with_reducible rfl
              rotate_left; ·simp only [Act.put, sqA, sqB, sqC, i64_w, i32_w]; rfl
              refine pure_ (i := 43) (N := some 130) (v := ?_) (a' := ?_) T54481_44 rfl rfl (any_of HT_.out (by kernel_rfl)) idq (.inl ⟨by rfl, ?_⟩) ?_ ?_
              rotate_left; ·intro w'; go_simp; with_reducible rfl
              rotate_left; ·simp only [Act.put, sqA, sqB, sqC, i64_w, i32_w]; rfl
              refine pure_ (i := 44) (N := some 131) (v := undef) (a' := ?_) T54481_45 rfl rfl (any_of HT_.out (by kernel_rfl)) (fun _ _ _ h => h) (Or.inr ⟨by rfl, rfl⟩) ?_ ?_
              rotate_left; ·simp only [Act.put, sqA, sqB, sqC, i64_w, i32_w]; rfl
              refine pure_ (i := 45) (N := some 132) (v := undef) (a' := ?_) T54481_46 rfl rfl (any_of HT_.out (by kernel_rfl)) (fun _ _ _ h => h) (Or.inr ⟨by rfl, rfl⟩) ?_ ?_
              rotate_left; ·simp only [Act.put, sqA, sqB, sqC, i64_w, i32_w]; rfl
              refine pure_ (i := 46) (N := some 133) (v := undef) (a' := ?_) T54481_47 rfl rfl (any_of HT_.out (by kernel_rfl)) (fun _ _ _ h => h) (Or.inr ⟨by rfl, rfl⟩) ?_ ?_
              rotate_left; ·simp only [Act.put, sqA, sqB, sqC, i64_w, i32_w]; rfl
              refine pure_ (i := 47) (N := some 134) (v := undef) (a' := ?_) T54481_48 rfl rfl (any_of HT_.out (by kernel_rfl)) (fun _ _ _ h => h) (Or.inr ⟨by rfl, rfl⟩) ?_ ?_
              rotate_left; ·simp only [Act.put, sqA, sqB, sqC, i64_w, i32_w]; rfl
              refine pure_ (i := 48) (N := some 135) (v := undef) (a' := ?_) T54481_49 rfl rfl (any_of HT_.out (by kernel_rfl)) (fun _ _ _ h => h) (Or.inr ⟨by rfl, rfl⟩) ?_ ?_
              rotate_left; ·simp only [Act.put, sqA, sqB, sqC, i64_w, i32_w]; rfl
              refine pure_ (i := 49) (N := some 136) (v := ?_) (a' := ?_) T54481_50 rfl rfl (any_of HT_.out (by kernel_rfl)) idq (.inl ⟨by rfl, ?_⟩) ?_ ?_
              rotate_left; ·intro w'; go_simp; with_reducible rfl
              rotate_left; ·simp only [Act.put, sqA, sqB, sqC, i64_w, i32_w]; rfl
              refine pure_ (i := 50) (N := some 137) (v := ?_) (a' := ?_) T54481_51 rfl rfl (any_of HT_.out (by kernel_rfl)) idq (.inl ⟨by rfl, ?_⟩) ?_ ?_
              rotate_left; ·intro w'; go_simp; with_reducible rfl
              rotate_left; ·simp only [Act.put, sqA, sqB, sqC, i64_w, i32_w]; rfl
              refine done_ (done_of HT_.out (by kernel_rfl)) ?_
              try go_wp2
              go_roundg k2
              case measure => have := HJ9.out; have := HK2.out; omega
              case rel => exact ⟨(wrap64 (x82_2 + 1)), (by first | rfl | (simp; done) | (simp [*]; done)), H', ⟨by have := HJ9.out; have := HK2.out; omega⟩, ⟨by (with_reducible repeat (first | apply Kd.R_alloc | apply Kd.R_drewN | apply Kd.R_drew)); exact HO_1.out⟩, ⟨by (with_reducible repeat (first | apply Kd.R_alloc | apply Kd.R_drewN | apply Kd.R_drew)); exact HO_7.out⟩, ⟨by (with_reducible repeat (first | apply Kd.R_alloc | apply Kd.R_drewN | apply Kd.R_drew)); exact HO_9.out⟩, ⟨by (with_reducible repeat (first | apply Kd.R_alloc | apply Kd.R_drewN | apply Kd.R_drew)); exact HO_10.out⟩, ⟨by (with_reducible repeat (first | apply Kd.R_alloc | apply Kd.R_drewN | apply Kd.R_drew)); exact HO_80.out⟩, ⟨by repeat (first | (with_reducible first | exact HB.out | apply below_alloc | apply pw_below_drewN | apply below_drew1) | exact HB.out)⟩⟩
           ·rw [if_neg c99] at H
            have c99b0 : ((rd t276 x82_2) == t298) = false := beq_eq_false_iff_ne.mpr c99
            have c99b1 : ((rd t276 x82_2) != t298) = true := bne_iff_ne.mpr c99
            exact absurd (Option.some.inj H) (by rw [hr_.out]; decide)
          ·rw [if_neg c97] at H
           exact absurd H (by simp)
        ·rw [if_neg c65] at H
         exact absurd H (by simp)
       ·rw [if_neg c64] at H
        exact absurd H (by simp)
      ·rw [if_neg c63] at H
       have c63b0 : decide (x82_2 < (t266.length : Int)) = false := decide_eq_false c63
       clear c63
       obtain rfl := Option.some.inj H
       go_wp2
       go_ret
       exact ⟨by first | rfl | (simp [errW_none, errW_some] <;> rfl) | (simp [*, errW_none, errW_some] <;> rfl), by repeat (first | (with_reducible first | exact HB.out | apply below_alloc | apply pw_below_drewN | apply below_drew1) | exact HB.out)⟩

end Go.Proofs.Ytefimleoffaggaa.GQ
