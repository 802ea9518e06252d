-- written by this session's program gprint.py
import Derived.Test.YtnhapgenebcjmaaGQx0
import Derived.Test.YtnhapgenebcjmaaGQx1
import Derived.Test.YtnhapgenebcjmaaGQx4
import Derived.Test.YtnhapgenebcjmaaWLast
import Derived.Test.YtnhapgenebcjmaaWMore
import Derived.Test.YtnhapgenebcjmaaWWords
namespace Go.Proofs.Ytnhapgenebcjmaa.GQ
open Go.RowKit Go.Proofs.YtnhapgenebcjmaaW.PrintWords Go.Proofs.YtnhapgenebcjmaaW.PrintLast Go.Proofs.YtnhapgenebcjmaaW.PrintMore Go.Proofs.Ytnhapgenebcjmaa.GText
attribute [local go_sem] max2_int min2_int max_two min_two max_three min_three max_four min_four   -- for this text's walks alone
set_option linter.unusedVariables false
set_option linter.unusedSimpArgs false

/-! ### tillerlaw01_FixProducts: function 3 -/
mutual
def tillerlaw01_FixProducts.j0 : Nat → Int → Int → Bool → Option (Bool)
 | 0, _, _, _ => none
 | k + 1, x2, x3, x54 => if x54 = true then (some false) else (if x3 < 1 then (tillerlaw01_FixProducts.j1 k x2 x3 true) else (if x3 > 4611686018427387904 then (tillerlaw01_FixProducts.j1 k x2 x3 true) else (tillerlaw01_FixProducts.j1 k x2 x3 (x2 == (-9223372036854775808)))))
def tillerlaw01_FixProducts.j1 : Nat → Int → Int → Bool → Option (Bool)
 | 0, _, _, _ => none
 | k + 1, x2, x3, x64 => if x64 = true then (some true) else ((fix_Round.f k x2 x3).bind fun t138 => ((tillerref01_Round.f k x2 x3).bind fun t139 => (some (t138 == t139))))
end
def tillerlaw01_FixProducts.f (k : Nat) (a0 : Int) (a1 : Int) (a2 : Int) (a3 : Int) : Option (Bool) := (fix_Div.f k a0 a1).bind fun bt132 => ((tillerlaw01_awake.f k).bind fun t134 => (if t134 = true then ((fix_Mul.f k a0 a1).bind fun t135 => ((tillerref01_Mul.f k a0 a1).bind fun t136 => (if t135 = t136 then (if a1 = 0 then (if bt132.2 = 5 then (if bt132.1 = 0 then (tillerlaw01_FixProducts.j0 k a2 a3 false) else (tillerlaw01_FixProducts.j0 k a2 a3 true)) else (tillerlaw01_FixProducts.j0 k a2 a3 true)) else (if bt132.2 = 0 then ((tillerref01_Div.f k a0 a1).bind fun t137 => (tillerlaw01_FixProducts.j0 k a2 a3 (bt132.1 != t137))) else (tillerlaw01_FixProducts.j0 k a2 a3 true))) else (tillerlaw01_FixProducts.j0 k a2 a3 true)))) else (tillerlaw01_FixProducts.j0 k a2 a3 true)))
theorem tillerlaw01_FixProducts.mono_l : ∀ k, (∀ y0 y1 y2, LeO (tillerlaw01_FixProducts.j0 k y0 y1 y2) (tillerlaw01_FixProducts.j0 (k + 1) y0 y1 y2)) ∧ (∀ y0 y1 y2, LeO (tillerlaw01_FixProducts.j1 k y0 y1 y2) (tillerlaw01_FixProducts.j1 (k + 1) y0 y1 y2))
 | 0 => ⟨fun _ _ _ r h => by simp [tillerlaw01_FixProducts.j0] at h, fun _ _ _ r h => by simp [tillerlaw01_FixProducts.j1] at h⟩
 | k + 1 => by
  obtain ⟨ih0, ih1⟩ := tillerlaw01_FixProducts.mono_l k
  refine ⟨?_, ?_⟩
  ·intro y0 y1 y2
   unfold tillerlaw01_FixProducts.j0
   repeat' first
   | (with_reducible exact ih0 _ _ _)
   | (with_reducible exact ih1 _ _ _)
   | (with_reducible exact fix_Div.mono _ _ _)
   | (with_reducible exact fix_Mul.mono _ _ _)
   | (with_reducible exact fix_Round.mono _ _ _)
   | (with_reducible exact tillerlaw01_awake.mono _)
   | (with_reducible exact tillerref01_Div.mono _ _ _)
   | (with_reducible exact tillerref01_Mul.mono _ _ _)
   | (with_reducible exact tillerref01_Round.mono _ _ _)
   | (with_reducible exact LeO.refl _)
   | (with_reducible exact LeO.none _)
   | (with_reducible refine LeO.ite ?_ ?_)
   | (with_reducible refine LeO.bind ?_ (fun _ => ?_))
   | exact ih0 _ _ _
   | exact ih1 _ _ _
   | exact fix_Div.mono _ _ _
   | exact fix_Mul.mono _ _ _
   | exact fix_Round.mono _ _ _
   | exact tillerlaw01_awake.mono _
   | exact tillerref01_Div.mono _ _ _
   | exact tillerref01_Mul.mono _ _ _
   | exact tillerref01_Round.mono _ _ _
   | exact LeO.none _
   | refine LeO.ite ?_ ?_
   | refine LeO.bind ?_ (fun _ => ?_)
  ·intro y0 y1 y2
   unfold tillerlaw01_FixProducts.j1
   repeat' first
   | (with_reducible exact ih0 _ _ _)
   | (with_reducible exact ih1 _ _ _)
   | (with_reducible exact fix_Div.mono _ _ _)
   | (with_reducible exact fix_Mul.mono _ _ _)
   | (with_reducible exact fix_Round.mono _ _ _)
   | (with_reducible exact tillerlaw01_awake.mono _)
   | (with_reducible exact tillerref01_Div.mono _ _ _)
   | (with_reducible exact tillerref01_Mul.mono _ _ _)
   | (with_reducible exact tillerref01_Round.mono _ _ _)
   | (with_reducible exact LeO.refl _)
   | (with_reducible exact LeO.none _)
   | (with_reducible refine LeO.ite ?_ ?_)
   | (with_reducible refine LeO.bind ?_ (fun _ => ?_))
   | exact ih0 _ _ _
   | exact ih1 _ _ _
   | exact fix_Div.mono _ _ _
   | exact fix_Mul.mono _ _ _
   | exact fix_Round.mono _ _ _
   | exact tillerlaw01_awake.mono _
   | exact tillerref01_Div.mono _ _ _
   | exact tillerref01_Mul.mono _ _ _
   | exact tillerref01_Round.mono _ _ _
   | exact LeO.none _
   | refine LeO.ite ?_ ?_
   | refine LeO.bind ?_ (fun _ => ?_)
theorem tillerlaw01_FixProducts.mono : ∀ a0 a1 a2 a3 k, LeO (tillerlaw01_FixProducts.f k a0 a1 a2 a3) (tillerlaw01_FixProducts.f (k + 1) a0 a1 a2 a3) := by
 intro a0 a1 a2 a3 k
 obtain ⟨ih0, ih1⟩ := tillerlaw01_FixProducts.mono_l k
 unfold tillerlaw01_FixProducts.f
 repeat' first
   | (with_reducible exact ih0 _ _ _)
   | (with_reducible exact ih1 _ _ _)
   | (with_reducible exact fix_Div.mono _ _ _)
   | (with_reducible exact fix_Mul.mono _ _ _)
   | (with_reducible exact fix_Round.mono _ _ _)
   | (with_reducible exact tillerlaw01_awake.mono _)
   | (with_reducible exact tillerref01_Div.mono _ _ _)
   | (with_reducible exact tillerref01_Mul.mono _ _ _)
   | (with_reducible exact tillerref01_Round.mono _ _ _)
   | (with_reducible exact LeO.refl _)
   | (with_reducible exact LeO.none _)
   | (with_reducible refine LeO.ite ?_ ?_)
   | (with_reducible refine LeO.bind ?_ (fun _ => ?_))
   | exact ih0 _ _ _
   | exact ih1 _ _ _
   | exact fix_Div.mono _ _ _
   | exact fix_Mul.mono _ _ _
   | exact fix_Round.mono _ _ _
   | exact tillerlaw01_awake.mono _
   | exact tillerref01_Div.mono _ _ _
   | exact tillerref01_Mul.mono _ _ _
   | exact tillerref01_Round.mono _ _ _
   | exact LeO.none _
   | refine LeO.ite ?_ ?_
   | refine LeO.bind ?_ (fun _ => ?_)
set_option maxHeartbeats 8000000 in
set_option maxRecDepth 100000 in
theorem tillerlaw01_FixProducts.calls (k : Nat) (a0 : Int) (a1 : Int) (a2 : Int) (a3 : Int) (r : Bool) (w : World) (hr_ : Aside0 (r = true)) (h : tillerlaw01_FixProducts.f k a0 a1 a2 a3 = some r) :
  Calls Try.prog 3 #[.int .i32 a0, .int .i32 a1, .int .i64 a2, .int .i64 a3] w fun e w' => e = .returned (.bool r) ∧ Below w.heap.size w w' := by
 have HB := Aside0.mk (Below.refl w.heap.size w)
 have H : ((fix_Div.f k a0 a1).bind fun bt132 => ((tillerlaw01_awake.f k).bind fun t134 => (if t134 = true then ((fix_Mul.f k a0 a1).bind fun t135 => ((tillerref01_Mul.f k a0 a1).bind fun t136 => (if t135 = t136 then (if a1 = 0 then (if bt132.2 = 5 then (if bt132.1 = 0 then (tillerlaw01_FixProducts.j0 k a2 a3 false) else (tillerlaw01_FixProducts.j0 k a2 a3 true)) else (tillerlaw01_FixProducts.j0 k a2 a3 true)) else (if bt132.2 = 0 then ((tillerref01_Div.f k a0 a1).bind fun t137 => (tillerlaw01_FixProducts.j0 k a2 a3 (bt132.1 != t137))) else (tillerlaw01_FixProducts.j0 k a2 a3 true))) else (tillerlaw01_FixProducts.j0 k a2 a3 true)))) else (tillerlaw01_FixProducts.j0 k a2 a3 true)))) = some r := h
 clear h
 replace H := Option.bind_eq_some_iff.mp H
 obtain ⟨⟨t132, t133⟩, A50, H⟩ := H
 replace H : ((tillerlaw01_awake.f k).bind fun t134 => (if t134 = true then ((fix_Mul.f k a0 a1).bind fun t135 => ((tillerref01_Mul.f k a0 a1).bind fun t136 => (if t135 = t136 then (if a1 = 0 then (if t133 = 5 then (if t132 = 0 then (tillerlaw01_FixProducts.j0 k a2 a3 false) else (tillerlaw01_FixProducts.j0 k a2 a3 true)) else (tillerlaw01_FixProducts.j0 k a2 a3 true)) else (if t133 = 0 then ((tillerref01_Div.f k a0 a1).bind fun t137 => (tillerlaw01_FixProducts.j0 k a2 a3 (t132 != t137))) else (tillerlaw01_FixProducts.j0 k a2 a3 true))) else (tillerlaw01_FixProducts.j0 k a2 a3 true)))) else (tillerlaw01_FixProducts.j0 k a2 a3 true))) = some r := H
 have A5 := Aside0.mk A50
 clear A50
 have HC6 := Aside0.mk H
 clear H
 go_enter Try.func3, Try.ntmps3
 go_upto_region 2 with (first | ((with_reducible refine gate_callee (f := 11) rfl ?_); refine goesL_ (some 14) rfl rfl Try.func11 (by kernel_rfl) rfl #[.int .i32 a0, .int .i32 a1] rfl (by (try simp only [List.map_toArray, List.map_cons, List.map_nil]); first | done | rfl | (simp only [List.length_drop, List.length_take]; rfl)) ?_; (with_reducible refine (fix_Div.calls k a0 a1 t132 t133 _ A5.out).mono ?_); rintro e w7 ⟨rfl, hb⟩; refine ⟨_, rfl, ?_⟩; have n0_ := Aside0.mk (below_step (by repeat (first | (with_reducible first | exact HB.out | apply bwA | apply bwN | apply bwD) | exact HB.out)) hb); clear HB; have HB := n0_; clear n0_; (try clear hb); (try clear hb2); (try clear hk); (try clear hi)))
 (try simp only [Act.put, List.setIfInBounds_toArray, List.set_cons_zero, List.set_cons_succ])
 go_cut [54] (fun v54 wc => ∃ (kq : Nat) (x54_5 : Bool), v54 = .bool x54_5 ∧ Aside0 (tillerlaw01_FixProducts.j0 kq a2 a3 x54_5 = some r) ∧ Aside0 (kq ≤ k) ∧ Aside0 (Below w.heap.size w wc))
 case first =>
  have H := HC6.out
  clear HC6
  replace H := Option.bind_eq_some_iff.mp H
  obtain ⟨t134, A80, H⟩ := H
  replace H : (if t134 = true then ((fix_Mul.f k a0 a1).bind fun t135 => ((tillerref01_Mul.f k a0 a1).bind fun t136 => (if t135 = t136 then (if a1 = 0 then (if t133 = 5 then (if t132 = 0 then (tillerlaw01_FixProducts.j0 k a2 a3 false) else (tillerlaw01_FixProducts.j0 k a2 a3 true)) else (tillerlaw01_FixProducts.j0 k a2 a3 true)) else (if t133 = 0 then ((tillerref01_Div.f k a0 a1).bind fun t137 => (tillerlaw01_FixProducts.j0 k a2 a3 (t132 != t137))) else (tillerlaw01_FixProducts.j0 k a2 a3 true))) else (tillerlaw01_FixProducts.j0 k a2 a3 true)))) else (tillerlaw01_FixProducts.j0 k a2 a3 true)) = some r := H
  have A8 := Aside0.mk A80
  clear A80
  by_cases c9 : t134 = true
  ·subst c9
   have H1 : ((fix_Mul.f k a0 a1).bind fun t135 => ((tillerref01_Mul.f k a0 a1).bind fun t136 => (if t135 = t136 then (if a1 = 0 then (if t133 = 5 then (if t132 = 0 then (tillerlaw01_FixProducts.j0 k a2 a3 false) else (tillerlaw01_FixProducts.j0 k a2 a3 true)) else (tillerlaw01_FixProducts.j0 k a2 a3 true)) else (if t133 = 0 then ((tillerref01_Div.f k a0 a1).bind fun t137 => (tillerlaw01_FixProducts.j0 k a2 a3 (t132 != t137))) else (tillerlaw01_FixProducts.j0 k a2 a3 true))) else (tillerlaw01_FixProducts.j0 k a2 a3 true)))) = some r := by rw [if_pos rfl] at H; exact H
   clear H
   have H := H1
   clear H1
   replace H := Option.bind_eq_some_iff.mp H
   obtain ⟨t135, A100, H⟩ := H
   replace H : ((tillerref01_Mul.f k a0 a1).bind fun t136 => (if t135 = t136 then (if a1 = 0 then (if t133 = 5 then (if t132 = 0 then (tillerlaw01_FixProducts.j0 k a2 a3 false) else (tillerlaw01_FixProducts.j0 k a2 a3 true)) else (tillerlaw01_FixProducts.j0 k a2 a3 true)) else (if t133 = 0 then ((tillerref01_Div.f k a0 a1).bind fun t137 => (tillerlaw01_FixProducts.j0 k a2 a3 (t132 != t137))) else (tillerlaw01_FixProducts.j0 k a2 a3 true))) else (tillerlaw01_FixProducts.j0 k a2 a3 true))) = some r := H
   have A10 := Aside0.mk A100
   clear A100
   replace H := Option.bind_eq_some_iff.mp H
   obtain ⟨t136, A110, H⟩ := H
   replace H : (if t135 = t136 then (if a1 = 0 then (if t133 = 5 then (if t132 = 0 then (tillerlaw01_FixProducts.j0 k a2 a3 false) else (tillerlaw01_FixProducts.j0 k a2 a3 true)) else (tillerlaw01_FixProducts.j0 k a2 a3 true)) else (if t133 = 0 then ((tillerref01_Div.f k a0 a1).bind fun t137 => (tillerlaw01_FixProducts.j0 k a2 a3 (t132 != t137))) else (tillerlaw01_FixProducts.j0 k a2 a3 true))) else (tillerlaw01_FixProducts.j0 k a2 a3 true)) = some r := H
   have A11 := Aside0.mk A110
   clear A110
   by_cases c12 : t135 = t136
   ·rw [if_pos c12] at H
    have c12b0 : (t135 == t136) = true := beq_iff_eq.mpr c12
    have c12b1 : (t135 != t136) = false := bne_eq_false_iff_eq.mpr c12
    clear c12
    (first | rw [c12b0] | (simp only [i64_w, i32_w]; rw [c12b0]) | skip)
    by_cases c13 : a1 = 0
    ·rw [if_pos c13] at H
     have c13b0 : (a1 == 0) = true := beq_iff_eq.mpr c13
     have c13b1 : (a1 != 0) = false := bne_eq_false_iff_eq.mpr c13
     clear c13
     by_cases c14 : t133 = 5
     ·rw [if_pos c14] at H
      have c14b0 : (t133 == 5) = true := beq_iff_eq.mpr c14
      have c14b1 : (t133 != 5) = false := bne_eq_false_iff_eq.mpr c14
      clear c14
      by_cases c15 : t132 = 0
      ·rw [if_pos c15] at H
       have c15b0 : (t132 == 0) = true := beq_iff_eq.mpr c15
       have c15b1 : (t132 != 0) = false := bne_eq_false_iff_eq.mpr c15
       clear c15
       have H' := Aside0.mk H
       clear H
       go_wp2_with (first | ((with_reducible refine gate_callee (f := 12) rfl ?_); refine goesL_ (some 17) rfl rfl Try.func12 (by kernel_rfl) rfl #[] rfl (by (try simp only [List.map_toArray, List.map_cons, List.map_nil]); first | done | rfl | (simp only [List.length_drop, List.length_take]; rfl)) ?_; (with_reducible refine (tillerlaw01_awake.calls k  true _ A8.out).mono ?_); rintro e w16 ⟨rfl, hb⟩; refine ⟨_, rfl, ?_⟩; have n0_ := Aside0.mk (below_step (by repeat (first | (with_reducible first | exact HB.out | apply bwA | apply bwN | apply bwD) | exact HB.out)) hb); clear HB; have HB := n0_; clear n0_; (try clear hb); (try clear hb2); (try clear hk); (try clear hi)) | (go_at_call 13; (with_reducible refine (fix_Mul.calls k a0 a1 t135 _ A10.out).mono ?_); rintro e w17 ⟨rfl, hb⟩; have n0_ := Aside0.mk (below_step (by repeat (first | (with_reducible first | exact HB.out | apply bwA | apply bwN | apply bwD) | exact HB.out)) hb); clear HB; have HB := n0_; clear n0_; (try clear hb); (try clear hb2); (try clear hk); (try clear hi)) | (go_at_call 14; (with_reducible refine (tillerref01_Mul.calls k a0 a1 t136 _ A11.out).mono ?_); rintro e w' ⟨rfl, ⟨nd, rfl⟩⟩))
       go_meet
       case rel => exact ⟨_, (false), (by first | rfl | (simp; done) | (simp [*]; done)), H', ⟨by first | omega | exact Nat.le_refl _⟩, ⟨by repeat (first | (with_reducible first | exact HB.out | apply bwA | apply bwN | apply bwD) | exact HB.out)⟩⟩
      ·rw [if_neg c15] at H
       have c15b0 : (t132 == 0) = false := beq_eq_false_iff_ne.mpr c15
       have c15b1 : (t132 != 0) = true := bne_iff_ne.mpr c15
       have H' := Aside0.mk H
       clear H
       go_wp2_with (first | ((with_reducible refine gate_callee (f := 12) rfl ?_); refine goesL_ (some 17) rfl rfl Try.func12 (by kernel_rfl) rfl #[] rfl (by (try simp only [List.map_toArray, List.map_cons, List.map_nil]); first | done | rfl | (simp only [List.length_drop, List.length_take]; rfl)) ?_; (with_reducible refine (tillerlaw01_awake.calls k  true _ A8.out).mono ?_); rintro e w18 ⟨rfl, hb⟩; refine ⟨_, rfl, ?_⟩; have n0_ := Aside0.mk (below_step (by repeat (first | (with_reducible first | exact HB.out | apply bwA | apply bwN | apply bwD) | exact HB.out)) hb); clear HB; have HB := n0_; clear n0_; (try clear hb); (try clear hb2); (try clear hk); (try clear hi)) | (go_at_call 13; (with_reducible refine (fix_Mul.calls k a0 a1 t135 _ A10.out).mono ?_); rintro e w19 ⟨rfl, hb⟩; have n0_ := Aside0.mk (below_step (by repeat (first | (with_reducible first | exact HB.out | apply bwA | apply bwN | apply bwD) | exact HB.out)) hb); clear HB; have HB := n0_; clear n0_; (try clear hb); (try clear hb2); (try clear hk); (try clear hi)) | (go_at_call 14; (with_reducible refine (tillerref01_Mul.calls k a0 a1 t136 _ A11.out).mono ?_); rintro e w' ⟨rfl, ⟨nd, rfl⟩⟩))
       go_meet
       case rel => exact ⟨_, (true), (by first | rfl | (simp; done) | (simp [*]; done)), H', ⟨by first | omega | exact Nat.le_refl _⟩, ⟨by repeat (first | (with_reducible first | exact HB.out | apply bwA | apply bwN | apply bwD) | exact HB.out)⟩⟩
     ·rw [if_neg c14] at H
      have c14b0 : (t133 == 5) = false := beq_eq_false_iff_ne.mpr c14
      have c14b1 : (t133 != 5) = true := bne_iff_ne.mpr c14
      have H' := Aside0.mk H
      clear H
      go_wp2_with (first | ((with_reducible refine gate_callee (f := 12) rfl ?_); refine goesL_ (some 17) rfl rfl Try.func12 (by kernel_rfl) rfl #[] rfl (by (try simp only [List.map_toArray, List.map_cons, List.map_nil]); first | done | rfl | (simp only [List.length_drop, List.length_take]; rfl)) ?_; (with_reducible refine (tillerlaw01_awake.calls k  true _ A8.out).mono ?_); rintro e w20 ⟨rfl, hb⟩; refine ⟨_, rfl, ?_⟩; have n0_ := Aside0.mk (below_step (by repeat (first | (with_reducible first | exact HB.out | apply bwA | apply bwN | apply bwD) | exact HB.out)) hb); clear HB; have HB := n0_; clear n0_; (try clear hb); (try clear hb2); (try clear hk); (try clear hi)) | (go_at_call 13; (with_reducible refine (fix_Mul.calls k a0 a1 t135 _ A10.out).mono ?_); rintro e w21 ⟨rfl, hb⟩; have n0_ := Aside0.mk (below_step (by repeat (first | (with_reducible first | exact HB.out | apply bwA | apply bwN | apply bwD) | exact HB.out)) hb); clear HB; have HB := n0_; clear n0_; (try clear hb); (try clear hb2); (try clear hk); (try clear hi)) | (go_at_call 14; (with_reducible refine (tillerref01_Mul.calls k a0 a1 t136 _ A11.out).mono ?_); rintro e w' ⟨rfl, ⟨nd, rfl⟩⟩))
      go_meet
      case rel => exact ⟨_, (true), (by first | rfl | (simp; done) | (simp [*]; done)), H', ⟨by first | omega | exact Nat.le_refl _⟩, ⟨by repeat (first | (with_reducible first | exact HB.out | apply bwA | apply bwN | apply bwD) | exact HB.out)⟩⟩
    ·rw [if_neg c13] at H
     have c13b0 : (a1 == 0) = false := beq_eq_false_iff_ne.mpr c13
     have c13b1 : (a1 != 0) = true := bne_iff_ne.mpr c13
     by_cases c22 : t133 = 0
     ·rw [if_pos c22] at H
      have c22b0 : (t133 == 0) = true := beq_iff_eq.mpr c22
      have c22b1 : (t133 != 0) = false := bne_eq_false_iff_eq.mpr c22
      clear c22
      replace H := Option.bind_eq_some_iff.mp H
      obtain ⟨t137, A230, H⟩ := H
      replace H : (tillerlaw01_FixProducts.j0 k a2 a3 (t132 != t137)) = some r := H
      have A23 := Aside0.mk A230
      clear A230
      have H' := Aside0.mk H
      clear H
      go_wp2_with (first | ((with_reducible refine gate_callee (f := 12) rfl ?_); refine goesL_ (some 17) rfl rfl Try.func12 (by kernel_rfl) rfl #[] rfl (by (try simp only [List.map_toArray, List.map_cons, List.map_nil]); first | done | rfl | (simp only [List.length_drop, List.length_take]; rfl)) ?_; (with_reducible refine (tillerlaw01_awake.calls k  true _ A8.out).mono ?_); rintro e w24 ⟨rfl, hb⟩; refine ⟨_, rfl, ?_⟩; have n0_ := Aside0.mk (below_step (by repeat (first | (with_reducible first | exact HB.out | apply bwA | apply bwN | apply bwD) | exact HB.out)) hb); clear HB; have HB := n0_; clear n0_; (try clear hb); (try clear hb2); (try clear hk); (try clear hi)) | (go_at_call 13; (with_reducible refine (fix_Mul.calls k a0 a1 t135 _ A10.out).mono ?_); rintro e w25 ⟨rfl, hb⟩; have n0_ := Aside0.mk (below_step (by repeat (first | (with_reducible first | exact HB.out | apply bwA | apply bwN | apply bwD) | exact HB.out)) hb); clear HB; have HB := n0_; clear n0_; (try clear hb); (try clear hb2); (try clear hk); (try clear hi)) | (go_at_call 14; (with_reducible refine (tillerref01_Mul.calls k a0 a1 t136 _ A11.out).mono ?_); rintro e w' ⟨rfl, ⟨nd, rfl⟩⟩) | (go_at_call 15; (with_reducible refine (tillerref01_Div.calls k a0 a1 t137 _ A23.out).mono ?_); rintro e w' ⟨rfl, ⟨nd, rfl⟩⟩))
      go_meet
      case rel => exact ⟨_, ((t132 != t137)), (by first | rfl | (simp; done) | (simp [*]; done)), H', ⟨by first | omega | exact Nat.le_refl _⟩, ⟨by repeat (first | (with_reducible first | exact HB.out | apply bwA | apply bwN | apply bwD) | exact HB.out)⟩⟩
     ·rw [if_neg c22] at H
      have c22b0 : (t133 == 0) = false := beq_eq_false_iff_ne.mpr c22
      have c22b1 : (t133 != 0) = true := bne_iff_ne.mpr c22
      have H' := Aside0.mk H
      clear H
      go_wp2_with (first | ((with_reducible refine gate_callee (f := 12) rfl ?_); refine goesL_ (some 17) rfl rfl Try.func12 (by kernel_rfl) rfl #[] rfl (by (try simp only [List.map_toArray, List.map_cons, List.map_nil]); first | done | rfl | (simp only [List.length_drop, List.length_take]; rfl)) ?_; (with_reducible refine (tillerlaw01_awake.calls k  true _ A8.out).mono ?_); rintro e w26 ⟨rfl, hb⟩; refine ⟨_, rfl, ?_⟩; have n0_ := Aside0.mk (below_step (by repeat (first | (with_reducible first | exact HB.out | apply bwA | apply bwN | apply bwD) | exact HB.out)) hb); clear HB; have HB := n0_; clear n0_; (try clear hb); (try clear hb2); (try clear hk); (try clear hi)) | (go_at_call 13; (with_reducible refine (fix_Mul.calls k a0 a1 t135 _ A10.out).mono ?_); rintro e w27 ⟨rfl, hb⟩; have n0_ := Aside0.mk (below_step (by repeat (first | (with_reducible first | exact HB.out | apply bwA | apply bwN | apply bwD) | exact HB.out)) hb); clear HB; have HB := n0_; clear n0_; (try clear hb); (try clear hb2); (try clear hk); (try clear hi)) | (go_at_call 14; (with_reducible refine (tillerref01_Mul.calls k a0 a1 t136 _ A11.out).mono ?_); rintro e w' ⟨rfl, ⟨nd, rfl⟩⟩))
      go_meet
      case rel => exact ⟨_, (true), (by first | rfl | (simp; done) | (simp [*]; done)), H', ⟨by first | omega | exact Nat.le_refl _⟩, ⟨by repeat (first | (with_reducible first | exact HB.out | apply bwA | apply bwN | apply bwD) | exact HB.out)⟩⟩
   ·rw [if_neg c12] at H
    have c12b0 : (t135 == t136) = false := beq_eq_false_iff_ne.mpr c12
    have c12b1 : (t135 != t136) = true := bne_iff_ne.mpr c12
    (first | rw [c12b0] | (simp only [i64_w, i32_w]; rw [c12b0]) | skip)
    have H' := Aside0.mk H
    clear H
    go_wp2_with (first | ((with_reducible refine gate_callee (f := 12) rfl ?_); refine goesL_ (some 17) rfl rfl Try.func12 (by kernel_rfl) rfl #[] rfl (by (try simp only [List.map_toArray, List.map_cons, List.map_nil]); first | done | rfl | (simp only [List.length_drop, List.length_take]; rfl)) ?_; (with_reducible refine (tillerlaw01_awake.calls k  true _ A8.out).mono ?_); rintro e w28 ⟨rfl, hb⟩; refine ⟨_, rfl, ?_⟩; have n0_ := Aside0.mk (below_step (by repeat (first | (with_reducible first | exact HB.out | apply bwA | apply bwN | apply bwD) | exact HB.out)) hb); clear HB; have HB := n0_; clear n0_; (try clear hb); (try clear hb2); (try clear hk); (try clear hi)) | (go_at_call 13; (with_reducible refine (fix_Mul.calls k a0 a1 t135 _ A10.out).mono ?_); rintro e w29 ⟨rfl, hb⟩; have n0_ := Aside0.mk (below_step (by repeat (first | (with_reducible first | exact HB.out | apply bwA | apply bwN | apply bwD) | exact HB.out)) hb); clear HB; have HB := n0_; clear n0_; (try clear hb); (try clear hb2); (try clear hk); (try clear hi)) | (go_at_call 14; (with_reducible refine (tillerref01_Mul.calls k a0 a1 t136 _ A11.out).mono ?_); rintro e w' ⟨rfl, ⟨nd, rfl⟩⟩))
    go_meet
    case rel => exact ⟨_, (true), (by first | rfl | (simp; done) | (simp [*]; done)), H', ⟨by first | omega | exact Nat.le_refl _⟩, ⟨by repeat (first | (with_reducible first | exact HB.out | apply bwA | apply bwN | apply bwD) | exact HB.out)⟩⟩
  ·replace c9 := Bool.eq_false_iff.mpr c9
   subst c9
   have H1 : (tillerlaw01_FixProducts.j0 k a2 a3 true) = some r := by rw [if_neg (show ¬ (false = true) by decide)] at H; exact H
   clear H
   have H := H1
   clear H1
   have H' := Aside0.mk H
   clear H
   go_wp2_with (first | ((with_reducible refine gate_callee (f := 12) rfl ?_); refine goesL_ (some 17) rfl rfl Try.func12 (by kernel_rfl) rfl #[] rfl (by (try simp only [List.map_toArray, List.map_cons, List.map_nil]); first | done | rfl | (simp only [List.length_drop, List.length_take]; rfl)) ?_; (with_reducible refine (tillerlaw01_awake.calls k  false _ A8.out).mono ?_); rintro e w30 ⟨rfl, hb⟩; refine ⟨_, rfl, ?_⟩; have n0_ := Aside0.mk (below_step (by repeat (first | (with_reducible first | exact HB.out | apply bwA | apply bwN | apply bwD) | exact HB.out)) hb); clear HB; have HB := n0_; clear n0_; (try clear hb); (try clear hb2); (try clear hk); (try clear hi)))
   go_meet
   case rel => exact ⟨_, (true), (by first | rfl | (simp; done) | (simp [*]; done)), H', ⟨by first | omega | exact Nat.le_refl _⟩, ⟨by repeat (first | (with_reducible first | exact HB.out | apply bwA | apply bwN | apply bwD) | exact HB.out)⟩⟩
 case rest =>
  clear HC6
  try clear c1
  try clear c2
  try clear p2
  try clear c3
  try clear c9
  try clear c11
  try clear c12
  try clear c12b0
  try clear c12b1
  try clear c13
  try clear c13b0
  try clear c13b1
  try clear c14
  try clear c14b0
  try clear c14b1
  try clear c15
  try clear c15b0
  try clear c15b1
  try clear c22
  try clear c22b0
  try clear c22b1
  obtain ⟨kq, x54_5, rfl, HA, HJ5, HB⟩ := hcut
  cases kq with
  | zero => exact absurd HA.out (by simp [tillerlaw01_FixProducts.j0])
  | succ kj5 =>
   have H := HA.out
   clear HA
   simp only [tillerlaw01_FixProducts.j0] at H
   by_cases c31 : x54_5 = true
   ·subst c31
    have H1 : (some false) = some r := by rw [if_pos rfl] at H; exact H
    clear H
    have H := H1
    clear H1
    exact absurd (Option.some.inj H) (by rw [hr_.out]; decide)
   ·replace c31 := Bool.eq_false_iff.mpr c31
    subst c31
    have H1 : (if a3 < 1 then (tillerlaw01_FixProducts.j1 kj5 a2 a3 true) else (if a3 > 4611686018427387904 then (tillerlaw01_FixProducts.j1 kj5 a2 a3 true) else (tillerlaw01_FixProducts.j1 kj5 a2 a3 (a2 == (-9223372036854775808))))) = some r := by rw [if_neg (show ¬ (false = true) by decide)] at H; exact H
    clear H
    have H := H1
    clear H1
    have HC32 := Aside0.mk H
    clear H
    go_upto_region 4 with (fail)
    go_cut [64] (fun v64 wc => ∃ (kq : Nat) (x64_31 : Bool), v64 = .bool x64_31 ∧ Aside0 (tillerlaw01_FixProducts.j1 kq a2 a3 x64_31 = some r) ∧ Aside0 (kq ≤ kj5) ∧ Aside0 (Below w.heap.size w wc))
    case first =>
     have H := HC32.out
     clear HC32
     by_cases c33 : a3 < 1
     ·rw [if_pos c33] at H
      have c33b0 : decide (a3 < 1) = true := decide_eq_true c33
      clear c33
      (first | rw [c33b0] | (simp only [i64_w, i32_w]; rw [c33b0]) | skip)
      have H' := Aside0.mk H
      clear H
      go_wp2
      go_meet
      case rel => exact ⟨_, (true), (by first | rfl | (simp; done) | (simp [*]; done)), H', ⟨by have := HJ5.out; first | omega | exact Nat.le_refl _⟩, ⟨by repeat (first | (with_reducible first | exact HB.out | apply bwA | apply bwN | apply bwD) | exact HB.out)⟩⟩
     ·rw [if_neg c33] at H
      have c33b0 : decide (a3 < 1) = false := decide_eq_false c33
      clear c33
      (first | rw [c33b0] | (simp only [i64_w, i32_w]; rw [c33b0]) | skip)
      by_cases c34 : a3 > 4611686018427387904
      ·rw [if_pos c34] at H
       have c34b0 : decide (4611686018427387904 < a3) = true := decide_eq_true c34
       clear c34
       have H' := Aside0.mk H
       clear H
       go_wp2
       go_meet
       case rel => exact ⟨_, (true), (by first | rfl | (simp; done) | (simp [*]; done)), H', ⟨by have := HJ5.out; first | omega | exact Nat.le_refl _⟩, ⟨by repeat (first | (with_reducible first | exact HB.out | apply bwA | apply bwN | apply bwD) | exact HB.out)⟩⟩
      ·rw [if_neg c34] at H
       have c34b0 : decide (4611686018427387904 < a3) = false := decide_eq_false c34
       clear c34
       have H' := Aside0.mk H
       clear H
       go_wp2
       go_meet
       case rel => exact ⟨_, ((a2 == (-9223372036854775808))), (by first | rfl | (simp; done) | (simp [*]; done)), H', ⟨by have := HJ5.out; first | omega | exact Nat.le_refl _⟩, ⟨by repeat (first | (with_reducible first | exact HB.out | apply bwA | apply bwN | apply bwD) | exact HB.out)⟩⟩
    case rest =>
     clear HC32
     try clear c1
     try clear c2
     try clear p2
     try clear c3
     try clear c9
     try clear c11
     try clear c12
     try clear c12b0
     try clear c12b1
     try clear c13
     try clear c13b0
     try clear c13b1
     try clear c14
     try clear c14b0
     try clear c14b1
     try clear c15
     try clear c15b0
     try clear c15b1
     try clear c22
     try clear c22b0
     try clear c22b1
     try clear c31
     try clear c33
     try clear c33b0
     try clear c34
     try clear c34b0
     try clear p2
     obtain ⟨kq, x64_31, rfl, HA, HJ31, HB⟩ := hcut
     cases kq with
     | zero => exact absurd HA.out (by simp [tillerlaw01_FixProducts.j1])
     | succ kj31 =>
      have H := HA.out
      clear HA
      simp only [tillerlaw01_FixProducts.j1] at H
      by_cases c35 : x64_31 = true
      ·subst c35
       have H1 : (some true) = some r := by rw [if_pos rfl] at H; exact H
       clear H
       have H := H1
       clear H1
       obtain rfl := Option.some.inj H
       go_wp2
       go_ret
       exact ⟨by first | rfl | (simp [errW_none, errW_some] <;> rfl) | (simp [*, errW_none, errW_some] <;> rfl), by repeat (first | (with_reducible first | exact HB.out | apply bwA | apply bwN | apply bwD) | exact HB.out)⟩
      ·replace c35 := Bool.eq_false_iff.mpr c35
       subst c35
       have H1 : ((fix_Round.f kj31 a2 a3).bind fun t138 => ((tillerref01_Round.f kj31 a2 a3).bind fun t139 => (some (t138 == t139)))) = some r := by rw [if_neg (show ¬ (false = true) by decide)] at H; exact H
       clear H
       have H := H1
       clear H1
       replace H := Option.bind_eq_some_iff.mp H
       obtain ⟨t138, A360, H⟩ := H
       replace H : ((tillerref01_Round.f kj31 a2 a3).bind fun t139 => (some (t138 == t139))) = some r := H
       have A36 := Aside0.mk A360
       clear A360
       replace H := Option.bind_eq_some_iff.mp H
       obtain ⟨t139, A370, H⟩ := H
       replace H : (some (t138 == t139)) = some r := H
       have A37 := Aside0.mk A370
       clear A370
       obtain rfl := Option.some.inj H
       go_wp2_with (first | ((with_reducible refine gate_callee (f := 16) rfl ?_); refine goesL_ (some 67) rfl rfl Try.func16 (by kernel_rfl) rfl #[.int .i64 a2, .int .i64 a3] rfl (by (try simp only [List.map_toArray, List.map_cons, List.map_nil]); first | done | rfl | (simp only [List.length_drop, List.length_take]; rfl)) ?_; (with_reducible refine (fix_Round.calls kj31 a2 a3 t138 _ A36.out).mono ?_); rintro e w' ⟨rfl, ⟨nd, rfl⟩⟩; refine ⟨_, rfl, ?_⟩) | ((with_reducible refine gate_callee (f := 17) rfl ?_); refine goesL_ (some 70) rfl rfl Try.func17 (by kernel_rfl) rfl #[.int .i64 a2, .int .i64 a3] rfl (by (try simp only [List.map_toArray, List.map_cons, List.map_nil]); first | done | rfl | (simp only [List.length_drop, List.length_take]; rfl)) ?_; (with_reducible refine (tillerref01_Round.calls kj31 a2 a3 t139 _ A37.out).mono ?_); rintro e w' ⟨rfl, ⟨nd, rfl⟩⟩; refine ⟨_, rfl, ?_⟩))
       go_ret
       exact ⟨by first | rfl | (simp [errW_none, errW_some] <;> rfl) | (simp [*, errW_none, errW_some] <;> rfl), by repeat (first | (with_reducible first | exact HB.out | apply bwA | apply bwN | apply bwD) | exact HB.out)⟩

end Go.Proofs.Ytnhapgenebcjmaa.GQ
