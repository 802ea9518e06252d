-- written by this session's program gprint.py
import Derived.Test.YtnhapgenebcjmaaGQx0
import Derived.Test.YtnhapgenebcjmaaGQx1
import Derived.Test.YtnhapgenebcjmaaWLast
import Derived.Test.YtnhapgenebcjmaaWMore
import Derived.Test.YtnhapgenebcjmaaWWords
namespace Go.Proofs.Ytnhapgenebcjmaa.GQ
open Go.RowKit Go.Proofs.YtnhapgenebcjmaaW.PrintWords Go.Proofs.YtnhapgenebcjmaaW.PrintLast Go.Proofs.YtnhapgenebcjmaaW.PrintMore Go.Proofs.Ytnhapgenebcjmaa.GText
attribute [local go_sem] max2_int min2_int max_two min_two max_three min_three max_four min_four   -- for this text's walks alone
set_option linter.unusedVariables false
set_option linter.unusedSimpArgs false

/-! ### tillerlaw01_FixNear: function 4 -/
mutual
def tillerlaw01_FixNear.j0 : Nat → Int → Int → Int → Int → Bool → Option (Bool)
 | 0, _, _, _, _, _ => none
 | k + 1, x0, x1, x2, x3, x28 => if x28 = true then ((fix_Round.f k x0 x1).bind fun t158 => (if (wrap64 (x0 - (wrap64 (t158 * x1)))) > (wrap64 (x1 - (wrap64 (x0 - (wrap64 (t158 * x1)))))) then (some false) else (if (wrap64 (-(wrap64 (x0 - (wrap64 (t158 * x1)))))) > (wrap64 (x1 + (wrap64 (x0 - (wrap64 (t158 * x1)))))) then (some false) else (if (wrap64 (x0 - (wrap64 (t158 * x1)))) = (wrap64 (x1 - (wrap64 (x0 - (wrap64 (t158 * x1)))))) then (if x0 > 0 then (some false) else (if (wrap64 (-(wrap64 (x0 - (wrap64 (t158 * x1)))))) = (wrap64 (x1 + (wrap64 (x0 - (wrap64 (t158 * x1)))))) then (if x0 < 0 then (some false) else (tillerlaw01_FixNear.j1 k x2 x3)) else (tillerlaw01_FixNear.j1 k x2 x3))) else (if (wrap64 (-(wrap64 (x0 - (wrap64 (t158 * x1)))))) = (wrap64 (x1 + (wrap64 (x0 - (wrap64 (t158 * x1)))))) then (if x0 < 0 then (some false) else (tillerlaw01_FixNear.j1 k x2 x3)) else (tillerlaw01_FixNear.j1 k x2 x3)))))) else (tillerlaw01_FixNear.j1 k x2 x3)
def tillerlaw01_FixNear.j1 : Nat → Int → Int → Option (Bool)
 | 0, _, _ => none
 | k + 1, x2, x3 => (fix_Div.f k x2 x3).bind fun bt159 => (if bt159.2 = 0 then (if bt159.1 = 2147483647 then (tillerlaw01_FixNear.j2 k x2 x3 bt159.1 true) else (if bt159.1 = (-2147483647) then (tillerlaw01_FixNear.j2 k x2 x3 bt159.1 true) else (tillerlaw01_FixNear.j2 k x2 x3 bt159.1 (bt159.1 == 0)))) else (tillerlaw01_FixNear.j2 k x2 x3 bt159.1 true))
def tillerlaw01_FixNear.j2 : Nat → Int → Int → Int → Bool → Option (Bool)
 | 0, _, _, _, _ => none
 | k + 1, x2, x3, x11, x92 => if x92 = true then ((tillerlaw01_awake.f k).bind fun t161 => (some t161)) else (if (wrap64 ((wrap64 ((wrap64 (x11)) * (wrap64 (x3)))) - (wrap64 ((wrap64 (x2)) * 65536)))) < 0 then (if (wrap64 (x3)) < 0 then ((tillerlaw01_awake.f k).bind fun t162 => (if t162 = true then (some (decide ((wrap64 (2 * (wrap64 (-(wrap64 ((wrap64 ((wrap64 (x11)) * (wrap64 (x3)))) - (wrap64 ((wrap64 (x2)) * 65536)))))))) ≤ (wrap64 (-(wrap64 (x3))))))) else (some false))) else ((tillerlaw01_awake.f k).bind fun t163 => (if t163 = true then (some (decide ((wrap64 (2 * (wrap64 (-(wrap64 ((wrap64 ((wrap64 (x11)) * (wrap64 (x3)))) - (wrap64 ((wrap64 (x2)) * 65536)))))))) ≤ (wrap64 (x3))))) else (some false)))) else (if (wrap64 (x3)) < 0 then ((tillerlaw01_awake.f k).bind fun t164 => (if t164 = true then (some (decide ((wrap64 (2 * (wrap64 ((wrap64 ((wrap64 (x11)) * (wrap64 (x3)))) - (wrap64 ((wrap64 (x2)) * 65536)))))) ≤ (wrap64 (-(wrap64 (x3))))))) else (some false))) else ((tillerlaw01_awake.f k).bind fun t165 => (if t165 = true then (some (decide ((wrap64 (2 * (wrap64 ((wrap64 ((wrap64 (x11)) * (wrap64 (x3)))) - (wrap64 ((wrap64 (x2)) * 65536)))))) ≤ (wrap64 (x3))))) else (some false)))))
end
def tillerlaw01_FixNear.f (k : Nat) (a0 : Int) (a1 : Int) (a2 : Int) (a3 : Int) : Option (Bool) := if a1 ≥ 1 then (if a1 ≤ 2147483648 then (if a0 > (-2305843009213693952) then (tillerlaw01_FixNear.j0 k a0 a1 a2 a3 (decide (a0 < 2305843009213693952))) else (tillerlaw01_FixNear.j0 k a0 a1 a2 a3 false)) else (tillerlaw01_FixNear.j0 k a0 a1 a2 a3 false)) else (tillerlaw01_FixNear.j0 k a0 a1 a2 a3 false)
theorem tillerlaw01_FixNear.mono_l : ∀ k, (∀ y0 y1 y2 y3 y4, LeO (tillerlaw01_FixNear.j0 k y0 y1 y2 y3 y4) (tillerlaw01_FixNear.j0 (k + 1) y0 y1 y2 y3 y4)) ∧ (∀ y0 y1, LeO (tillerlaw01_FixNear.j1 k y0 y1) (tillerlaw01_FixNear.j1 (k + 1) y0 y1)) ∧ (∀ y0 y1 y2 y3, LeO (tillerlaw01_FixNear.j2 k y0 y1 y2 y3) (tillerlaw01_FixNear.j2 (k + 1) y0 y1 y2 y3))
 | 0 => ⟨fun _ _ _ _ _ r h => by simp [tillerlaw01_FixNear.j0] at h, fun _ _ r h => by simp [tillerlaw01_FixNear.j1] at h, fun _ _ _ _ r h => by simp [tillerlaw01_FixNear.j2] at h⟩
 | k + 1 => by
  obtain ⟨ih0, ih1, ih2⟩ := tillerlaw01_FixNear.mono_l k
  refine ⟨?_, ?_, ?_⟩
  ·intro y0 y1 y2 y3 y4
   unfold tillerlaw01_FixNear.j0
   repeat' first
   | (with_reducible exact ih0 _ _ _ _ _)
   | (with_reducible exact ih1 _ _)
   | (with_reducible exact ih2 _ _ _ _)
   | (with_reducible exact fix_Div.mono _ _ _)
   | (with_reducible exact fix_Round.mono _ _ _)
   | (with_reducible exact tillerlaw01_awake.mono _)
   | (with_reducible exact LeO.refl _)
   | (with_reducible exact LeO.none _)
   | (with_reducible refine LeO.ite ?_ ?_)
   | (with_reducible refine LeO.bind ?_ (fun _ => ?_))
   | exact ih0 _ _ _ _ _
   | exact ih1 _ _
   | exact ih2 _ _ _ _
   | exact fix_Div.mono _ _ _
   | exact fix_Round.mono _ _ _
   | exact tillerlaw01_awake.mono _
   | exact LeO.none _
   | refine LeO.ite ?_ ?_
   | refine LeO.bind ?_ (fun _ => ?_)
  ·intro y0 y1
   unfold tillerlaw01_FixNear.j1
   repeat' first
   | (with_reducible exact ih0 _ _ _ _ _)
   | (with_reducible exact ih1 _ _)
   | (with_reducible exact ih2 _ _ _ _)
   | (with_reducible exact fix_Div.mono _ _ _)
   | (with_reducible exact fix_Round.mono _ _ _)
   | (with_reducible exact tillerlaw01_awake.mono _)
   | (with_reducible exact LeO.refl _)
   | (with_reducible exact LeO.none _)
   | (with_reducible refine LeO.ite ?_ ?_)
   | (with_reducible refine LeO.bind ?_ (fun _ => ?_))
   | exact ih0 _ _ _ _ _
   | exact ih1 _ _
   | exact ih2 _ _ _ _
   | exact fix_Div.mono _ _ _
   | exact fix_Round.mono _ _ _
   | exact tillerlaw01_awake.mono _
   | exact LeO.none _
   | refine LeO.ite ?_ ?_
   | refine LeO.bind ?_ (fun _ => ?_)
  ·intro y0 y1 y2 y3
   unfold tillerlaw01_FixNear.j2
   repeat' first
   | (with_reducible exact ih0 _ _ _ _ _)
   | (with_reducible exact ih1 _ _)
   | (with_reducible exact ih2 _ _ _ _)
   | (with_reducible exact fix_Div.mono _ _ _)
   | (with_reducible exact fix_Round.mono _ _ _)
   | (with_reducible exact tillerlaw01_awake.mono _)
   | (with_reducible exact LeO.refl _)
   | (with_reducible exact LeO.none _)
   | (with_reducible refine LeO.ite ?_ ?_)
   | (with_reducible refine LeO.bind ?_ (fun _ => ?_))
   | exact ih0 _ _ _ _ _
   | exact ih1 _ _
   | exact ih2 _ _ _ _
   | exact fix_Div.mono _ _ _
   | exact fix_Round.mono _ _ _
   | exact tillerlaw01_awake.mono _
   | exact LeO.none _
   | refine LeO.ite ?_ ?_
   | refine LeO.bind ?_ (fun _ => ?_)
theorem tillerlaw01_FixNear.mono : ∀ a0 a1 a2 a3 k, LeO (tillerlaw01_FixNear.f k a0 a1 a2 a3) (tillerlaw01_FixNear.f (k + 1) a0 a1 a2 a3) := by
 intro a0 a1 a2 a3 k
 obtain ⟨ih0, ih1, ih2⟩ := tillerlaw01_FixNear.mono_l k
 unfold tillerlaw01_FixNear.f
 repeat' first
   | (with_reducible exact ih0 _ _ _ _ _)
   | (with_reducible exact ih1 _ _)
   | (with_reducible exact ih2 _ _ _ _)
   | (with_reducible exact fix_Div.mono _ _ _)
   | (with_reducible exact fix_Round.mono _ _ _)
   | (with_reducible exact tillerlaw01_awake.mono _)
   | (with_reducible exact LeO.refl _)
   | (with_reducible exact LeO.none _)
   | (with_reducible refine LeO.ite ?_ ?_)
   | (with_reducible refine LeO.bind ?_ (fun _ => ?_))
   | exact ih0 _ _ _ _ _
   | exact ih1 _ _
   | exact ih2 _ _ _ _
   | exact fix_Div.mono _ _ _
   | exact fix_Round.mono _ _ _
   | exact tillerlaw01_awake.mono _
   | exact LeO.none _
   | refine LeO.ite ?_ ?_
   | refine LeO.bind ?_ (fun _ => ?_)
set_option maxHeartbeats 8000000 in
set_option maxRecDepth 100000 in
theorem tillerlaw01_FixNear.calls (k : Nat) (a0 : Int) (a1 : Int) (a2 : Int) (a3 : Int) (r : Bool) (w : World) (hr_ : Aside0 (r = true)) (h : tillerlaw01_FixNear.f k a0 a1 a2 a3 = some r) :
  Calls Try.prog 4 #[.int .i64 a0, .int .i64 a1, .int .i32 a2, .int .i32 a3] w fun e w' => e = .returned (.bool r) ∧ Below w.heap.size w w' := by
 have HB := Aside0.mk (Below.refl w.heap.size w)
 have H : (if a1 ≥ 1 then (if a1 ≤ 2147483648 then (if a0 > (-2305843009213693952) then (tillerlaw01_FixNear.j0 k a0 a1 a2 a3 (decide (a0 < 2305843009213693952))) else (tillerlaw01_FixNear.j0 k a0 a1 a2 a3 false)) else (tillerlaw01_FixNear.j0 k a0 a1 a2 a3 false)) else (tillerlaw01_FixNear.j0 k a0 a1 a2 a3 false)) = some r := h
 clear h
 have HC5 := Aside0.mk H
 clear H
 go_enter Try.func4, Try.ntmps4
 go_upto_region 1 with (fail)
 go_cut [28] (fun v28 wc => ∃ (kq : Nat) (x28_4 : Bool), v28 = .bool x28_4 ∧ Aside0 (tillerlaw01_FixNear.j0 kq a0 a1 a2 a3 x28_4 = some r) ∧ Aside0 (kq ≤ k) ∧ Aside0 (Below w.heap.size w wc))
 case first =>
  have H := HC5.out
  clear HC5
  by_cases c6 : a1 ≥ 1
  ·rw [if_pos c6] at H
   have c6b0 : decide (1 ≤ a1) = true := decide_eq_true c6
   clear c6
   (first | rw [c6b0] | (simp only [i64_w, i32_w]; rw [c6b0]) | skip)
   by_cases c7 : a1 ≤ 2147483648
   ·rw [if_pos c7] at H
    have c7b0 : decide (a1 ≤ 2147483648) = true := decide_eq_true c7
    clear c7
    by_cases c8 : a0 > (-2305843009213693952)
    ·rw [if_pos c8] at H
     have c8b0 : decide ((-2305843009213693952) < a0) = true := decide_eq_true c8
     clear c8
     have H' := Aside0.mk H
     clear H
     go_wp2
     go_meet
     case rel => exact ⟨_, (decide (a0 < 2305843009213693952)), (by first | rfl | (simp; done) | (simp [*]; done)), H', ⟨by first | omega | exact Nat.le_refl _⟩, ⟨by repeat (first | (with_reducible first | exact HB.out | apply bwA | apply bwN | apply bwD) | exact HB.out)⟩⟩
    ·rw [if_neg c8] at H
     have c8b0 : decide ((-2305843009213693952) < a0) = false := decide_eq_false c8
     clear c8
     have H' := Aside0.mk H
     clear H
     go_wp2
     go_meet
     case rel => exact ⟨_, (false), (by first | rfl | (simp; done) | (simp [*]; done)), H', ⟨by first | omega | exact Nat.le_refl _⟩, ⟨by repeat (first | (with_reducible first | exact HB.out | apply bwA | apply bwN | apply bwD) | exact HB.out)⟩⟩
   ·rw [if_neg c7] at H
    have c7b0 : decide (a1 ≤ 2147483648) = false := decide_eq_false c7
    clear c7
    have H' := Aside0.mk H
    clear H
    go_wp2
    go_meet
    case rel => exact ⟨_, (false), (by first | rfl | (simp; done) | (simp [*]; done)), H', ⟨by first | omega | exact Nat.le_refl _⟩, ⟨by repeat (first | (with_reducible first | exact HB.out | apply bwA | apply bwN | apply bwD) | exact HB.out)⟩⟩
  ·rw [if_neg c6] at H
   have c6b0 : decide (1 ≤ a1) = false := decide_eq_false c6
   clear c6
   (first | rw [c6b0] | (simp only [i64_w, i32_w]; rw [c6b0]) | skip)
   have H' := Aside0.mk H
   clear H
   go_wp2
   go_meet
   case rel => exact ⟨_, (false), (by first | rfl | (simp; done) | (simp [*]; done)), H', ⟨by first | omega | exact Nat.le_refl _⟩, ⟨by repeat (first | (with_reducible first | exact HB.out | apply bwA | apply bwN | apply bwD) | exact HB.out)⟩⟩
 case rest =>
  clear HC5
  try clear p2
  try clear c4
  try clear c6
  try clear c6b0
  try clear c7
  try clear c7b0
  try clear c8
  try clear c8b0
  obtain ⟨kq, x28_4, rfl, HA, HJ4, HB⟩ := hcut
  cases kq with
  | zero => exact absurd HA.out (by simp [tillerlaw01_FixNear.j0])
  | succ kj4 =>
   have H := HA.out
   clear HA
   simp only [tillerlaw01_FixNear.j0] at H
   have HC9 := Aside0.mk H
   clear H
   go_upto_if 28 with (fail)
   go_cut [] (fun wc => ∃ (kq : Nat), Aside0 (tillerlaw01_FixNear.j1 kq a2 a3 = some r) ∧ Aside0 (kq ≤ kj4) ∧ Aside0 (Below w.heap.size w wc))
   case first =>
    have H := HC9.out
    clear HC9
    by_cases c10 : x28_4 = true
    ·subst c10
     have H1 : ((fix_Round.f kj4 a0 a1).bind fun t158 => (if (wrap64 (a0 - (wrap64 (t158 * a1)))) > (wrap64 (a1 - (wrap64 (a0 - (wrap64 (t158 * a1)))))) then (some false) else (if (wrap64 (-(wrap64 (a0 - (wrap64 (t158 * a1)))))) > (wrap64 (a1 + (wrap64 (a0 - (wrap64 (t158 * a1)))))) then (some false) else (if (wrap64 (a0 - (wrap64 (t158 * a1)))) = (wrap64 (a1 - (wrap64 (a0 - (wrap64 (t158 * a1)))))) then (if a0 > 0 then (some false) else (if (wrap64 (-(wrap64 (a0 - (wrap64 (t158 * a1)))))) = (wrap64 (a1 + (wrap64 (a0 - (wrap64 (t158 * a1)))))) then (if a0 < 0 then (some false) else (tillerlaw01_FixNear.j1 kj4 a2 a3)) else (tillerlaw01_FixNear.j1 kj4 a2 a3))) else (if (wrap64 (-(wrap64 (a0 - (wrap64 (t158 * a1)))))) = (wrap64 (a1 + (wrap64 (a0 - (wrap64 (t158 * a1)))))) then (if a0 < 0 then (some false) else (tillerlaw01_FixNear.j1 kj4 a2 a3)) else (tillerlaw01_FixNear.j1 kj4 a2 a3)))))) = some r := by rw [if_pos rfl] at H; exact H
     clear H
     have H := H1
     clear H1
     replace H := Option.bind_eq_some_iff.mp H
     obtain ⟨t158, A110, H⟩ := H
     replace H : (if (wrap64 (a0 - (wrap64 (t158 * a1)))) > (wrap64 (a1 - (wrap64 (a0 - (wrap64 (t158 * a1)))))) then (some false) else (if (wrap64 (-(wrap64 (a0 - (wrap64 (t158 * a1)))))) > (wrap64 (a1 + (wrap64 (a0 - (wrap64 (t158 * a1)))))) then (some false) else (if (wrap64 (a0 - (wrap64 (t158 * a1)))) = (wrap64 (a1 - (wrap64 (a0 - (wrap64 (t158 * a1)))))) then (if a0 > 0 then (some false) else (if (wrap64 (-(wrap64 (a0 - (wrap64 (t158 * a1)))))) = (wrap64 (a1 + (wrap64 (a0 - (wrap64 (t158 * a1)))))) then (if a0 < 0 then (some false) else (tillerlaw01_FixNear.j1 kj4 a2 a3)) else (tillerlaw01_FixNear.j1 kj4 a2 a3))) else (if (wrap64 (-(wrap64 (a0 - (wrap64 (t158 * a1)))))) = (wrap64 (a1 + (wrap64 (a0 - (wrap64 (t158 * a1)))))) then (if a0 < 0 then (some false) else (tillerlaw01_FixNear.j1 kj4 a2 a3)) else (tillerlaw01_FixNear.j1 kj4 a2 a3))))) = some r := H
     have A11 := Aside0.mk A110
     clear A110
     by_cases c12 : (wrap64 (a0 - (wrap64 (t158 * a1)))) > (wrap64 (a1 - (wrap64 (a0 - (wrap64 (t158 * a1))))))
     ·rw [if_pos c12] at H
      exact absurd (Option.some.inj H) (by rw [hr_.out]; decide)
     ·rw [if_neg c12] at H
      have c12b0 : decide ((wrap64 (a1 - (wrap64 (a0 - (wrap64 (t158 * a1)))))) < (wrap64 (a0 - (wrap64 (t158 * a1))))) = false := decide_eq_false c12
      clear c12
      (first | rw [c12b0] | (simp only [i64_w, i32_w]; rw [c12b0]) | skip)
      by_cases c13 : (wrap64 (-(wrap64 (a0 - (wrap64 (t158 * a1)))))) > (wrap64 (a1 + (wrap64 (a0 - (wrap64 (t158 * a1))))))
      ·rw [if_pos c13] at H
       exact absurd (Option.some.inj H) (by rw [hr_.out]; decide)
      ·rw [if_neg c13] at H
       have c13b0 : decide ((wrap64 (a1 + (wrap64 (a0 - (wrap64 (t158 * a1)))))) < (wrap64 (-(wrap64 (a0 - (wrap64 (t158 * a1))))))) = false := decide_eq_false c13
       clear c13
       by_cases c14 : (wrap64 (a0 - (wrap64 (t158 * a1)))) = (wrap64 (a1 - (wrap64 (a0 - (wrap64 (t158 * a1))))))
       ·rw [if_pos c14] at H
        have c14b0 : ((wrap64 (a0 - (wrap64 (t158 * a1)))) == (wrap64 (a1 - (wrap64 (a0 - (wrap64 (t158 * a1))))))) = true := beq_iff_eq.mpr c14
        have c14b1 : ((wrap64 (a0 - (wrap64 (t158 * a1)))) != (wrap64 (a1 - (wrap64 (a0 - (wrap64 (t158 * a1))))))) = false := bne_eq_false_iff_eq.mpr c14
        clear c14
        by_cases c15 : a0 > 0
        ·rw [if_pos c15] at H
         exact absurd (Option.some.inj H) (by rw [hr_.out]; decide)
        ·rw [if_neg c15] at H
         have c15b0 : decide (0 < a0) = false := decide_eq_false c15
         clear c15
         by_cases c16 : (wrap64 (-(wrap64 (a0 - (wrap64 (t158 * a1)))))) = (wrap64 (a1 + (wrap64 (a0 - (wrap64 (t158 * a1))))))
         ·rw [if_pos c16] at H
          have c16b0 : ((wrap64 (-(wrap64 (a0 - (wrap64 (t158 * a1)))))) == (wrap64 (a1 + (wrap64 (a0 - (wrap64 (t158 * a1))))))) = true := beq_iff_eq.mpr c16
          have c16b1 : ((wrap64 (-(wrap64 (a0 - (wrap64 (t158 * a1)))))) != (wrap64 (a1 + (wrap64 (a0 - (wrap64 (t158 * a1))))))) = false := bne_eq_false_iff_eq.mpr c16
          clear c16
          by_cases c17 : a0 < 0
          ·rw [if_pos c17] at H
           exact absurd (Option.some.inj H) (by rw [hr_.out]; decide)
          ·rw [if_neg c17] at H
           have c17b0 : decide (a0 < 0) = false := decide_eq_false c17
           clear c17
           have H' := Aside0.mk H
           clear H
           go_wp2_with (first | ((with_reducible refine gate_callee (f := 16) rfl ?_); refine goesL_ (some 31) rfl rfl Try.func16 (by kernel_rfl) rfl #[.int .i64 a0, .int .i64 a1] rfl (by (try simp only [List.map_toArray, List.map_cons, List.map_nil]); first | done | rfl | (simp only [List.length_drop, List.length_take]; rfl)) ?_; (with_reducible refine (fix_Round.calls kj4 a0 a1 t158 _ A11.out).mono ?_); rintro e w' ⟨rfl, ⟨nd, rfl⟩⟩; refine ⟨_, rfl, ?_⟩))
           go_meet
           case rel => exact ⟨_, H', ⟨by have := HJ4.out; first | omega | exact Nat.le_refl _⟩, ⟨by repeat (first | (with_reducible first | exact HB.out | apply bwA | apply bwN | apply bwD) | exact HB.out)⟩⟩
         ·rw [if_neg c16] at H
          have c16b0 : ((wrap64 (-(wrap64 (a0 - (wrap64 (t158 * a1)))))) == (wrap64 (a1 + (wrap64 (a0 - (wrap64 (t158 * a1))))))) = false := beq_eq_false_iff_ne.mpr c16
          have c16b1 : ((wrap64 (-(wrap64 (a0 - (wrap64 (t158 * a1)))))) != (wrap64 (a1 + (wrap64 (a0 - (wrap64 (t158 * a1))))))) = true := bne_iff_ne.mpr c16
          have H' := Aside0.mk H
          clear H
          go_wp2_with (first | ((with_reducible refine gate_callee (f := 16) rfl ?_); refine goesL_ (some 31) rfl rfl Try.func16 (by kernel_rfl) rfl #[.int .i64 a0, .int .i64 a1] rfl (by (try simp only [List.map_toArray, List.map_cons, List.map_nil]); first | done | rfl | (simp only [List.length_drop, List.length_take]; rfl)) ?_; (with_reducible refine (fix_Round.calls kj4 a0 a1 t158 _ A11.out).mono ?_); rintro e w' ⟨rfl, ⟨nd, rfl⟩⟩; refine ⟨_, rfl, ?_⟩))
          go_meet
          case rel => exact ⟨_, H', ⟨by have := HJ4.out; first | omega | exact Nat.le_refl _⟩, ⟨by repeat (first | (with_reducible first | exact HB.out | apply bwA | apply bwN | apply bwD) | exact HB.out)⟩⟩
       ·rw [if_neg c14] at H
        have c14b0 : ((wrap64 (a0 - (wrap64 (t158 * a1)))) == (wrap64 (a1 - (wrap64 (a0 - (wrap64 (t158 * a1))))))) = false := beq_eq_false_iff_ne.mpr c14
        have c14b1 : ((wrap64 (a0 - (wrap64 (t158 * a1)))) != (wrap64 (a1 - (wrap64 (a0 - (wrap64 (t158 * a1))))))) = true := bne_iff_ne.mpr c14
        by_cases c18 : (wrap64 (-(wrap64 (a0 - (wrap64 (t158 * a1)))))) = (wrap64 (a1 + (wrap64 (a0 - (wrap64 (t158 * a1))))))
        ·rw [if_pos c18] at H
         have c18b0 : ((wrap64 (-(wrap64 (a0 - (wrap64 (t158 * a1)))))) == (wrap64 (a1 + (wrap64 (a0 - (wrap64 (t158 * a1))))))) = true := beq_iff_eq.mpr c18
         have c18b1 : ((wrap64 (-(wrap64 (a0 - (wrap64 (t158 * a1)))))) != (wrap64 (a1 + (wrap64 (a0 - (wrap64 (t158 * a1))))))) = false := bne_eq_false_iff_eq.mpr c18
         clear c18
         by_cases c19 : a0 < 0
         ·rw [if_pos c19] at H
          exact absurd (Option.some.inj H) (by rw [hr_.out]; decide)
         ·rw [if_neg c19] at H
          have c19b0 : decide (a0 < 0) = false := decide_eq_false c19
          clear c19
          have H' := Aside0.mk H
          clear H
          go_wp2_with (first | ((with_reducible refine gate_callee (f := 16) rfl ?_); refine goesL_ (some 31) rfl rfl Try.func16 (by kernel_rfl) rfl #[.int .i64 a0, .int .i64 a1] rfl (by (try simp only [List.map_toArray, List.map_cons, List.map_nil]); first | done | rfl | (simp only [List.length_drop, List.length_take]; rfl)) ?_; (with_reducible refine (fix_Round.calls kj4 a0 a1 t158 _ A11.out).mono ?_); rintro e w' ⟨rfl, ⟨nd, rfl⟩⟩; refine ⟨_, rfl, ?_⟩))
          go_meet
          case rel => exact ⟨_, H', ⟨by have := HJ4.out; first | omega | exact Nat.le_refl _⟩, ⟨by repeat (first | (with_reducible first | exact HB.out | apply bwA | apply bwN | apply bwD) | exact HB.out)⟩⟩
        ·rw [if_neg c18] at H
         have c18b0 : ((wrap64 (-(wrap64 (a0 - (wrap64 (t158 * a1)))))) == (wrap64 (a1 + (wrap64 (a0 - (wrap64 (t158 * a1))))))) = false := beq_eq_false_iff_ne.mpr c18
         have c18b1 : ((wrap64 (-(wrap64 (a0 - (wrap64 (t158 * a1)))))) != (wrap64 (a1 + (wrap64 (a0 - (wrap64 (t158 * a1))))))) = true := bne_iff_ne.mpr c18
         have H' := Aside0.mk H
         clear H
         go_wp2_with (first | ((with_reducible refine gate_callee (f := 16) rfl ?_); refine goesL_ (some 31) rfl rfl Try.func16 (by kernel_rfl) rfl #[.int .i64 a0, .int .i64 a1] rfl (by (try simp only [List.map_toArray, List.map_cons, List.map_nil]); first | done | rfl | (simp only [List.length_drop, List.length_take]; rfl)) ?_; (with_reducible refine (fix_Round.calls kj4 a0 a1 t158 _ A11.out).mono ?_); rintro e w' ⟨rfl, ⟨nd, rfl⟩⟩; refine ⟨_, rfl, ?_⟩))
         go_meet
         case rel => exact ⟨_, H', ⟨by have := HJ4.out; first | omega | exact Nat.le_refl _⟩, ⟨by repeat (first | (with_reducible first | exact HB.out | apply bwA | apply bwN | apply bwD) | exact HB.out)⟩⟩
    ·replace c10 := Bool.eq_false_iff.mpr c10
     subst c10
     have H1 : (tillerlaw01_FixNear.j1 kj4 a2 a3) = some r := by rw [if_neg (show ¬ (false = true) by decide)] at H; exact H
     clear H
     have H := H1
     clear H1
     have H' := Aside0.mk H
     clear H
     go_wp2
     go_meet
     case rel => exact ⟨_, H', ⟨by have := HJ4.out; first | omega | exact Nat.le_refl _⟩, ⟨by repeat (first | (with_reducible first | exact HB.out | apply bwA | apply bwN | apply bwD) | exact HB.out)⟩⟩
   case rest =>
    clear HC9
    try clear c1
    try clear p2
    try clear c4
    try clear c6
    try clear c6b0
    try clear p6
    try clear c7
    try clear c7b0
    try clear c8
    try clear c8b0
    try clear c10
    try clear c12
    try clear c12b0
    try clear c13
    try clear c13b0
    try clear c14
    try clear c14b0
    try clear c14b1
    try clear c15
    try clear c15b0
    try clear c16
    try clear c16b0
    try clear c16b1
    try clear c17
    try clear c17b0
    try clear c18
    try clear c18b0
    try clear c18b1
    try clear c19
    try clear c19b0
    try clear p2
    obtain ⟨kq, HA, HJ8, HB⟩ := hcut
    cases kq with
    | zero => exact absurd HA.out (by simp [tillerlaw01_FixNear.j1])
    | succ kj8 =>
     have H := HA.out
     clear HA
     simp only [tillerlaw01_FixNear.j1] at H
     replace H := Option.bind_eq_some_iff.mp H
     obtain ⟨⟨t159, t160⟩, A200, H⟩ := H
     replace H : (if t160 = 0 then (if t159 = 2147483647 then (tillerlaw01_FixNear.j2 kj8 a2 a3 t159 true) else (if t159 = (-2147483647) then (tillerlaw01_FixNear.j2 kj8 a2 a3 t159 true) else (tillerlaw01_FixNear.j2 kj8 a2 a3 t159 (t159 == 0)))) else (tillerlaw01_FixNear.j2 kj8 a2 a3 t159 true)) = some r := H
     have A20 := Aside0.mk A200
     clear A200
     have HC21 := Aside0.mk H
     clear H
     go_upto_region 7 with (first | ((with_reducible refine gate_callee (f := 11) rfl ?_); refine goesL_ (some 76) rfl rfl Try.func11 (by kernel_rfl) rfl #[.int .i32 a2, .int .i32 a3] rfl (by (try simp only [List.map_toArray, List.map_cons, List.map_nil]); first | done | rfl | (simp only [List.length_drop, List.length_take]; rfl)) ?_; (with_reducible refine (fix_Div.calls kj8 a2 a3 t159 t160 _ A20.out).mono ?_); rintro e w22 ⟨rfl, hb⟩; refine ⟨_, rfl, ?_⟩; have n0_ := Aside0.mk (below_step (by repeat (first | (with_reducible first | exact HB.out | apply bwA | apply bwN | apply bwD) | exact HB.out)) hb); clear HB; have HB := n0_; clear n0_; (try clear hb); (try clear hb2); (try clear hk); (try clear hi)))
     (try simp only [Act.put, List.setIfInBounds_toArray, List.set_cons_zero, List.set_cons_succ])
     go_cut [92] (fun v92 wc => ∃ (kq : Nat) (x92_20 : Bool), v92 = .bool x92_20 ∧ Aside0 (tillerlaw01_FixNear.j2 kq a2 a3 t159 x92_20 = some r) ∧ Aside0 (kq ≤ kj8) ∧ Aside0 (Below w.heap.size w wc))
     case first =>
      have H := HC21.out
      clear HC21
      by_cases c23 : t160 = 0
      ·rw [if_pos c23] at H
       have c23b0 : (t160 == 0) = true := beq_iff_eq.mpr c23
       have c23b1 : (t160 != 0) = false := bne_eq_false_iff_eq.mpr c23
       clear c23
       (first | rw [c23b0] | (simp only [i64_w, i32_w]; rw [c23b0]) | skip)
       by_cases c24 : t159 = 2147483647
       ·rw [if_pos c24] at H
        have c24b0 : (t159 == 2147483647) = true := beq_iff_eq.mpr c24
        have c24b1 : (t159 != 2147483647) = false := bne_eq_false_iff_eq.mpr c24
        clear c24
        have H' := Aside0.mk H
        clear H
        go_wp2
        go_meet
        case rel => exact ⟨_, (true), (by first | rfl | (simp; done) | (simp [*]; done)), H', ⟨by have := HJ4.out; have := HJ8.out; first | omega | exact Nat.le_refl _⟩, ⟨by repeat (first | (with_reducible first | exact HB.out | apply bwA | apply bwN | apply bwD) | exact HB.out)⟩⟩
       ·rw [if_neg c24] at H
        have c24b0 : (t159 == 2147483647) = false := beq_eq_false_iff_ne.mpr c24
        have c24b1 : (t159 != 2147483647) = true := bne_iff_ne.mpr c24
        by_cases c25 : t159 = (-2147483647)
        ·rw [if_pos c25] at H
         have c25b0 : (t159 == (-2147483647)) = true := beq_iff_eq.mpr c25
         have c25b1 : (t159 != (-2147483647)) = false := bne_eq_false_iff_eq.mpr c25
         clear c25
         have H' := Aside0.mk H
         clear H
         go_wp2
         go_meet
         case rel => exact ⟨_, (true), (by first | rfl | (simp; done) | (simp [*]; done)), H', ⟨by have := HJ4.out; have := HJ8.out; first | omega | exact Nat.le_refl _⟩, ⟨by repeat (first | (with_reducible first | exact HB.out | apply bwA | apply bwN | apply bwD) | exact HB.out)⟩⟩
        ·rw [if_neg c25] at H
         have c25b0 : (t159 == (-2147483647)) = false := beq_eq_false_iff_ne.mpr c25
         have c25b1 : (t159 != (-2147483647)) = true := bne_iff_ne.mpr c25
         have H' := Aside0.mk H
         clear H
         go_wp2
         go_meet
         case rel => exact ⟨_, ((t159 == 0)), (by first | rfl | (simp; done) | (simp [*]; done)), H', ⟨by have := HJ4.out; have := HJ8.out; first | omega | exact Nat.le_refl _⟩, ⟨by repeat (first | (with_reducible first | exact HB.out | apply bwA | apply bwN | apply bwD) | exact HB.out)⟩⟩
      ·rw [if_neg c23] at H
       have c23b0 : (t160 == 0) = false := beq_eq_false_iff_ne.mpr c23
       have c23b1 : (t160 != 0) = true := bne_iff_ne.mpr c23
       (first | rw [c23b0] | (simp only [i64_w, i32_w]; rw [c23b0]) | skip)
       have H' := Aside0.mk H
       clear H
       go_wp2
       go_meet
       case rel => exact ⟨_, (true), (by first | rfl | (simp; done) | (simp [*]; done)), H', ⟨by have := HJ4.out; have := HJ8.out; first | omega | exact Nat.le_refl _⟩, ⟨by repeat (first | (with_reducible first | exact HB.out | apply bwA | apply bwN | apply bwD) | exact HB.out)⟩⟩
     case rest =>
      clear HC21
      try clear c1
      try clear c2
      try clear p2
      try clear c4
      try clear c6
      try clear c6b0
      try clear p6
      try clear c7
      try clear c7b0
      try clear c8
      try clear c8b0
      try clear c10
      try clear c11
      try clear c12
      try clear c12b0
      try clear c13
      try clear c13b0
      try clear c14
      try clear c14b0
      try clear c14b1
      try clear c15
      try clear c15b0
      try clear c16
      try clear c16b0
      try clear c16b1
      try clear c17
      try clear c17b0
      try clear c18
      try clear c18b0
      try clear c18b1
      try clear c19
      try clear c19b0
      try clear c23
      try clear c23b0
      try clear c23b1
      try clear c24
      try clear c24b0
      try clear c24b1
      try clear c25
      try clear c25b0
      try clear c25b1
      try clear p2
      try clear p6
      obtain ⟨kq, x92_20, rfl, HA, HJ20, HB⟩ := hcut
      cases kq with
      | zero => exact absurd HA.out (by simp [tillerlaw01_FixNear.j2])
      | succ kj20 =>
       have H := HA.out
       clear HA
       simp only [tillerlaw01_FixNear.j2] at H
       by_cases c26 : x92_20 = true
       ·subst c26
        have H1 : ((tillerlaw01_awake.f kj20).bind fun t161 => (some t161)) = some r := by rw [if_pos rfl] at H; exact H
        clear H
        have H := H1
        clear H1
        replace H := Option.bind_eq_some_iff.mp H
        obtain ⟨t161, A270, H⟩ := H
        replace H : (some t161) = some r := H
        have A27 := Aside0.mk A270
        clear A270
        obtain rfl := Option.some.inj H
        go_wp2_with (first | ((with_reducible refine gate_callee (f := 12) rfl ?_); refine goesL_ (some 93) rfl rfl Try.func12 (by kernel_rfl) rfl #[] rfl (by (try simp only [List.map_toArray, List.map_cons, List.map_nil]); first | done | rfl | (simp only [List.length_drop, List.length_take]; rfl)) ?_; (with_reducible refine (tillerlaw01_awake.calls kj20  t161 _ A27.out).mono ?_); rintro e w28 ⟨rfl, hb⟩; refine ⟨_, rfl, ?_⟩; have n0_ := Aside0.mk (below_step (by repeat (first | (with_reducible first | exact HB.out | apply bwA | apply bwN | apply bwD) | exact HB.out)) hb); clear HB; have HB := n0_; clear n0_; (try clear hb); (try clear hb2); (try clear hk); (try clear hi)))
        go_ret
        exact ⟨by first | rfl | (simp [errW_none, errW_some] <;> rfl) | (simp [*, errW_none, errW_some] <;> rfl), by repeat (first | (with_reducible first | exact HB.out | apply bwA | apply bwN | apply bwD) | exact HB.out)⟩
       ·replace c26 := Bool.eq_false_iff.mpr c26
        subst c26
        have H1 : (if (wrap64 ((wrap64 ((wrap64 (t159)) * (wrap64 (a3)))) - (wrap64 ((wrap64 (a2)) * 65536)))) < 0 then (if (wrap64 (a3)) < 0 then ((tillerlaw01_awake.f kj20).bind fun t162 => (if t162 = true then (some (decide ((wrap64 (2 * (wrap64 (-(wrap64 ((wrap64 ((wrap64 (t159)) * (wrap64 (a3)))) - (wrap64 ((wrap64 (a2)) * 65536)))))))) ≤ (wrap64 (-(wrap64 (a3))))))) else (some false))) else ((tillerlaw01_awake.f kj20).bind fun t163 => (if t163 = true then (some (decide ((wrap64 (2 * (wrap64 (-(wrap64 ((wrap64 ((wrap64 (t159)) * (wrap64 (a3)))) - (wrap64 ((wrap64 (a2)) * 65536)))))))) ≤ (wrap64 (a3))))) else (some false)))) else (if (wrap64 (a3)) < 0 then ((tillerlaw01_awake.f kj20).bind fun t164 => (if t164 = true then (some (decide ((wrap64 (2 * (wrap64 ((wrap64 ((wrap64 (t159)) * (wrap64 (a3)))) - (wrap64 ((wrap64 (a2)) * 65536)))))) ≤ (wrap64 (-(wrap64 (a3))))))) else (some false))) else ((tillerlaw01_awake.f kj20).bind fun t165 => (if t165 = true then (some (decide ((wrap64 (2 * (wrap64 ((wrap64 ((wrap64 (t159)) * (wrap64 (a3)))) - (wrap64 ((wrap64 (a2)) * 65536)))))) ≤ (wrap64 (a3))))) else (some false))))) = some r := by rw [if_neg (show ¬ (false = true) by decide)] at H; exact H
        clear H
        have H := H1
        clear H1
        by_cases c29 : (wrap64 ((wrap64 ((wrap64 (t159)) * (wrap64 (a3)))) - (wrap64 ((wrap64 (a2)) * 65536)))) < 0
        ·rw [if_pos c29] at H
         have c29b0 : decide ((wrap64 ((wrap64 ((wrap64 (t159)) * (wrap64 (a3)))) - (wrap64 ((wrap64 (a2)) * 65536)))) < 0) = true := decide_eq_true c29
         clear c29
         by_cases c30 : (wrap64 (a3)) < 0
         ·rw [if_pos c30] at H
          have c30b0 : decide ((wrap64 (a3)) < 0) = true := decide_eq_true c30
          clear c30
          replace H := Option.bind_eq_some_iff.mp H
          obtain ⟨t162, A310, H⟩ := H
          replace H : (if t162 = true then (some (decide ((wrap64 (2 * (wrap64 (-(wrap64 ((wrap64 ((wrap64 (t159)) * (wrap64 (a3)))) - (wrap64 ((wrap64 (a2)) * 65536)))))))) ≤ (wrap64 (-(wrap64 (a3))))))) else (some false)) = some r := H
          have A31 := Aside0.mk A310
          clear A310
          by_cases c32 : t162 = true
          ·subst c32
           have H1 : (some (decide ((wrap64 (2 * (wrap64 (-(wrap64 ((wrap64 ((wrap64 (t159)) * (wrap64 (a3)))) - (wrap64 ((wrap64 (a2)) * 65536)))))))) ≤ (wrap64 (-(wrap64 (a3))))))) = some r := by rw [if_pos rfl] at H; exact H
           clear H
           have H := H1
           clear H1
           obtain rfl := Option.some.inj H
           go_wp2_with (first | ((with_reducible refine gate_callee (f := 12) rfl ?_); refine goesL_ (some 113) rfl rfl Try.func12 (by kernel_rfl) rfl #[] rfl (by (try simp only [List.map_toArray, List.map_cons, List.map_nil]); first | done | rfl | (simp only [List.length_drop, List.length_take]; rfl)) ?_; (with_reducible refine (tillerlaw01_awake.calls kj20  true _ A31.out).mono ?_); rintro e w33 ⟨rfl, hb⟩; refine ⟨_, rfl, ?_⟩; have n0_ := Aside0.mk (below_step (by repeat (first | (with_reducible first | exact HB.out | apply bwA | apply bwN | apply bwD) | exact HB.out)) hb); clear HB; have HB := n0_; clear n0_; (try clear hb); (try clear hb2); (try clear hk); (try clear hi)))
           go_ret
           exact ⟨by first | rfl | (simp [errW_none, errW_some] <;> rfl) | (simp [*, errW_none, errW_some] <;> rfl), by repeat (first | (with_reducible first | exact HB.out | apply bwA | apply bwN | apply bwD) | exact HB.out)⟩
          ·replace c32 := Bool.eq_false_iff.mpr c32
           subst c32
           have H1 : (some false) = some r := by rw [if_neg (show ¬ (false = true) by decide)] at H; exact H
           clear H
           have H := H1
           clear H1
           exact absurd (Option.some.inj H) (by rw [hr_.out]; decide)
         ·rw [if_neg c30] at H
          have c30b0 : decide ((wrap64 (a3)) < 0) = false := decide_eq_false c30
          clear c30
          replace H := Option.bind_eq_some_iff.mp H
          obtain ⟨t163, A340, H⟩ := H
          replace H : (if t163 = true then (some (decide ((wrap64 (2 * (wrap64 (-(wrap64 ((wrap64 ((wrap64 (t159)) * (wrap64 (a3)))) - (wrap64 ((wrap64 (a2)) * 65536)))))))) ≤ (wrap64 (a3))))) else (some false)) = some r := H
          have A34 := Aside0.mk A340
          clear A340
          by_cases c35 : t163 = true
          ·subst c35
           have H1 : (some (decide ((wrap64 (2 * (wrap64 (-(wrap64 ((wrap64 ((wrap64 (t159)) * (wrap64 (a3)))) - (wrap64 ((wrap64 (a2)) * 65536)))))))) ≤ (wrap64 (a3))))) = some r := by rw [if_pos rfl] at H; exact H
           clear H
           have H := H1
           clear H1
           obtain rfl := Option.some.inj H
           go_wp2_with (first | ((with_reducible refine gate_callee (f := 12) rfl ?_); refine goesL_ (some 113) rfl rfl Try.func12 (by kernel_rfl) rfl #[] rfl (by (try simp only [List.map_toArray, List.map_cons, List.map_nil]); first | done | rfl | (simp only [List.length_drop, List.length_take]; rfl)) ?_; (with_reducible refine (tillerlaw01_awake.calls kj20  true _ A34.out).mono ?_); rintro e w36 ⟨rfl, hb⟩; refine ⟨_, rfl, ?_⟩; have n0_ := Aside0.mk (below_step (by repeat (first | (with_reducible first | exact HB.out | apply bwA | apply bwN | apply bwD) | exact HB.out)) hb); clear HB; have HB := n0_; clear n0_; (try clear hb); (try clear hb2); (try clear hk); (try clear hi)))
           go_ret
           exact ⟨by first | rfl | (simp [errW_none, errW_some] <;> rfl) | (simp [*, errW_none, errW_some] <;> rfl), by repeat (first | (with_reducible first | exact HB.out | apply bwA | apply bwN | apply bwD) | exact HB.out)⟩
          ·replace c35 := Bool.eq_false_iff.mpr c35
           subst c35
           have H1 : (some false) = some r := by rw [if_neg (show ¬ (false = true) by decide)] at H; exact H
           clear H
           have H := H1
           clear H1
           exact absurd (Option.some.inj H) (by rw [hr_.out]; decide)
        ·rw [if_neg c29] at H
         have c29b0 : decide ((wrap64 ((wrap64 ((wrap64 (t159)) * (wrap64 (a3)))) - (wrap64 ((wrap64 (a2)) * 65536)))) < 0) = false := decide_eq_false c29
         clear c29
         by_cases c37 : (wrap64 (a3)) < 0
         ·rw [if_pos c37] at H
          have c37b0 : decide ((wrap64 (a3)) < 0) = true := decide_eq_true c37
          clear c37
          replace H := Option.bind_eq_some_iff.mp H
          obtain ⟨t164, A380, H⟩ := H
          replace H : (if t164 = true then (some (decide ((wrap64 (2 * (wrap64 ((wrap64 ((wrap64 (t159)) * (wrap64 (a3)))) - (wrap64 ((wrap64 (a2)) * 65536)))))) ≤ (wrap64 (-(wrap64 (a3))))))) else (some false)) = some r := H
          have A38 := Aside0.mk A380
          clear A380
          by_cases c39 : t164 = true
          ·subst c39
           have H1 : (some (decide ((wrap64 (2 * (wrap64 ((wrap64 ((wrap64 (t159)) * (wrap64 (a3)))) - (wrap64 ((wrap64 (a2)) * 65536)))))) ≤ (wrap64 (-(wrap64 (a3))))))) = some r := by rw [if_pos rfl] at H; exact H
           clear H
           have H := H1
           clear H1
           obtain rfl := Option.some.inj H
           go_wp2_with (first | ((with_reducible refine gate_callee (f := 12) rfl ?_); refine goesL_ (some 113) rfl rfl Try.func12 (by kernel_rfl) rfl #[] rfl (by (try simp only [List.map_toArray, List.map_cons, List.map_nil]); first | done | rfl | (simp only [List.length_drop, List.length_take]; rfl)) ?_; (with_reducible refine (tillerlaw01_awake.calls kj20  true _ A38.out).mono ?_); rintro e w40 ⟨rfl, hb⟩; refine ⟨_, rfl, ?_⟩; have n0_ := Aside0.mk (below_step (by repeat (first | (with_reducible first | exact HB.out | apply bwA | apply bwN | apply bwD) | exact HB.out)) hb); clear HB; have HB := n0_; clear n0_; (try clear hb); (try clear hb2); (try clear hk); (try clear hi)))
           go_ret
           exact ⟨by first | rfl | (simp [errW_none, errW_some] <;> rfl) | (simp [*, errW_none, errW_some] <;> rfl), by repeat (first | (with_reducible first | exact HB.out | apply bwA | apply bwN | apply bwD) | exact HB.out)⟩
          ·replace c39 := Bool.eq_false_iff.mpr c39
           subst c39
           have H1 : (some false) = some r := by rw [if_neg (show ¬ (false = true) by decide)] at H; exact H
           clear H
           have H := H1
           clear H1
           exact absurd (Option.some.inj H) (by rw [hr_.out]; decide)
         ·rw [if_neg c37] at H
          have c37b0 : decide ((wrap64 (a3)) < 0) = false := decide_eq_false c37
          clear c37
          replace H := Option.bind_eq_some_iff.mp H
          obtain ⟨t165, A410, H⟩ := H
          replace H : (if t165 = true then (some (decide ((wrap64 (2 * (wrap64 ((wrap64 ((wrap64 (t159)) * (wrap64 (a3)))) - (wrap64 ((wrap64 (a2)) * 65536)))))) ≤ (wrap64 (a3))))) else (some false)) = some r := H
          have A41 := Aside0.mk A410
          clear A410
          by_cases c42 : t165 = true
          ·subst c42
           have H1 : (some (decide ((wrap64 (2 * (wrap64 ((wrap64 ((wrap64 (t159)) * (wrap64 (a3)))) - (wrap64 ((wrap64 (a2)) * 65536)))))) ≤ (wrap64 (a3))))) = some r := by rw [if_pos rfl] at H; exact H
           clear H
           have H := H1
           clear H1
           obtain rfl := Option.some.inj H
           go_wp2_with (first | ((with_reducible refine gate_callee (f := 12) rfl ?_); refine goesL_ (some 113) rfl rfl Try.func12 (by kernel_rfl) rfl #[] rfl (by (try simp only [List.map_toArray, List.map_cons, List.map_nil]); first | done | rfl | (simp only [List.length_drop, List.length_take]; rfl)) ?_; (with_reducible refine (tillerlaw01_awake.calls kj20  true _ A41.out).mono ?_); rintro e w43 ⟨rfl, hb⟩; refine ⟨_, rfl, ?_⟩; have n0_ := Aside0.mk (below_step (by repeat (first | (with_reducible first | exact HB.out | apply bwA | apply bwN | apply bwD) | exact HB.out)) hb); clear HB; have HB := n0_; clear n0_; (try clear hb); (try clear hb2); (try clear hk); (try clear hi)))
           go_ret
           exact ⟨by first | rfl | (simp [errW_none, errW_some] <;> rfl) | (simp [*, errW_none, errW_some] <;> rfl), by repeat (first | (with_reducible first | exact HB.out | apply bwA | apply bwN | apply bwD) | exact HB.out)⟩
          ·replace c42 := Bool.eq_false_iff.mpr c42
           subst c42
           have H1 : (some false) = some r := by rw [if_neg (show ¬ (false = true) by decide)] at H; exact H
           clear H
           have H := H1
           clear H1
           exact absurd (Option.some.inj H) (by rw [hr_.out]; decide)

end Go.Proofs.Ytnhapgenebcjmaa.GQ
