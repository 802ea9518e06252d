-- written by this session's program gprint.py
import Derived.Test.YtnhapgenebcjmaaGVx0
import Derived.Test.YtnhapgenebcjmaaGVx1
import Derived.Test.YtnhapgenebcjmaaGVx4
import Derived.Test.YtnhapgenebcjmaaGVx5
import Derived.Test.YtnhapgenebcjmaaWLast
import Derived.Test.YtnhapgenebcjmaaWMore
import Derived.Test.YtnhapgenebcjmaaWWords
namespace Go.Proofs.Ytnhapgenebcjmaa.GV
open Go.RowKit Go.Proofs.YtnhapgenebcjmaaW.PrintWords Go.Proofs.YtnhapgenebcjmaaW.PrintLast Go.Proofs.YtnhapgenebcjmaaW.PrintMore Go.Proofs.Ytnhapgenebcjmaa.GText Go.Proofs.Ytnhapgenebcjmaa.GParse Go.Proofs.Ytnhapgenebcjmaa.GForm
attribute [local go_sem] max2_int min2_int max_two min_two max_three min_three max_four min_four   -- for this text's walks alone
set_option linter.unusedVariables false
set_option linter.unusedSimpArgs false

/-! ### tillerlaw01_FixTexts: function 8 -/
mutual
def tillerlaw01_FixTexts.j0 : Nat → Int → ByteArray → Option (Bool)
 | 0, _, _ => none
 | k + 1, x0, x1 => (fix_Text.f x0).bind fun t129 => ((fix_Parse.f x1).bind fun bt130 => ((tillerref01_Parse.f k x1).bind fun bt132 => ((tillerlaw01_awake.f k).bind fun t134 => (if t134 = true then ((tillerref01_Text.f k x0).bind fun t135 => (if t129.toList = t135.toList then (if bt130.1 = bt132.1 then (tillerlaw01_FixTexts.j1 k x0 t129 (bt130.2 != bt132.2)) else (tillerlaw01_FixTexts.j1 k x0 t129 true)) else (tillerlaw01_FixTexts.j1 k x0 t129 true))) else (tillerlaw01_FixTexts.j1 k x0 t129 true)))))
def tillerlaw01_FixTexts.j1 : Nat → Int → ByteArray → Bool → Option (Bool)
 | 0, _, _, _ => none
 | k + 1, x0, x5, x46 => if x46 = true then (some false) else ((fix_Parse.f x5).bind fun bt136 => (if x0 < (-2147483647) then (if bt136.2 = 2 then (some (bt136.1 == 0)) else (some false)) else (if bt136.2 = 0 then (some (bt136.1 == x0)) else (some false))))
end
def tillerlaw01_FixTexts.f (k : Nat) (a0 : Int) (a1 : ByteArray) : Option (Bool) := if (a1.size : Int) > 100 then (if 0 ≤ 100 then (if 100 ≤ (a1.size : Int) then (tillerlaw01_FixTexts.j0 k a0 (a1.extract 0 100)) else (none)) else (none)) else (tillerlaw01_FixTexts.j0 k a0 a1)
theorem tillerlaw01_FixTexts.mono_l : ∀ k, (∀ y0 y1, LeO (tillerlaw01_FixTexts.j0 k y0 y1) (tillerlaw01_FixTexts.j0 (k + 1) y0 y1)) ∧ (∀ y0 y1 y2, LeO (tillerlaw01_FixTexts.j1 k y0 y1 y2) (tillerlaw01_FixTexts.j1 (k + 1) y0 y1 y2))
 | 0 => ⟨fun _ _ r h => by simp [tillerlaw01_FixTexts.j0] at h, fun _ _ _ r h => by simp [tillerlaw01_FixTexts.j1] at h⟩
 | k + 1 => by
  obtain ⟨ih0, ih1⟩ := tillerlaw01_FixTexts.mono_l k
  refine ⟨?_, ?_⟩
  ·intro y0 y1
   unfold tillerlaw01_FixTexts.j0
   repeat' first
   | (with_reducible exact ih0 _ _)
   | (with_reducible exact ih1 _ _ _)
   | (with_reducible exact tillerlaw01_awake.mono _)
   | (with_reducible exact tillerref01_Parse.mono _ _)
   | (with_reducible exact tillerref01_Text.mono _ _)
   | (with_reducible exact LeO.refl _)
   | (with_reducible exact LeO.none _)
   | (with_reducible refine LeO.ite ?_ ?_)
   | (with_reducible refine LeO.bind ?_ (fun _ => ?_))
   | exact ih0 _ _
   | exact ih1 _ _ _
   | exact tillerlaw01_awake.mono _
   | exact tillerref01_Parse.mono _ _
   | exact tillerref01_Text.mono _ _
   | exact LeO.none _
   | refine LeO.ite ?_ ?_
   | refine LeO.bind ?_ (fun _ => ?_)
  ·intro y0 y1 y2
   unfold tillerlaw01_FixTexts.j1
   repeat' first
   | (with_reducible exact ih0 _ _)
   | (with_reducible exact ih1 _ _ _)
   | (with_reducible exact tillerlaw01_awake.mono _)
   | (with_reducible exact tillerref01_Parse.mono _ _)
   | (with_reducible exact tillerref01_Text.mono _ _)
   | (with_reducible exact LeO.refl _)
   | (with_reducible exact LeO.none _)
   | (with_reducible refine LeO.ite ?_ ?_)
   | (with_reducible refine LeO.bind ?_ (fun _ => ?_))
   | exact ih0 _ _
   | exact ih1 _ _ _
   | exact tillerlaw01_awake.mono _
   | exact tillerref01_Parse.mono _ _
   | exact tillerref01_Text.mono _ _
   | exact LeO.none _
   | refine LeO.ite ?_ ?_
   | refine LeO.bind ?_ (fun _ => ?_)
theorem tillerlaw01_FixTexts.mono : ∀ a0 a1 k, LeO (tillerlaw01_FixTexts.f k a0 a1) (tillerlaw01_FixTexts.f (k + 1) a0 a1) := by
 intro a0 a1 k
 obtain ⟨ih0, ih1⟩ := tillerlaw01_FixTexts.mono_l k
 unfold tillerlaw01_FixTexts.f
 repeat' first
   | (with_reducible exact ih0 _ _)
   | (with_reducible exact ih1 _ _ _)
   | (with_reducible exact tillerlaw01_awake.mono _)
   | (with_reducible exact tillerref01_Parse.mono _ _)
   | (with_reducible exact tillerref01_Text.mono _ _)
   | (with_reducible exact LeO.refl _)
   | (with_reducible exact LeO.none _)
   | (with_reducible refine LeO.ite ?_ ?_)
   | (with_reducible refine LeO.bind ?_ (fun _ => ?_))
   | exact ih0 _ _
   | exact ih1 _ _ _
   | exact tillerlaw01_awake.mono _
   | exact tillerref01_Parse.mono _ _
   | exact tillerref01_Text.mono _ _
   | exact LeO.none _
   | refine LeO.ite ?_ ?_
   | refine LeO.bind ?_ (fun _ => ?_)
set_option maxHeartbeats 8000000 in
set_option maxRecDepth 100000 in
theorem tillerlaw01_FixTexts.calls (k : Nat) (a0 : Int) (a1 : ByteArray) (r : Bool) (w : World) (hr_ : Aside0 (r = true)) (h : tillerlaw01_FixTexts.f k a0 a1 = some r) :
  Calls Try.prog 8 #[.int .i32 a0, .string a1] w fun e w' => e = .returned (.bool r) ∧ Below w.heap.size w w' := by
 have HB := Aside0.mk (Below.refl w.heap.size w)
 have H : (if (a1.size : Int) > 100 then (if 0 ≤ 100 then (if 100 ≤ (a1.size : Int) then (tillerlaw01_FixTexts.j0 k a0 (a1.extract 0 100)) else (none)) else (none)) else (tillerlaw01_FixTexts.j0 k a0 a1)) = some r := h
 clear h
 have HC3 := Aside0.mk H
 clear H
 go_enter Try.func8, Try.ntmps8
 go_upto_if 14 with (fail)
 go_cut [1] (fun v1 wc => ∃ (kq : Nat) (x1_2 : ByteArray), v1 = .string x1_2 ∧ Aside0 (tillerlaw01_FixTexts.j0 kq a0 x1_2 = some r) ∧ Aside0 (kq ≤ k) ∧ Aside0 (Below w.heap.size w wc))
 case first =>
  have H := HC3.out
  clear HC3
  by_cases c4 : (a1.size : Int) > 100
  ·rw [if_pos c4] at H
   have c4b0 : decide (100 < (a1.size : Int)) = true := decide_eq_true c4
   have c4b1 : decide (100 < a1.size) = true := decide_eq_true (by omega)
   clear c4
   (first | rw [c4b0] | (simp only [i64_w, i32_w]; rw [c4b0]) | skip)
   by_cases c5 : 0 ≤ 100
   ·rw [if_pos c5] at H
    have c5b0 := eq_true c5
    have c5b1 : decide (0 ≤ 100) = true := decide_eq_true c5
    clear c5
    by_cases c6 : 100 ≤ (a1.size : Int)
    ·rw [if_pos c6] at H
     have c6b0 := eq_true c6
     have c6b1 : decide (100 ≤ (a1.size : Int)) = true := decide_eq_true c6
     clear c6
     have H' := Aside0.mk H
     clear H
     go_wp2
     go_meet
     case rel => exact ⟨_, (a1.extract 0 100), (by first | rfl | (simp; done) | (simp [*]; done)), H', ⟨by first | omega | exact Nat.le_refl _⟩, ⟨by repeat (first | (with_reducible first | exact HB.out | apply bwA | apply bwN | apply bwD) | exact HB.out)⟩⟩
    ·rw [if_neg c6] at H
     exact absurd H (by simp)
   ·rw [if_neg c5] at H
    exact absurd H (by simp)
  ·rw [if_neg c4] at H
   have c4b0 : decide (100 < (a1.size : Int)) = false := decide_eq_false c4
   have c4b1 : decide (100 < a1.size) = false := decide_eq_false (by omega)
   clear c4
   (first | rw [c4b0] | (simp only [i64_w, i32_w]; rw [c4b0]) | skip)
   have H' := Aside0.mk H
   clear H
   go_wp2
   go_meet
   case rel => exact ⟨_, (a1), (by first | rfl | (simp; done) | (simp [*]; done)), H', ⟨by first | omega | exact Nat.le_refl _⟩, ⟨by repeat (first | (with_reducible first | exact HB.out | apply bwA | apply bwN | apply bwD) | exact HB.out)⟩⟩
 case rest =>
  clear HC3
  try clear p2
  try clear c4
  try clear c4b0
  try clear c4b1
  try clear c5
  try clear c5b0
  try clear c5b1
  try clear c6
  try clear c6b0
  try clear c6b1
  obtain ⟨kq, x1_2, rfl, HA, HJ2, HB⟩ := hcut
  cases kq with
  | zero => exact absurd HA.out (by simp [tillerlaw01_FixTexts.j0])
  | succ kj2 =>
   have H := HA.out
   clear HA
   simp only [tillerlaw01_FixTexts.j0] at H
   replace H := Option.bind_eq_some_iff.mp H
   obtain ⟨t129, A70, H⟩ := H
   replace H : ((fix_Parse.f x1_2).bind fun bt130 => ((tillerref01_Parse.f kj2 x1_2).bind fun bt132 => ((tillerlaw01_awake.f kj2).bind fun t134 => (if t134 = true then ((tillerref01_Text.f kj2 a0).bind fun t135 => (if t129.toList = t135.toList then (if bt130.1 = bt132.1 then (tillerlaw01_FixTexts.j1 kj2 a0 t129 (bt130.2 != bt132.2)) else (tillerlaw01_FixTexts.j1 kj2 a0 t129 true)) else (tillerlaw01_FixTexts.j1 kj2 a0 t129 true))) else (tillerlaw01_FixTexts.j1 kj2 a0 t129 true))))) = some r := H
   have A7 := Aside0.mk A70
   clear A70
   replace H := Option.bind_eq_some_iff.mp H
   obtain ⟨⟨t130, t131⟩, A80, H⟩ := H
   replace H : ((tillerref01_Parse.f kj2 x1_2).bind fun bt132 => ((tillerlaw01_awake.f kj2).bind fun t134 => (if t134 = true then ((tillerref01_Text.f kj2 a0).bind fun t135 => (if t129.toList = t135.toList then (if t130 = bt132.1 then (tillerlaw01_FixTexts.j1 kj2 a0 t129 (t131 != bt132.2)) else (tillerlaw01_FixTexts.j1 kj2 a0 t129 true)) else (tillerlaw01_FixTexts.j1 kj2 a0 t129 true))) else (tillerlaw01_FixTexts.j1 kj2 a0 t129 true)))) = some r := H
   have A8 := Aside0.mk A80
   clear A80
   replace H := Option.bind_eq_some_iff.mp H
   obtain ⟨⟨t132, t133⟩, A90, H⟩ := H
   replace H : ((tillerlaw01_awake.f kj2).bind fun t134 => (if t134 = true then ((tillerref01_Text.f kj2 a0).bind fun t135 => (if t129.toList = t135.toList then (if t130 = t132 then (tillerlaw01_FixTexts.j1 kj2 a0 t129 (t131 != t133)) else (tillerlaw01_FixTexts.j1 kj2 a0 t129 true)) else (tillerlaw01_FixTexts.j1 kj2 a0 t129 true))) else (tillerlaw01_FixTexts.j1 kj2 a0 t129 true))) = some r := H
   have A9 := Aside0.mk A90
   clear A90
   have HC10 := Aside0.mk H
   clear H
   go_upto_region 6 with (first | ((with_reducible refine gate_callee (f := 24) rfl ?_); refine goesL_ (some 18) rfl rfl Try.func24 (by kernel_rfl) rfl #[.int .i32 a0] rfl (by (try simp only [List.map_toArray, List.map_cons, List.map_nil]); first | done | rfl | (simp only [List.length_drop, List.length_take]; rfl)) ?_; (with_reducible refine (fix_Text.calls a0 t129 _ A7.out).mono ?_); rintro e w11 ⟨rfl, hb⟩; refine ⟨_, rfl, ?_⟩; have n0_ := Aside0.mk (below_step (by repeat (first | (with_reducible first | exact HB.out | apply bwA | apply bwN | apply bwD) | exact HB.out)) hb); clear HB; have HB := n0_; clear n0_; (try clear hb); (try clear hb2); (try clear hk); (try clear hi)) | ((with_reducible refine gate_callee (f := 25) rfl ?_); refine goesL_ (some 21) rfl rfl Try.func25 (by kernel_rfl) rfl #[.string x1_2] rfl (by (try simp only [List.map_toArray, List.map_cons, List.map_nil]); first | done | rfl | (simp only [List.length_drop, List.length_take]; rfl)) ?_; (with_reducible refine (fix_Parse.calls x1_2 t130 t131 _ A8.out).mono ?_); rintro e w12 ⟨rfl, hb⟩; refine ⟨_, rfl, ?_⟩; have n0_ := Aside0.mk (below_step (by repeat (first | (with_reducible first | exact HB.out | apply bwA | apply bwN | apply bwD) | exact HB.out)) hb); clear HB; have HB := n0_; clear n0_; (try clear hb); (try clear hb2); (try clear hk); (try clear hi)) | ((with_reducible refine gate_callee (f := 26) rfl ?_); refine goesL_ (some 26) rfl rfl Try.func26 (by kernel_rfl) rfl #[.string x1_2] rfl (by (try simp only [List.map_toArray, List.map_cons, List.map_nil]); first | done | rfl | (simp only [List.length_drop, List.length_take]; rfl)) ?_; (with_reducible refine (tillerref01_Parse.calls kj2 x1_2 t132 t133 _ A9.out).mono ?_); rintro e w13 ⟨rfl, hb⟩; refine ⟨_, rfl, ?_⟩; have n0_ := Aside0.mk (below_step (by repeat (first | (with_reducible first | exact HB.out | apply bwA | apply bwN | apply bwD) | exact HB.out)) hb); clear HB; have HB := n0_; clear n0_; (try clear hb); (try clear hb2); (try clear hk); (try clear hi)))
   (try simp only [Act.put, List.setIfInBounds_toArray, List.set_cons_zero, List.set_cons_succ])
   go_cut [46] (fun v46 wc => ∃ (kq : Nat) (x46_9 : Bool), v46 = .bool x46_9 ∧ Aside0 (tillerlaw01_FixTexts.j1 kq a0 t129 x46_9 = some r) ∧ Aside0 (kq ≤ kj2) ∧ Aside0 (Below w.heap.size w wc))
   case first =>
    have H := HC10.out
    clear HC10
    replace H := Option.bind_eq_some_iff.mp H
    obtain ⟨t134, A140, H⟩ := H
    replace H : (if t134 = true then ((tillerref01_Text.f kj2 a0).bind fun t135 => (if t129.toList = t135.toList then (if t130 = t132 then (tillerlaw01_FixTexts.j1 kj2 a0 t129 (t131 != t133)) else (tillerlaw01_FixTexts.j1 kj2 a0 t129 true)) else (tillerlaw01_FixTexts.j1 kj2 a0 t129 true))) else (tillerlaw01_FixTexts.j1 kj2 a0 t129 true)) = some r := H
    have A14 := Aside0.mk A140
    clear A140
    by_cases c15 : t134 = true
    ·subst c15
     have H1 : ((tillerref01_Text.f kj2 a0).bind fun t135 => (if t129.toList = t135.toList then (if t130 = t132 then (tillerlaw01_FixTexts.j1 kj2 a0 t129 (t131 != t133)) else (tillerlaw01_FixTexts.j1 kj2 a0 t129 true)) else (tillerlaw01_FixTexts.j1 kj2 a0 t129 true))) = some r := by rw [if_pos rfl] at H; exact H
     clear H
     have H := H1
     clear H1
     replace H := Option.bind_eq_some_iff.mp H
     obtain ⟨t135, A160, H⟩ := H
     replace H : (if t129.toList = t135.toList then (if t130 = t132 then (tillerlaw01_FixTexts.j1 kj2 a0 t129 (t131 != t133)) else (tillerlaw01_FixTexts.j1 kj2 a0 t129 true)) else (tillerlaw01_FixTexts.j1 kj2 a0 t129 true)) = some r := H
     have A16 := Aside0.mk A160
     clear A160
     by_cases c17 : t129.toList = t135.toList
     ·rw [if_pos c17] at H
      have c17b0 : (t129.toList == t135.toList) = true := beq_iff_eq.mpr c17
      have c17b1 : (t129.toList != t135.toList) = false := bne_eq_false_iff_eq.mpr c17
      clear c17
      (first | rw [c17b0] | (simp only [i64_w, i32_w]; rw [c17b0]) | skip)
      by_cases c18 : t130 = t132
      ·rw [if_pos c18] at H
       have c18b0 : (t130 == t132) = true := beq_iff_eq.mpr c18
       have c18b1 : (t130 != t132) = false := bne_eq_false_iff_eq.mpr c18
       clear c18
       have H' := Aside0.mk H
       clear H
       go_wp2_with (first | ((with_reducible refine gate_callee (f := 12) rfl ?_); refine goesL_ (some 29) rfl rfl Try.func12 (by kernel_rfl) rfl #[] rfl (by (try simp only [List.map_toArray, List.map_cons, List.map_nil]); first | done | rfl | (simp only [List.length_drop, List.length_take]; rfl)) ?_; (with_reducible refine (tillerlaw01_awake.calls kj2  true _ A14.out).mono ?_); rintro e w19 ⟨rfl, hb⟩; refine ⟨_, rfl, ?_⟩; have n0_ := Aside0.mk (below_step (by repeat (first | (with_reducible first | exact HB.out | apply bwA | apply bwN | apply bwD) | exact HB.out)) hb); clear HB; have HB := n0_; clear n0_; (try clear hb); (try clear hb2); (try clear hk); (try clear hi)) | (go_at_call 27; (with_reducible refine (tillerref01_Text.calls kj2 a0 t135 _ A16.out).mono ?_); rintro e w' ⟨rfl, ⟨nd, rfl⟩⟩))
       go_meet
       case rel => exact ⟨_, ((t131 != t133)), (by first | rfl | (simp; done) | (simp [*]; done)), H', ⟨by have := HJ2.out; first | omega | exact Nat.le_refl _⟩, ⟨by repeat (first | (with_reducible first | exact HB.out | apply bwA | apply bwN | apply bwD) | exact HB.out)⟩⟩
      ·rw [if_neg c18] at H
       have c18b0 : (t130 == t132) = false := beq_eq_false_iff_ne.mpr c18
       have c18b1 : (t130 != t132) = true := bne_iff_ne.mpr c18
       have H' := Aside0.mk H
       clear H
       go_wp2_with (first | ((with_reducible refine gate_callee (f := 12) rfl ?_); refine goesL_ (some 29) rfl rfl Try.func12 (by kernel_rfl) rfl #[] rfl (by (try simp only [List.map_toArray, List.map_cons, List.map_nil]); first | done | rfl | (simp only [List.length_drop, List.length_take]; rfl)) ?_; (with_reducible refine (tillerlaw01_awake.calls kj2  true _ A14.out).mono ?_); rintro e w20 ⟨rfl, hb⟩; refine ⟨_, rfl, ?_⟩; have n0_ := Aside0.mk (below_step (by repeat (first | (with_reducible first | exact HB.out | apply bwA | apply bwN | apply bwD) | exact HB.out)) hb); clear HB; have HB := n0_; clear n0_; (try clear hb); (try clear hb2); (try clear hk); (try clear hi)) | (go_at_call 27; (with_reducible refine (tillerref01_Text.calls kj2 a0 t135 _ A16.out).mono ?_); rintro e w' ⟨rfl, ⟨nd, rfl⟩⟩))
       go_meet
       case rel => exact ⟨_, (true), (by first | rfl | (simp; done) | (simp [*]; done)), H', ⟨by have := HJ2.out; first | omega | exact Nat.le_refl _⟩, ⟨by repeat (first | (with_reducible first | exact HB.out | apply bwA | apply bwN | apply bwD) | exact HB.out)⟩⟩
     ·rw [if_neg c17] at H
      have c17b0 : (t129.toList == t135.toList) = false := beq_eq_false_iff_ne.mpr c17
      have c17b1 : (t129.toList != t135.toList) = true := bne_iff_ne.mpr c17
      (first | rw [c17b0] | (simp only [i64_w, i32_w]; rw [c17b0]) | skip)
      have H' := Aside0.mk H
      clear H
      go_wp2_with (first | ((with_reducible refine gate_callee (f := 12) rfl ?_); refine goesL_ (some 29) rfl rfl Try.func12 (by kernel_rfl) rfl #[] rfl (by (try simp only [List.map_toArray, List.map_cons, List.map_nil]); first | done | rfl | (simp only [List.length_drop, List.length_take]; rfl)) ?_; (with_reducible refine (tillerlaw01_awake.calls kj2  true _ A14.out).mono ?_); rintro e w21 ⟨rfl, hb⟩; refine ⟨_, rfl, ?_⟩; have n0_ := Aside0.mk (below_step (by repeat (first | (with_reducible first | exact HB.out | apply bwA | apply bwN | apply bwD) | exact HB.out)) hb); clear HB; have HB := n0_; clear n0_; (try clear hb); (try clear hb2); (try clear hk); (try clear hi)) | (go_at_call 27; (with_reducible refine (tillerref01_Text.calls kj2 a0 t135 _ A16.out).mono ?_); rintro e w' ⟨rfl, ⟨nd, rfl⟩⟩))
      go_meet
      case rel => exact ⟨_, (true), (by first | rfl | (simp; done) | (simp [*]; done)), H', ⟨by have := HJ2.out; first | omega | exact Nat.le_refl _⟩, ⟨by repeat (first | (with_reducible first | exact HB.out | apply bwA | apply bwN | apply bwD) | exact HB.out)⟩⟩
    ·replace c15 := Bool.eq_false_iff.mpr c15
     subst c15
     have H1 : (tillerlaw01_FixTexts.j1 kj2 a0 t129 true) = some r := by rw [if_neg (show ¬ (false = true) by decide)] at H; exact H
     clear H
     have H := H1
     clear H1
     have H' := Aside0.mk H
     clear H
     go_wp2_with (first | ((with_reducible refine gate_callee (f := 12) rfl ?_); refine goesL_ (some 29) rfl rfl Try.func12 (by kernel_rfl) rfl #[] rfl (by (try simp only [List.map_toArray, List.map_cons, List.map_nil]); first | done | rfl | (simp only [List.length_drop, List.length_take]; rfl)) ?_; (with_reducible refine (tillerlaw01_awake.calls kj2  false _ A14.out).mono ?_); rintro e w22 ⟨rfl, hb⟩; refine ⟨_, rfl, ?_⟩; have n0_ := Aside0.mk (below_step (by repeat (first | (with_reducible first | exact HB.out | apply bwA | apply bwN | apply bwD) | exact HB.out)) hb); clear HB; have HB := n0_; clear n0_; (try clear hb); (try clear hb2); (try clear hk); (try clear hi)))
     go_meet
     case rel => exact ⟨_, (true), (by first | rfl | (simp; done) | (simp [*]; done)), H', ⟨by have := HJ2.out; first | omega | exact Nat.le_refl _⟩, ⟨by repeat (first | (with_reducible first | exact HB.out | apply bwA | apply bwN | apply bwD) | exact HB.out)⟩⟩
   case rest =>
    clear HC10
    try clear c1
    try clear c2
    try clear p2
    try clear c4
    try clear c4b0
    try clear c4b1
    try clear c5
    try clear c5b0
    try clear c5b1
    try clear c6
    try clear c6b0
    try clear c6b1
    try clear c8
    try clear c12
    try clear c15
    try clear c17
    try clear c17b0
    try clear c17b1
    try clear c18
    try clear c18b0
    try clear c18b1
    try clear p2
    obtain ⟨kq, x46_9, rfl, HA, HJ9, HB⟩ := hcut
    cases kq with
    | zero => exact absurd HA.out (by simp [tillerlaw01_FixTexts.j1])
    | succ kj9 =>
     have H := HA.out
     clear HA
     simp only [tillerlaw01_FixTexts.j1] at H
     by_cases c23 : x46_9 = true
     ·subst c23
      have H1 : (some false) = some r := by rw [if_pos rfl] at H; exact H
      clear H
      have H := H1
      clear H1
      exact absurd (Option.some.inj H) (by rw [hr_.out]; decide)
     ·replace c23 := Bool.eq_false_iff.mpr c23
      subst c23
      have H1 : ((fix_Parse.f t129).bind fun bt136 => (if a0 < (-2147483647) then (if bt136.2 = 2 then (some (bt136.1 == 0)) else (some false)) else (if bt136.2 = 0 then (some (bt136.1 == a0)) else (some false)))) = some r := by rw [if_neg (show ¬ (false = true) by decide)] at H; exact H
      clear H
      have H := H1
      clear H1
      replace H := Option.bind_eq_some_iff.mp H
      obtain ⟨⟨t136, t137⟩, A240, H⟩ := H
      replace H : (if a0 < (-2147483647) then (if t137 = 2 then (some (t136 == 0)) else (some false)) else (if t137 = 0 then (some (t136 == a0)) else (some false))) = some r := H
      have A24 := Aside0.mk A240
      clear A240
      by_cases c25 : a0 < (-2147483647)
      ·rw [if_pos c25] at H
       have c25b0 : decide (a0 < (-2147483647)) = true := decide_eq_true c25
       clear c25
       by_cases c26 : t137 = 2
       ·rw [if_pos c26] at H
        have c26b0 : (t137 == 2) = true := beq_iff_eq.mpr c26
        have c26b1 : (t137 != 2) = false := bne_eq_false_iff_eq.mpr c26
        clear c26
        obtain rfl := Option.some.inj H
        go_wp2_with (first | ((with_reducible refine gate_callee (f := 25) rfl ?_); refine goesL_ (some 49) rfl rfl Try.func25 (by kernel_rfl) rfl #[.string t129] rfl (by (try simp only [List.map_toArray, List.map_cons, List.map_nil]); first | done | rfl | (simp only [List.length_drop, List.length_take]; rfl)) ?_; (with_reducible refine (fix_Parse.calls t129 t136 t137 _ A24.out).mono ?_); rintro e w27 ⟨rfl, hb⟩; refine ⟨_, rfl, ?_⟩; have n0_ := Aside0.mk (below_step (by repeat (first | (with_reducible first | exact HB.out | apply bwA | apply bwN | apply bwD) | exact HB.out)) hb); clear HB; have HB := n0_; clear n0_; (try clear hb); (try clear hb2); (try clear hk); (try clear hi)))
        go_ret
        exact ⟨by first | rfl | (simp [errW_none, errW_some] <;> rfl) | (simp [*, errW_none, errW_some] <;> rfl), by repeat (first | (with_reducible first | exact HB.out | apply bwA | apply bwN | apply bwD) | exact HB.out)⟩
       ·rw [if_neg c26] at H
        exact absurd (Option.some.inj H) (by rw [hr_.out]; decide)
      ·rw [if_neg c25] at H
       have c25b0 : decide (a0 < (-2147483647)) = false := decide_eq_false c25
       clear c25
       by_cases c28 : t137 = 0
       ·rw [if_pos c28] at H
        have c28b0 : (t137 == 0) = true := beq_iff_eq.mpr c28
        have c28b1 : (t137 != 0) = false := bne_eq_false_iff_eq.mpr c28
        clear c28
        obtain rfl := Option.some.inj H
        go_wp2_with (first | ((with_reducible refine gate_callee (f := 25) rfl ?_); refine goesL_ (some 49) rfl rfl Try.func25 (by kernel_rfl) rfl #[.string t129] rfl (by (try simp only [List.map_toArray, List.map_cons, List.map_nil]); first | done | rfl | (simp only [List.length_drop, List.length_take]; rfl)) ?_; (with_reducible refine (fix_Parse.calls t129 t136 t137 _ A24.out).mono ?_); rintro e w29 ⟨rfl, hb⟩; refine ⟨_, rfl, ?_⟩; have n0_ := Aside0.mk (below_step (by repeat (first | (with_reducible first | exact HB.out | apply bwA | apply bwN | apply bwD) | exact HB.out)) hb); clear HB; have HB := n0_; clear n0_; (try clear hb); (try clear hb2); (try clear hk); (try clear hi)))
        go_ret
        exact ⟨by first | rfl | (simp [errW_none, errW_some] <;> rfl) | (simp [*, errW_none, errW_some] <;> rfl), by repeat (first | (with_reducible first | exact HB.out | apply bwA | apply bwN | apply bwD) | exact HB.out)⟩
       ·rw [if_neg c28] at H
        exact absurd (Option.some.inj H) (by rw [hr_.out]; decide)

end Go.Proofs.Ytnhapgenebcjmaa.GV
