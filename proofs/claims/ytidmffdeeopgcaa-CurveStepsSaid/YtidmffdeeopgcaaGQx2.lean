-- written by this session's program gprint.py
import Derived.Test.YtidmffdeeopgcaaGQx0
import Derived.Test.YtidmffdeeopgcaaWLast
import Derived.Test.YtidmffdeeopgcaaWMore
import Derived.Test.YtidmffdeeopgcaaWWords
namespace Go.Proofs.Ytidmffdeeopgcaa.GQ
open Go.RowKit Go.Proofs.YtidmffdeeopgcaaW.PrintWords Go.Proofs.YtidmffdeeopgcaaW.PrintLast Go.Proofs.YtidmffdeeopgcaaW.PrintMore Go.Proofs.Ytidmffdeeopgcaa.GLen Go.Proofs.Ytidmffdeeopgcaa.GCurve Go.Proofs.Ytidmffdeeopgcaa.GAwake
attribute [local go_sem] max2_int min2_int max_two min_two max_three min_three max_four min_four   -- for this text's walks alone
set_option linter.unusedVariables false
set_option linter.unusedSimpArgs false

/-! ### tillerref02_Root: function 14 -/
def tillerref02_Root.l0 : Nat → Int → Int → Int → Option (Int)
 | 0, _, _, _ => none
 | k + 1, x0, x3, x4 => if x4 > 0 then (if (IntKind.u64.wrap ((IntKind.u64.wrap (x3 + x4)) * (IntKind.u64.wrap (x3 + x4)))) ≤ x0 then (tillerref02_Root.l0 k x0 (IntKind.u64.wrap (x3 + x4)) (IntKind.u64.wrap (Int.tdiv x4 2))) else (tillerref02_Root.l0 k x0 x3 (IntKind.u64.wrap (Int.tdiv x4 2)))) else (some x3)
def tillerref02_Root.f (k : Nat) (a0 : Int) : Option (Int) := tillerref02_Root.l0 k a0 0 2147483648
theorem tillerref02_Root.mono_l : ∀ k, (∀ y0 y1 y2, LeO (tillerref02_Root.l0 k y0 y1 y2) (tillerref02_Root.l0 (k + 1) y0 y1 y2))
 | 0 => fun _ _ _ r h => by simp [tillerref02_Root.l0] at h
 | k + 1 => by
  have ih0 := tillerref02_Root.mono_l k
  ·intro y0 y1 y2
   unfold tillerref02_Root.l0
   repeat' first
   | (with_reducible exact ih0 _ _ _)
   | (with_reducible exact LeO.refl _)
   | (with_reducible exact LeO.none _)
   | (with_reducible refine LeO.ite ?_ ?_)
   | (with_reducible refine LeO.bind ?_ (fun _ => ?_))
   | exact ih0 _ _ _
   | exact LeO.none _
   | refine LeO.ite ?_ ?_
   | refine LeO.bind ?_ (fun _ => ?_)
theorem tillerref02_Root.mono : ∀ a0 k, LeO (tillerref02_Root.f k a0) (tillerref02_Root.f (k + 1) a0) := by
 intro a0 k
 have ih0 := tillerref02_Root.mono_l k
 unfold tillerref02_Root.f
 repeat' first
   | (with_reducible exact ih0 _ _ _)
   | (with_reducible exact LeO.refl _)
   | (with_reducible exact LeO.none _)
   | (with_reducible refine LeO.ite ?_ ?_)
   | (with_reducible refine LeO.bind ?_ (fun _ => ?_))
   | exact ih0 _ _ _
   | exact LeO.none _
   | refine LeO.ite ?_ ?_
   | refine LeO.bind ?_ (fun _ => ?_)
set_option maxHeartbeats 8000000 in
set_option maxRecDepth 100000 in
theorem tillerref02_Root.calls (k : Nat) (a0 : Int) (r : Int) (w : World) (h : tillerref02_Root.f k a0 = some r) :
  Calls Try.prog 14 #[.int .u64 a0] w fun e w' => e = .returned (.int .u64 r) ∧ Drawn0 w w' := by
 have H : (tillerref02_Root.l0 k a0 0 2147483648) = some r := h
 clear h
 have H' := Aside0.mk H
 clear H
 go_enter Try.func14, Try.ntmps14
 go_wp2
 go_loopg [3, 4] k (fun kq v3 v4 w' => ∃ (x3_1 : Int) (x4_1 : Int), v3 = .int .u64 x3_1 ∧ v4 = .int .u64 x4_1 ∧ Aside0 (tillerref02_Root.l0 kq a0 x3_1 x4_1 = some r) ∧ Aside0 (kq ≤ k) ∧ Drawn0 w w')
 case atStart => exact ⟨(0), (2147483648), (by first | rfl | (simp; done) | (simp [*]; done)), (by first | rfl | (simp; done) | (simp [*]; done)), H', ⟨Nat.le_refl _⟩, by repeat (first | exact Drawn0.refl _ | apply Drawn0.step)⟩
 case round =>
  clear H'
  try clear c1
  obtain ⟨x3_1, x4_1, rfl, rfl, HA, HK1, ⟨m1, rfl⟩⟩ := hrel
  cases gk with
  | zero => exact absurd HA.out (by simp [tillerref02_Root.l0])
  | succ k1 =>
   have H := HA.out
   clear HA
   simp only [tillerref02_Root.l0] at H
   by_cases c2 : x4_1 > 0
   ·rw [if_pos c2] at H
    have c2b0 : decide (0 < x4_1) = true := decide_eq_true c2
    clear c2
    by_cases c3 : (IntKind.u64.wrap ((IntKind.u64.wrap (x3_1 + x4_1)) * (IntKind.u64.wrap (x3_1 + x4_1)))) ≤ a0
    ·rw [if_pos c3] at H
     have c3b0 : decide ((IntKind.u64.wrap ((IntKind.u64.wrap (x3_1 + x4_1)) * (IntKind.u64.wrap (x3_1 + x4_1)))) ≤ a0) = true := decide_eq_true c3
     clear c3
     have H' := Aside0.mk H
     clear H
     go_wp2
     go_roundg k1
     case measure => have := HK1.out; omega
     case rel => exact ⟨(IntKind.u64.wrap (x3_1 + x4_1)), (IntKind.u64.wrap (Int.tdiv x4_1 2)), (by first | rfl | (simp; done) | (simp [*]; done)), (by first | rfl | (simp; done) | (simp [*]; done)), H', ⟨by have := HK1.out; omega⟩, by repeat (first | exact Drawn0.refl _ | apply Drawn0.step)⟩
    ·rw [if_neg c3] at H
     have c3b0 : decide ((IntKind.u64.wrap ((IntKind.u64.wrap (x3_1 + x4_1)) * (IntKind.u64.wrap (x3_1 + x4_1)))) ≤ a0) = false := decide_eq_false c3
     clear c3
     have H' := Aside0.mk H
     clear H
     go_wp2
     go_roundg k1
     case measure => have := HK1.out; omega
     case rel => exact ⟨(x3_1), (IntKind.u64.wrap (Int.tdiv x4_1 2)), (by first | rfl | (simp; done) | (simp [*]; done)), (by first | rfl | (simp; done) | (simp [*]; done)), H', ⟨by have := HK1.out; omega⟩, by repeat (first | exact Drawn0.refl _ | apply Drawn0.step)⟩
   ·rw [if_neg c2] at H
    have c2b0 : decide (0 < x4_1) = false := decide_eq_false c2
    clear c2
    obtain rfl := Option.some.inj H
    go_wp2
    go_ret
    exact ⟨by first | rfl | (simp; done) | (simp [*]; done), by repeat (first | exact Drawn0.refl _ | apply Drawn0.step)⟩

/-! ### tillerref02_Inverse: function 16 -/
def tillerref02_Inverse.f (k : Nat) (a0 : Int) : Option (Int) := if a0 < 1 then (some 2147483647) else (if (IntKind.u64.wrap (a0)) = 0 then (none) else ((tillerref02_Root.f k ((281474976710656 : Int) / (IntKind.u64.wrap (a0)))).bind fun t110 => (some (wrap32 (t110)))))
theorem tillerref02_Inverse.mono : ∀ a0 k, LeO (tillerref02_Inverse.f k a0) (tillerref02_Inverse.f (k + 1) a0) := by
 intro a0 k
 unfold tillerref02_Inverse.f
 repeat' first
   | (with_reducible exact tillerref02_Root.mono _ _)
   | (with_reducible exact LeO.refl _)
   | (with_reducible exact LeO.none _)
   | (with_reducible refine LeO.ite ?_ ?_)
   | (with_reducible refine LeO.bind ?_ (fun _ => ?_))
   | exact tillerref02_Root.mono _ _
   | exact LeO.none _
   | refine LeO.ite ?_ ?_
   | refine LeO.bind ?_ (fun _ => ?_)
set_option maxHeartbeats 8000000 in
set_option maxRecDepth 100000 in
theorem tillerref02_Inverse.calls (k : Nat) (a0 : Int) (r : Int) (w : World) (h : tillerref02_Inverse.f k a0 = some r) :
  Calls Try.prog 16 #[.int .i32 a0] w fun e w' => e = .returned (.int .i32 r) ∧ Drawn0 w w' := by
 have H : (if a0 < 1 then (some 2147483647) else (if (IntKind.u64.wrap (a0)) = 0 then (none) else ((tillerref02_Root.f k ((281474976710656 : Int) / (IntKind.u64.wrap (a0)))).bind fun t110 => (some (wrap32 (t110)))))) = some r := h
 clear h
 by_cases c2 : a0 < 1
 ·rw [if_pos c2] at H
  have c2b0 : decide (a0 < 1) = true := decide_eq_true c2
  clear c2
  obtain rfl := Option.some.inj H
  go_enter Try.func16, Try.ntmps16
  go_wp2
  go_ret
  exact ⟨by first | rfl | (simp; done) | (simp [*]; done), by repeat (first | exact Drawn0.refl _ | apply Drawn0.step)⟩
 ·rw [if_neg c2] at H
  have c2b0 : decide (a0 < 1) = false := decide_eq_false c2
  clear c2
  by_cases c3 : (IntKind.u64.wrap (a0)) = 0
  ·rw [if_pos c3] at H
   exact absurd H (by simp)
  ·rw [if_neg c3] at H
   have c3b0 : ((IntKind.u64.wrap (a0)) == 0) = false := beq_eq_false_iff_ne.mpr c3
   have c3b1 : ((IntKind.u64.wrap (a0)) != 0) = true := bne_iff_ne.mpr c3
   have c3b2 := u64_nn a0
   replace H := Option.bind_eq_some_iff.mp H
   obtain ⟨t110, A40, H⟩ := H
   replace H : (some (wrap32 (t110))) = some r := H
   have A4 := Aside0.mk A40
   clear A40
   obtain rfl := Option.some.inj H
   go_enter Try.func16, Try.ntmps16
   go_wp2_with (first | ((with_reducible refine gate_callee (f := 14) rfl ?_); refine goesL_ (some 8) rfl rfl Try.func14 (by kernel_rfl) rfl #[.int .u64 ((281474976710656 : Int) / (IntKind.u64.wrap (a0)))] rfl (by (try simp only [List.map_toArray, List.map_cons, List.map_nil]); first | done | rfl | (simp only [List.length_drop, List.length_take]; rfl)) ?_; (with_reducible refine (tillerref02_Root.calls k ((281474976710656 : Int) / (IntKind.u64.wrap (a0))) t110 _ A4.out).mono ?_); rintro e w' ⟨rfl, ⟨nd, rfl⟩⟩; refine ⟨_, rfl, ?_⟩))
   go_ret
   exact ⟨by first | rfl | (simp; done) | (simp [*]; done), by repeat (first | exact Drawn0.refl _ | apply Drawn0.step)⟩

end Go.Proofs.Ytidmffdeeopgcaa.GQ
