-- written by this session's program gprint.py
import Derived.Test.YtnhapgenebcjmaaGQx0
import Derived.Test.YtnhapgenebcjmaaGQx2
import Derived.Test.YtnhapgenebcjmaaWLast
import Derived.Test.YtnhapgenebcjmaaWMore
import Derived.Test.YtnhapgenebcjmaaWWords
namespace Go.Proofs.Ytnhapgenebcjmaa.GQ
open Go.RowKit Go.Proofs.YtnhapgenebcjmaaW.PrintWords Go.Proofs.YtnhapgenebcjmaaW.PrintLast Go.Proofs.YtnhapgenebcjmaaW.PrintMore Go.Proofs.Ytnhapgenebcjmaa.GText
attribute [local go_sem] max2_int min2_int max_two min_two max_three min_three max_four min_four   -- for this text's walks alone
set_option linter.unusedVariables false
set_option linter.unusedSimpArgs false

/-! ### tillerref01_Round: function 17 -/
def tillerref01_Round.f : Nat → Int → Int → Option (Int)
 | 0, _, _ => none
 | k + 1, a0, a1 => if a0 < 0 then ((tillerref01_Round.f k (wrap64 (-a0)) a1).bind fun t125 => (some (wrap64 (-t125)))) else (if a1 = 0 then (none) else (if (Int.tmod a0 a1) ≥ (wrap64 (a1 - (Int.tmod a0 a1))) then (some (wrap64 ((wrap64 (Int.tdiv a0 a1)) + 1))) else (some (wrap64 (Int.tdiv a0 a1)))))
theorem tillerref01_Round.mono_l : ∀ k, (∀ y0 y1, LeO (tillerref01_Round.f k y0 y1) (tillerref01_Round.f (k + 1) y0 y1))
 | 0 => fun _ _ r h => by simp [tillerref01_Round.f] at h
 | k + 1 => by
  have ih0 := tillerref01_Round.mono_l k
  ·intro y0 y1
   unfold tillerref01_Round.f
   repeat' first
   | (with_reducible exact ih0 _ _)
   | (with_reducible exact LeO.refl _)
   | (with_reducible exact LeO.none _)
   | (with_reducible refine LeO.ite ?_ ?_)
   | (with_reducible refine LeO.bind ?_ (fun _ => ?_))
   | exact ih0 _ _
   | exact LeO.none _
   | refine LeO.ite ?_ ?_
   | refine LeO.bind ?_ (fun _ => ?_)
theorem tillerref01_Round.mono : ∀ a0 a1 k, LeO (tillerref01_Round.f k a0 a1) (tillerref01_Round.f (k + 1) a0 a1) := by
 intro a0 a1 k
 have ih0 := tillerref01_Round.mono_l k
 exact ih0 a0 a1
set_option maxHeartbeats 8000000 in
set_option maxRecDepth 100000 in
theorem tillerref01_Round.calls (k : Nat) : ∀ (a0 : Int) (a1 : Int) (r : Int) (w : World) (h : tillerref01_Round.f k a0 a1 = some r),
  Calls Try.prog 17 #[.int .i64 a0, .int .i64 a1] w fun e w' => e = .returned (.int .i64 r) ∧ Drawn0 w w' := by
 induction k using Nat.strongRecOn with
 | _ k ih =>
 intro a0 a1 r w h
 cases k with
 | zero => exact absurd h (by simp [tillerref01_Round.f])
 | succ k =>
 simp only [tillerref01_Round.f] at h
 have H : (if a0 < 0 then ((tillerref01_Round.f k (wrap64 (-a0)) a1).bind fun t125 => (some (wrap64 (-t125)))) else (if a1 = 0 then (none) else (if (Int.tmod a0 a1) ≥ (wrap64 (a1 - (Int.tmod a0 a1))) then (some (wrap64 ((wrap64 (Int.tdiv a0 a1)) + 1))) else (some (wrap64 (Int.tdiv a0 a1)))))) = some r := h
 clear h
 by_cases c3 : a0 < 0
 ·rw [if_pos c3] at H
  have c3b0 : decide (a0 < 0) = true := decide_eq_true c3
  clear c3
  replace H := Option.bind_eq_some_iff.mp H
  obtain ⟨t125, A40, H⟩ := H
  replace H : (some (wrap64 (-t125))) = some r := H
  have A4 := Aside0.mk A40
  clear A40
  obtain rfl := Option.some.inj H
  go_enter Try.func17, Try.ntmps17
  go_wp2_with (first | (go_at_call 17; (with_reducible refine (ih k (by omega) (wrap64 (-a0)) a1 t125 _ A4.out).mono ?_); rintro e w' ⟨rfl, ⟨nd, rfl⟩⟩; (try first | exact ⟨rfl, _, World.drewN_drewN _ _ _⟩ | exact ⟨rfl, _, Eq.trans (World.drewN_drewN _ _ _) (congrArg (World.drewN _) (Nat.add_assoc _ _ _))⟩)))
  repeat (go_quiet (first | (go_at_call 17; (with_reducible refine (ih k (by omega) (wrap64 (-a0)) a1 t125 _ A4.out).mono ?_); rintro e w' ⟨rfl, ⟨nd, rfl⟩⟩; (try first | exact ⟨rfl, _, World.drewN_drewN _ _ _⟩ | exact ⟨rfl, _, Eq.trans (World.drewN_drewN _ _ _) (congrArg (World.drewN _) (Nat.add_assoc _ _ _))⟩))); try go_wp2_with (first | (go_at_call 17; (with_reducible refine (ih k (by omega) (wrap64 (-a0)) a1 t125 _ A4.out).mono ?_); rintro e w' ⟨rfl, ⟨nd, rfl⟩⟩; (try first | exact ⟨rfl, _, World.drewN_drewN _ _ _⟩ | exact ⟨rfl, _, Eq.trans (World.drewN_drewN _ _ _) (congrArg (World.drewN _) (Nat.add_assoc _ _ _))⟩))))
  go_ret
  exact ⟨by first | rfl | (simp; done) | (simp [*]; done), by repeat (first | exact Drawn0.refl _ | apply Drawn0.step)⟩
 ·rw [if_neg c3] at H
  have c3b0 : decide (a0 < 0) = false := decide_eq_false c3
  clear c3
  by_cases c5 : a1 = 0
  ·rw [if_pos c5] at H
   exact absurd H (by simp)
  ·rw [if_neg c5] at H
   have c5b0 : (a1 == 0) = false := beq_eq_false_iff_ne.mpr c5
   have c5b1 : (a1 != 0) = true := bne_iff_ne.mpr c5
   by_cases c6 : (Int.tmod a0 a1) ≥ (wrap64 (a1 - (Int.tmod a0 a1)))
   ·rw [if_pos c6] at H
    have c6b0 : decide ((wrap64 (a1 - (Int.tmod a0 a1))) ≤ (Int.tmod a0 a1)) = true := decide_eq_true c6
    clear c6
    obtain rfl := Option.some.inj H
    go_enter Try.func17, Try.ntmps17
    go_wp2
    repeat (go_quiet (fail); try go_wp2)
    go_ret
    exact ⟨by first | rfl | (simp; done) | (simp [*]; done), by repeat (first | exact Drawn0.refl _ | apply Drawn0.step)⟩
   ·rw [if_neg c6] at H
    have c6b0 : decide ((wrap64 (a1 - (Int.tmod a0 a1))) ≤ (Int.tmod a0 a1)) = false := decide_eq_false c6
    clear c6
    obtain rfl := Option.some.inj H
    go_enter Try.func17, Try.ntmps17
    go_wp2
    repeat (go_quiet (fail); try go_wp2)
    go_ret
    exact ⟨by first | rfl | (simp; done) | (simp [*]; done), by repeat (first | exact Drawn0.refl _ | apply Drawn0.step)⟩

/-! ### tillerref01_Mul: function 14 -/
def tillerref01_Mul.f (k : Nat) (a0 : Int) (a1 : Int) : Option (Int) := (tillerref01_Round.f k (wrap64 ((wrap64 (a0)) * (wrap64 (a1)))) 65536).bind fun t126 => ((tillerref01_Sat.f t126).bind fun t127 => (some t127))
theorem tillerref01_Mul.mono : ∀ a0 a1 k, LeO (tillerref01_Mul.f k a0 a1) (tillerref01_Mul.f (k + 1) a0 a1) := by
 intro a0 a1 k
 unfold tillerref01_Mul.f
 repeat' first
   | (with_reducible exact tillerref01_Round.mono _ _ _)
   | (with_reducible exact LeO.refl _)
   | (with_reducible exact LeO.none _)
   | (with_reducible refine LeO.ite ?_ ?_)
   | (with_reducible refine LeO.bind ?_ (fun _ => ?_))
   | exact tillerref01_Round.mono _ _ _
   | exact LeO.none _
   | refine LeO.ite ?_ ?_
   | refine LeO.bind ?_ (fun _ => ?_)
set_option maxHeartbeats 8000000 in
set_option maxRecDepth 100000 in
theorem tillerref01_Mul.calls (k : Nat) (a0 : Int) (a1 : Int) (r : Int) (w : World) (h : tillerref01_Mul.f k a0 a1 = some r) :
  Calls Try.prog 14 #[.int .i32 a0, .int .i32 a1] w fun e w' => e = .returned (.int .i32 r) ∧ Drawn0 w w' := by
 have H : ((tillerref01_Round.f k (wrap64 ((wrap64 (a0)) * (wrap64 (a1)))) 65536).bind fun t126 => ((tillerref01_Sat.f t126).bind fun t127 => (some t127))) = some r := h
 clear h
 replace H := Option.bind_eq_some_iff.mp H
 obtain ⟨t126, A30, H⟩ := H
 replace H : ((tillerref01_Sat.f t126).bind fun t127 => (some t127)) = some r := H
 have A3 := Aside0.mk A30
 clear A30
 replace H := Option.bind_eq_some_iff.mp H
 obtain ⟨t127, A40, H⟩ := H
 replace H : (some t127) = some r := H
 have A4 := Aside0.mk A40
 clear A40
 obtain rfl := Option.some.inj H
 go_enter Try.func14, Try.ntmps14
 go_wp2_with (first | ((with_reducible refine gate_callee (f := 17) rfl ?_); refine goesL_ (some 10) rfl rfl Try.func17 (by kernel_rfl) rfl #[.int .i64 (wrap64 ((wrap64 (a0)) * (wrap64 (a1)))), .int .i64 65536] rfl (by (try simp only [List.map_toArray, List.map_cons, List.map_nil]); first | done | rfl | (simp only [List.length_drop, List.length_take]; rfl)) ?_; (with_reducible refine (tillerref01_Round.calls k (wrap64 ((wrap64 (a0)) * (wrap64 (a1)))) 65536 t126 _ A3.out).mono ?_); rintro e w' ⟨rfl, ⟨nd, rfl⟩⟩; refine ⟨_, rfl, ?_⟩) | ((with_reducible refine gate_callee (f := 21) rfl ?_); refine goesL_ (some 11) rfl rfl Try.func21 (by kernel_rfl) rfl #[.int .i64 t126] rfl (by (try simp only [List.map_toArray, List.map_cons, List.map_nil]); first | done | rfl | (simp only [List.length_drop, List.length_take]; rfl)) ?_; (with_reducible refine (tillerref01_Sat.calls t126 t127 _ A4.out).mono ?_); rintro e w' ⟨rfl, ⟨nd, rfl⟩⟩; refine ⟨_, rfl, ?_⟩))
 go_ret
 exact ⟨by first | rfl | (simp; done) | (simp [*]; done), by repeat (first | exact Drawn0.refl _ | apply Drawn0.step)⟩

/-! ### tillerref01_Div: function 15 -/
def tillerref01_Div.f (k : Nat) (a0 : Int) (a1 : Int) : Option (Int) := if (wrap64 (a1)) < 0 then ((tillerref01_Round.f k (wrap64 (-(wrap64 ((wrap64 (a0)) * 65536)))) (wrap64 (-(wrap64 (a1))))).bind fun t128 => ((tillerref01_Sat.f t128).bind fun t129 => (some t129))) else ((tillerref01_Round.f k (wrap64 ((wrap64 (a0)) * 65536)) (wrap64 (a1))).bind fun t130 => ((tillerref01_Sat.f t130).bind fun t131 => (some t131)))
theorem tillerref01_Div.mono : ∀ a0 a1 k, LeO (tillerref01_Div.f k a0 a1) (tillerref01_Div.f (k + 1) a0 a1) := by
 intro a0 a1 k
 unfold tillerref01_Div.f
 repeat' first
   | (with_reducible exact tillerref01_Round.mono _ _ _)
   | (with_reducible exact LeO.refl _)
   | (with_reducible exact LeO.none _)
   | (with_reducible refine LeO.ite ?_ ?_)
   | (with_reducible refine LeO.bind ?_ (fun _ => ?_))
   | exact tillerref01_Round.mono _ _ _
   | exact LeO.none _
   | refine LeO.ite ?_ ?_
   | refine LeO.bind ?_ (fun _ => ?_)
set_option maxHeartbeats 8000000 in
set_option maxRecDepth 100000 in
theorem tillerref01_Div.calls (k : Nat) (a0 : Int) (a1 : Int) (r : Int) (w : World) (h : tillerref01_Div.f k a0 a1 = some r) :
  Calls Try.prog 15 #[.int .i32 a0, .int .i32 a1] w fun e w' => e = .returned (.int .i32 r) ∧ Drawn0 w w' := by
 have H : (if (wrap64 (a1)) < 0 then ((tillerref01_Round.f k (wrap64 (-(wrap64 ((wrap64 (a0)) * 65536)))) (wrap64 (-(wrap64 (a1))))).bind fun t128 => ((tillerref01_Sat.f t128).bind fun t129 => (some t129))) else ((tillerref01_Round.f k (wrap64 ((wrap64 (a0)) * 65536)) (wrap64 (a1))).bind fun t130 => ((tillerref01_Sat.f t130).bind fun t131 => (some t131)))) = some r := h
 clear h
 by_cases c3 : (wrap64 (a1)) < 0
 ·rw [if_pos c3] at H
  have c3b0 : decide ((wrap64 (a1)) < 0) = true := decide_eq_true c3
  clear c3
  replace H := Option.bind_eq_some_iff.mp H
  obtain ⟨t128, A40, H⟩ := H
  replace H : ((tillerref01_Sat.f t128).bind fun t129 => (some t129)) = some r := H
  have A4 := Aside0.mk A40
  clear A40
  replace H := Option.bind_eq_some_iff.mp H
  obtain ⟨t129, A50, H⟩ := H
  replace H : (some t129) = some r := H
  have A5 := Aside0.mk A50
  clear A50
  obtain rfl := Option.some.inj H
  go_enter Try.func15, Try.ntmps15
  go_wp2_with (first | ((with_reducible refine gate_callee (f := 17) rfl ?_); refine goesL_ (some 20) rfl rfl Try.func17 (by kernel_rfl) rfl #[.int .i64 (wrap64 (-(wrap64 ((wrap64 (a0)) * 65536)))), .int .i64 (wrap64 (-(wrap64 (a1))))] rfl (by (try simp only [List.map_toArray, List.map_cons, List.map_nil]); first | done | rfl | (simp only [List.length_drop, List.length_take]; rfl)) ?_; (with_reducible refine (tillerref01_Round.calls k (wrap64 (-(wrap64 ((wrap64 (a0)) * 65536)))) (wrap64 (-(wrap64 (a1)))) t128 _ A4.out).mono ?_); rintro e w' ⟨rfl, ⟨nd, rfl⟩⟩; refine ⟨_, rfl, ?_⟩) | ((with_reducible refine gate_callee (f := 21) rfl ?_); refine goesL_ (some 21) rfl rfl Try.func21 (by kernel_rfl) rfl #[.int .i64 t128] rfl (by (try simp only [List.map_toArray, List.map_cons, List.map_nil]); first | done | rfl | (simp only [List.length_drop, List.length_take]; rfl)) ?_; (with_reducible refine (tillerref01_Sat.calls t128 t129 _ A5.out).mono ?_); rintro e w' ⟨rfl, ⟨nd, rfl⟩⟩; refine ⟨_, rfl, ?_⟩))
  go_ret
  exact ⟨by first | rfl | (simp; done) | (simp [*]; done), by repeat (first | exact Drawn0.refl _ | apply Drawn0.step)⟩
 ·rw [if_neg c3] at H
  have c3b0 : decide ((wrap64 (a1)) < 0) = false := decide_eq_false c3
  clear c3
  replace H := Option.bind_eq_some_iff.mp H
  obtain ⟨t130, A60, H⟩ := H
  replace H : ((tillerref01_Sat.f t130).bind fun t131 => (some t131)) = some r := H
  have A6 := Aside0.mk A60
  clear A60
  replace H := Option.bind_eq_some_iff.mp H
  obtain ⟨t131, A70, H⟩ := H
  replace H : (some t131) = some r := H
  have A7 := Aside0.mk A70
  clear A70
  obtain rfl := Option.some.inj H
  go_enter Try.func15, Try.ntmps15
  go_wp2_with (first | ((with_reducible refine gate_callee (f := 17) rfl ?_); refine goesL_ (some 20) rfl rfl Try.func17 (by kernel_rfl) rfl #[.int .i64 (wrap64 ((wrap64 (a0)) * 65536)), .int .i64 (wrap64 (a1))] rfl (by (try simp only [List.map_toArray, List.map_cons, List.map_nil]); first | done | rfl | (simp only [List.length_drop, List.length_take]; rfl)) ?_; (with_reducible refine (tillerref01_Round.calls k (wrap64 ((wrap64 (a0)) * 65536)) (wrap64 (a1)) t130 _ A6.out).mono ?_); rintro e w' ⟨rfl, ⟨nd, rfl⟩⟩; refine ⟨_, rfl, ?_⟩) | ((with_reducible refine gate_callee (f := 21) rfl ?_); refine goesL_ (some 21) rfl rfl Try.func21 (by kernel_rfl) rfl #[.int .i64 t130] rfl (by (try simp only [List.map_toArray, List.map_cons, List.map_nil]); first | done | rfl | (simp only [List.length_drop, List.length_take]; rfl)) ?_; (with_reducible refine (tillerref01_Sat.calls t130 t131 _ A7.out).mono ?_); rintro e w' ⟨rfl, ⟨nd, rfl⟩⟩; refine ⟨_, rfl, ?_⟩))
  go_ret
  exact ⟨by first | rfl | (simp; done) | (simp [*]; done), by repeat (first | exact Drawn0.refl _ | apply Drawn0.step)⟩

end Go.Proofs.Ytnhapgenebcjmaa.GQ
