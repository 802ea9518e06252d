-- written by this session's program gprint.py
import Derived.Test.YtidmffdeeopgcaaGRx0
import Derived.Test.YtidmffdeeopgcaaWLast
import Derived.Test.YtidmffdeeopgcaaWMore
import Derived.Test.YtidmffdeeopgcaaWRepsOne
import Derived.Test.YtidmffdeeopgcaaWWords
namespace Go.Proofs.Ytidmffdeeopgcaa.GR
open Go.RowKit Go.Proofs.YtidmffdeeopgcaaW.PrintWords Go.Proofs.YtidmffdeeopgcaaW.PrintLast Go.Proofs.YtidmffdeeopgcaaW.PrintMore Go.Proofs.Ytidmffdeeopgcaa.GLen Go.Proofs.Ytidmffdeeopgcaa.GCurve
attribute [local go_sem] max2_int min2_int max_two min_two max_three min_three max_four min_four   -- for this text's walks alone
set_option linter.unusedVariables false
set_option linter.unusedSimpArgs false

-- NOT PRINTED: function 11 (curve_Steps)

/-! ### curve_Root: function 13 -/
def curve_Root.l0 : Nat → Int → Int → Option (Int)
 | 0, _, _ => none
 | k + 1, x0, x3 => if x3 = 0 then (none) else (if (IntKind.u64.wrap (Int.tdiv (IntKind.u64.wrap (x3 + (IntKind.u64.wrap (Int.tdiv x0 x3)))) 2)) ≥ x3 then (some x3) else (curve_Root.l0 k x0 (IntKind.u64.wrap (Int.tdiv (IntKind.u64.wrap (x3 + (IntKind.u64.wrap (Int.tdiv x0 x3)))) 2))))
def curve_Root.f (k : Nat) (a0 : Int) : Option (Int) := if a0 = 0 then (some 0) else ((bits_Len64.f a0).bind fun t101 => (if 0 ≤ (wrap64 (Int.tdiv (wrap64 (t101 + 1)) 2)) then (curve_Root.l0 k a0 (shl .u64 1 (wrap64 (Int.tdiv (wrap64 (t101 + 1)) 2)))) else (none)))
theorem curve_Root.mono_l : ∀ k, (∀ y0 y1, LeO (curve_Root.l0 k y0 y1) (curve_Root.l0 (k + 1) y0 y1))
 | 0 => fun _ _ r h => by simp [curve_Root.l0] at h
 | k + 1 => by
  have ih0 := curve_Root.mono_l k
  ·intro y0 y1
   unfold curve_Root.l0
   repeat' first
   | (with_reducible exact ih0 _ _)
   | (with_reducible exact LeO.refl _)
   | (with_reducible exact LeO.none _)
   | (with_reducible refine LeO.ite ?_ ?_)
   | (with_reducible refine LeO.bind ?_ (fun _ => ?_))
   | exact ih0 _ _
   | exact LeO.none _
   | refine LeO.ite ?_ ?_
   | refine LeO.bind ?_ (fun _ => ?_)
theorem curve_Root.mono : ∀ a0 k, LeO (curve_Root.f k a0) (curve_Root.f (k + 1) a0) := by
 intro a0 k
 have ih0 := curve_Root.mono_l k
 unfold curve_Root.f
 repeat' first
   | (with_reducible exact ih0 _ _)
   | (with_reducible exact LeO.refl _)
   | (with_reducible exact LeO.none _)
   | (with_reducible refine LeO.ite ?_ ?_)
   | (with_reducible refine LeO.bind ?_ (fun _ => ?_))
   | exact ih0 _ _
   | exact LeO.none _
   | refine LeO.ite ?_ ?_
   | refine LeO.bind ?_ (fun _ => ?_)
set_option maxHeartbeats 8000000 in
set_option maxRecDepth 100000 in
theorem curve_Root.calls (k : Nat) (a0 : Int) (r : Int) (w : World) (h : curve_Root.f k a0 = some r) :
  Calls Try.prog 13 #[.int .u64 a0] w fun e w' => e = .returned (.int .u64 r) ∧ Drawn0 w w' := by
 have H : (if a0 = 0 then (some 0) else ((bits_Len64.f a0).bind fun t101 => (if 0 ≤ (wrap64 (Int.tdiv (wrap64 (t101 + 1)) 2)) then (curve_Root.l0 k a0 (shl .u64 1 (wrap64 (Int.tdiv (wrap64 (t101 + 1)) 2)))) else (none)))) = some r := h
 clear h
 by_cases c2 : a0 = 0
 ·rw [if_pos c2] at H
  have c2b0 : (a0 == 0) = true := beq_iff_eq.mpr c2
  have c2b1 : (a0 != 0) = false := bne_eq_false_iff_eq.mpr c2
  clear c2
  obtain rfl := Option.some.inj H
  go_enter Try.func13, Try.ntmps13
  go_wp2
  go_ret
  exact ⟨by first | rfl | (simp; done) | (simp [*]; done), by repeat (first | exact Drawn0.refl _ | apply Drawn0.step)⟩
 ·rw [if_neg c2] at H
  have c2b0 : (a0 == 0) = false := beq_eq_false_iff_ne.mpr c2
  have c2b1 : (a0 != 0) = true := bne_iff_ne.mpr c2
  replace H := Option.bind_eq_some_iff.mp H
  obtain ⟨t101, A30, H⟩ := H
  replace H : (if 0 ≤ (wrap64 (Int.tdiv (wrap64 (t101 + 1)) 2)) then (curve_Root.l0 k a0 (shl .u64 1 (wrap64 (Int.tdiv (wrap64 (t101 + 1)) 2)))) else (none)) = some r := H
  have A3 := Aside0.mk A30
  clear A30
  obtain ⟨ji4, hji4⟩ : ∃ j_ : Int, (wrap64 (Int.tdiv (wrap64 (t101 + 1)) 2)) = j_ := ⟨_, rfl⟩
  replace H : (if 0 ≤ (ji4) then (curve_Root.l0 k a0 (shl .u64 1 (ji4))) else (none)) = some r := by first | (rw [hji4] at H; exact H) | (simp only [hji4] at H ⊢; exact H)
  (try rw [hji4] at A3)
  have hji4w : (IntKind.i64.wrap (Int.tdiv (wrap64 (t101 + 1)) 2)) = ji4 := (i64_w _).trans hji4
  by_cases c5 : 0 ≤ (ji4)
  ·rw [if_pos c5] at H
   have c5b0 := eq_true c5
   have c5b1 : decide (0 ≤ (ji4)) = true := decide_eq_true c5
   clear c5
   obtain ⟨ji6, hji6⟩ : ∃ j_ : Int, (shl .u64 1 (ji4)) = j_ := ⟨_, rfl⟩
   replace H : (curve_Root.l0 k a0 ji6) = some r := by first | (rw [hji6] at H; exact H) | (simp only [hji6] at H ⊢; exact H)
   (try rw [hji6] at A3)
   have hji6_ : (IntKind.u64.wrap (1 * 2 ^ min (ji4).toNat 64)) = ji6 := hji6
   have hji6z : (ji4) ≤ 64 → (IntKind.u64.wrap (1 * 2 ^ (ji4).toNat)) = ji6 := shl_small hji6
   have hji6u : (IntKind.u64.wrap (2 ^ min (ji4).toNat 64)) = ji6 := by have h_ := hji6_; rw [Int.one_mul] at h_; exact h_
   have hji6v : (ji4) ≤ 64 → (IntKind.u64.wrap (2 ^ (ji4).toNat)) = ji6 := fun hle_ => by have h_ := hji6z hle_; rw [Int.one_mul] at h_; exact h_
   have H' := Aside0.mk H
   clear H
   go_enter Try.func13, Try.ntmps13
   go_wp2_with (first | ((with_reducible refine gate_callee (f := 17) rfl ?_); refine goesL_ (some 8) rfl rfl Try.func17 (by kernel_rfl) rfl #[.int .u64 a0] rfl (by (try simp only [List.map_toArray, List.map_cons, List.map_nil]); first | done | rfl | (simp only [List.length_drop, List.length_take]; rfl)) ?_; (with_reducible refine (bits_Len64.calls a0 t101 _ A3.out).mono ?_); rintro e w' ⟨rfl, ⟨nd, rfl⟩⟩; refine ⟨_, rfl, ?_⟩))
   go_loopg [3] k (fun kq v3 w' => ∃ (x3_1 : Int), v3 = .int .u64 x3_1 ∧ Aside0 (curve_Root.l0 kq a0 x3_1 = some r) ∧ Aside0 (kq ≤ k) ∧ Drawn0 w w')
   case atStart => exact ⟨(ji6), (by first | rfl | (simp; done) | (simp only [← hji6] <;> (first | rfl | simp)) | (simp [*]; done)), H', ⟨Nat.le_refl _⟩, by repeat (first | exact Drawn0.refl _ | apply Drawn0.step)⟩
   case round =>
    clear H'
    try clear c1
    try clear c2
    try clear c2b0
    try clear c2b1
    try clear p2
    try clear c5
    try clear c5b0
    try clear c5b1
    try clear p6
    obtain ⟨x3_1, rfl, HA, HK1, ⟨m1, rfl⟩⟩ := hrel
    cases gk with
    | zero => exact absurd HA.out (by simp [curve_Root.l0])
    | succ k1 =>
     have H := HA.out
     clear HA
     simp only [curve_Root.l0] at H
     by_cases c7 : x3_1 = 0
     ·rw [if_pos c7] at H
      exact absurd H (by simp)
     ·rw [if_neg c7] at H
      have c7b0 : (x3_1 == 0) = false := beq_eq_false_iff_ne.mpr c7
      have c7b1 : (x3_1 != 0) = true := bne_iff_ne.mpr c7
      by_cases c8 : (IntKind.u64.wrap (Int.tdiv (IntKind.u64.wrap (x3_1 + (IntKind.u64.wrap (Int.tdiv a0 x3_1)))) 2)) ≥ x3_1
      ·rw [if_pos c8] at H
       have c8b0 : decide (x3_1 ≤ (IntKind.u64.wrap (Int.tdiv (IntKind.u64.wrap (x3_1 + (IntKind.u64.wrap (Int.tdiv a0 x3_1)))) 2))) = true := decide_eq_true c8
       clear c8
       obtain rfl := Option.some.inj H
       go_wp2
       go_ret
       exact ⟨by first | rfl | (simp; done) | (simp only [← hji4, ← hji6] <;> (first | rfl | simp)) | (simp [*]; done), by repeat (first | exact Drawn0.refl _ | apply Drawn0.step)⟩
      ·rw [if_neg c8] at H
       have c8b0 : decide (x3_1 ≤ (IntKind.u64.wrap (Int.tdiv (IntKind.u64.wrap (x3_1 + (IntKind.u64.wrap (Int.tdiv a0 x3_1)))) 2))) = false := decide_eq_false c8
       clear c8
       have H' := Aside0.mk H
       clear H
       go_wp2
       go_roundg k1
       case measure => have := HK1.out; omega
       case rel => exact ⟨(IntKind.u64.wrap (Int.tdiv (IntKind.u64.wrap (x3_1 + (IntKind.u64.wrap (Int.tdiv a0 x3_1)))) 2)), (by first | rfl | (simp; done) | (simp [*]; done)), H', ⟨by have := HK1.out; omega⟩, by repeat (first | exact Drawn0.refl _ | apply Drawn0.step)⟩
  ·rw [if_neg c5] at H
   exact absurd H (by simp)

/-! ### curve_Inverse: function 15 -/
def curve_Inverse.f (k : Nat) (a0 : Int) : Option (Int) := if a0 ≤ 0 then (some 2147483647) else (if (IntKind.u64.wrap (a0)) = 0 then (none) else ((curve_Root.f k ((281474976710656 : Int) / (IntKind.u64.wrap (a0)))).bind fun t102 => (some (wrap32 (t102)))))
theorem curve_Inverse.mono : ∀ a0 k, LeO (curve_Inverse.f k a0) (curve_Inverse.f (k + 1) a0) := by
 intro a0 k
 unfold curve_Inverse.f
 repeat' first
   | (with_reducible exact curve_Root.mono _ _)
   | (with_reducible exact LeO.refl _)
   | (with_reducible exact LeO.none _)
   | (with_reducible refine LeO.ite ?_ ?_)
   | (with_reducible refine LeO.bind ?_ (fun _ => ?_))
   | exact curve_Root.mono _ _
   | exact LeO.none _
   | refine LeO.ite ?_ ?_
   | refine LeO.bind ?_ (fun _ => ?_)
set_option maxHeartbeats 8000000 in
set_option maxRecDepth 100000 in
theorem curve_Inverse.calls (k : Nat) (a0 : Int) (r : Int) (w : World) (h : curve_Inverse.f k a0 = some r) :
  Calls Try.prog 15 #[.int .i32 a0] w fun e w' => e = .returned (.int .i32 r) ∧ Drawn0 w w' := by
 have H : (if a0 ≤ 0 then (some 2147483647) else (if (IntKind.u64.wrap (a0)) = 0 then (none) else ((curve_Root.f k ((281474976710656 : Int) / (IntKind.u64.wrap (a0)))).bind fun t102 => (some (wrap32 (t102)))))) = some r := h
 clear h
 by_cases c2 : a0 ≤ 0
 ·rw [if_pos c2] at H
  have c2b0 : decide (a0 ≤ 0) = true := decide_eq_true c2
  clear c2
  obtain rfl := Option.some.inj H
  go_enter Try.func15, Try.ntmps15
  go_wp2
  go_ret
  exact ⟨by first | rfl | (simp; done) | (simp [*]; done), by repeat (first | exact Drawn0.refl _ | apply Drawn0.step)⟩
 ·rw [if_neg c2] at H
  have c2b0 : decide (a0 ≤ 0) = false := decide_eq_false c2
  clear c2
  by_cases c3 : (IntKind.u64.wrap (a0)) = 0
  ·rw [if_pos c3] at H
   exact absurd H (by simp)
  ·rw [if_neg c3] at H
   have c3b0 : ((IntKind.u64.wrap (a0)) == 0) = false := beq_eq_false_iff_ne.mpr c3
   have c3b1 : ((IntKind.u64.wrap (a0)) != 0) = true := bne_iff_ne.mpr c3
   have c3b2 := u64_nn a0
   replace H := Option.bind_eq_some_iff.mp H
   obtain ⟨t102, A40, H⟩ := H
   replace H : (some (wrap32 (t102))) = some r := H
   have A4 := Aside0.mk A40
   clear A40
   obtain rfl := Option.some.inj H
   go_enter Try.func15, Try.ntmps15
   go_wp2_with (first | ((with_reducible refine gate_callee (f := 13) rfl ?_); refine goesL_ (some 8) rfl rfl Try.func13 (by kernel_rfl) rfl #[.int .u64 ((281474976710656 : Int) / (IntKind.u64.wrap (a0)))] rfl (by (try simp only [List.map_toArray, List.map_cons, List.map_nil]); first | done | rfl | (simp only [List.length_drop, List.length_take]; rfl)) ?_; (with_reducible refine (curve_Root.calls k ((281474976710656 : Int) / (IntKind.u64.wrap (a0))) t102 _ A4.out).mono ?_); rintro e w' ⟨rfl, ⟨nd, rfl⟩⟩; refine ⟨_, rfl, ?_⟩))
   go_ret
   exact ⟨by first | rfl | (simp; done) | (simp [*]; done), by repeat (first | exact Drawn0.refl _ | apply Drawn0.step)⟩

-- NOT PRINTED: function 8 (tillerlaw02_awake)

/-! ### tillerref02_Root: function 14 -/
def tillerref02_Root.l0 : Nat → Int → Int → Int → Option (Int)
 | 0, _, _, _ => none
 | k + 1, x0, x3, x4 => if x4 > 0 then (if (IntKind.u64.wrap ((IntKind.u64.wrap (x3 + x4)) * (IntKind.u64.wrap (x3 + x4)))) ≤ x0 then (tillerref02_Root.l0 k x0 (IntKind.u64.wrap (x3 + x4)) (IntKind.u64.wrap (Int.tdiv x4 2))) else (tillerref02_Root.l0 k x0 x3 (IntKind.u64.wrap (Int.tdiv x4 2)))) else (some x3)
def tillerref02_Root.f (k : Nat) (a0 : Int) : Option (Int) := tillerref02_Root.l0 k a0 0 2147483648
theorem tillerref02_Root.mono_l : ∀ k, (∀ y0 y1 y2, LeO (tillerref02_Root.l0 k y0 y1 y2) (tillerref02_Root.l0 (k + 1) y0 y1 y2))
 | 0 => fun _ _ _ r h => by simp [tillerref02_Root.l0] at h
 | k + 1 => by
  have ih0 := tillerref02_Root.mono_l k
  ·intro y0 y1 y2
   unfold tillerref02_Root.l0
   repeat' first
   | (with_reducible exact ih0 _ _ _)
   | (with_reducible exact LeO.refl _)
   | (with_reducible exact LeO.none _)
   | (with_reducible refine LeO.ite ?_ ?_)
   | (with_reducible refine LeO.bind ?_ (fun _ => ?_))
   | exact ih0 _ _ _
   | exact LeO.none _
   | refine LeO.ite ?_ ?_
   | refine LeO.bind ?_ (fun _ => ?_)
theorem tillerref02_Root.mono : ∀ a0 k, LeO (tillerref02_Root.f k a0) (tillerref02_Root.f (k + 1) a0) := by
 intro a0 k
 have ih0 := tillerref02_Root.mono_l k
 unfold tillerref02_Root.f
 repeat' first
   | (with_reducible exact ih0 _ _ _)
   | (with_reducible exact LeO.refl _)
   | (with_reducible exact LeO.none _)
   | (with_reducible refine LeO.ite ?_ ?_)
   | (with_reducible refine LeO.bind ?_ (fun _ => ?_))
   | exact ih0 _ _ _
   | exact LeO.none _
   | refine LeO.ite ?_ ?_
   | refine LeO.bind ?_ (fun _ => ?_)
set_option maxHeartbeats 8000000 in
set_option maxRecDepth 100000 in
theorem tillerref02_Root.calls (k : Nat) (a0 : Int) (r : Int) (w : World) (h : tillerref02_Root.f k a0 = some r) :
  Calls Try.prog 14 #[.int .u64 a0] w fun e w' => e = .returned (.int .u64 r) ∧ Drawn0 w w' := by
 have H : (tillerref02_Root.l0 k a0 0 2147483648) = some r := h
 clear h
 have H' := Aside0.mk H
 clear H
 go_enter Try.func14, Try.ntmps14
 go_wp2
 go_loopg [3, 4] k (fun kq v3 v4 w' => ∃ (x3_1 : Int) (x4_1 : Int), v3 = .int .u64 x3_1 ∧ v4 = .int .u64 x4_1 ∧ Aside0 (tillerref02_Root.l0 kq a0 x3_1 x4_1 = some r) ∧ Aside0 (kq ≤ k) ∧ Drawn0 w w')
 case atStart => exact ⟨(0), (2147483648), (by first | rfl | (simp; done) | (simp [*]; done)), (by first | rfl | (simp; done) | (simp [*]; done)), H', ⟨Nat.le_refl _⟩, by repeat (first | exact Drawn0.refl _ | apply Drawn0.step)⟩
 case round =>
  clear H'
  try clear c1
  obtain ⟨x3_1, x4_1, rfl, rfl, HA, HK1, ⟨m1, rfl⟩⟩ := hrel
  cases gk with
  | zero => exact absurd HA.out (by simp [tillerref02_Root.l0])
  | succ k1 =>
   have H := HA.out
   clear HA
   simp only [tillerref02_Root.l0] at H
   by_cases c2 : x4_1 > 0
   ·rw [if_pos c2] at H
    have c2b0 : decide (0 < x4_1) = true := decide_eq_true c2
    clear c2
    by_cases c3 : (IntKind.u64.wrap ((IntKind.u64.wrap (x3_1 + x4_1)) * (IntKind.u64.wrap (x3_1 + x4_1)))) ≤ a0
    ·rw [if_pos c3] at H
     have c3b0 : decide ((IntKind.u64.wrap ((IntKind.u64.wrap (x3_1 + x4_1)) * (IntKind.u64.wrap (x3_1 + x4_1)))) ≤ a0) = true := decide_eq_true c3
     clear c3
     have H' := Aside0.mk H
     clear H
     go_wp2
     go_roundg k1
     case measure => have := HK1.out; omega
     case rel => exact ⟨(IntKind.u64.wrap (x3_1 + x4_1)), (IntKind.u64.wrap (Int.tdiv x4_1 2)), (by first | rfl | (simp; done) | (simp [*]; done)), (by first | rfl | (simp; done) | (simp [*]; done)), H', ⟨by have := HK1.out; omega⟩, by repeat (first | exact Drawn0.refl _ | apply Drawn0.step)⟩
    ·rw [if_neg c3] at H
     have c3b0 : decide ((IntKind.u64.wrap ((IntKind.u64.wrap (x3_1 + x4_1)) * (IntKind.u64.wrap (x3_1 + x4_1)))) ≤ a0) = false := decide_eq_false c3
     clear c3
     have H' := Aside0.mk H
     clear H
     go_wp2
     go_roundg k1
     case measure => have := HK1.out; omega
     case rel => exact ⟨(x3_1), (IntKind.u64.wrap (Int.tdiv x4_1 2)), (by first | rfl | (simp; done) | (simp [*]; done)), (by first | rfl | (simp; done) | (simp [*]; done)), H', ⟨by have := HK1.out; omega⟩, by repeat (first | exact Drawn0.refl _ | apply Drawn0.step)⟩
   ·rw [if_neg c2] at H
    have c2b0 : decide (0 < x4_1) = false := decide_eq_false c2
    clear c2
    obtain rfl := Option.some.inj H
    go_wp2
    go_ret
    exact ⟨by first | rfl | (simp; done) | (simp [*]; done), by repeat (first | exact Drawn0.refl _ | apply Drawn0.step)⟩

/-! ### tillerref02_Inverse: function 16 -/
def tillerref02_Inverse.f (k : Nat) (a0 : Int) : Option (Int) := if a0 < 1 then (some 2147483647) else (if (IntKind.u64.wrap (a0)) = 0 then (none) else ((tillerref02_Root.f k ((281474976710656 : Int) / (IntKind.u64.wrap (a0)))).bind fun t106 => (some (wrap32 (t106)))))
theorem tillerref02_Inverse.mono : ∀ a0 k, LeO (tillerref02_Inverse.f k a0) (tillerref02_Inverse.f (k + 1) a0) := by
 intro a0 k
 unfold tillerref02_Inverse.f
 repeat' first
   | (with_reducible exact tillerref02_Root.mono _ _)
   | (with_reducible exact LeO.refl _)
   | (with_reducible exact LeO.none _)
   | (with_reducible refine LeO.ite ?_ ?_)
   | (with_reducible refine LeO.bind ?_ (fun _ => ?_))
   | exact tillerref02_Root.mono _ _
   | exact LeO.none _
   | refine LeO.ite ?_ ?_
   | refine LeO.bind ?_ (fun _ => ?_)
set_option maxHeartbeats 8000000 in
set_option maxRecDepth 100000 in
theorem tillerref02_Inverse.calls (k : Nat) (a0 : Int) (r : Int) (w : World) (h : tillerref02_Inverse.f k a0 = some r) :
  Calls Try.prog 16 #[.int .i32 a0] w fun e w' => e = .returned (.int .i32 r) ∧ Drawn0 w w' := by
 have H : (if a0 < 1 then (some 2147483647) else (if (IntKind.u64.wrap (a0)) = 0 then (none) else ((tillerref02_Root.f k ((281474976710656 : Int) / (IntKind.u64.wrap (a0)))).bind fun t106 => (some (wrap32 (t106)))))) = some r := h
 clear h
 by_cases c2 : a0 < 1
 ·rw [if_pos c2] at H
  have c2b0 : decide (a0 < 1) = true := decide_eq_true c2
  clear c2
  obtain rfl := Option.some.inj H
  go_enter Try.func16, Try.ntmps16
  go_wp2
  go_ret
  exact ⟨by first | rfl | (simp; done) | (simp [*]; done), by repeat (first | exact Drawn0.refl _ | apply Drawn0.step)⟩
 ·rw [if_neg c2] at H
  have c2b0 : decide (a0 < 1) = false := decide_eq_false c2
  clear c2
  by_cases c3 : (IntKind.u64.wrap (a0)) = 0
  ·rw [if_pos c3] at H
   exact absurd H (by simp)
  ·rw [if_neg c3] at H
   have c3b0 : ((IntKind.u64.wrap (a0)) == 0) = false := beq_eq_false_iff_ne.mpr c3
   have c3b1 : ((IntKind.u64.wrap (a0)) != 0) = true := bne_iff_ne.mpr c3
   have c3b2 := u64_nn a0
   replace H := Option.bind_eq_some_iff.mp H
   obtain ⟨t106, A40, H⟩ := H
   replace H : (some (wrap32 (t106))) = some r := H
   have A4 := Aside0.mk A40
   clear A40
   obtain rfl := Option.some.inj H
   go_enter Try.func16, Try.ntmps16
   go_wp2_with (first | ((with_reducible refine gate_callee (f := 14) rfl ?_); refine goesL_ (some 8) rfl rfl Try.func14 (by kernel_rfl) rfl #[.int .u64 ((281474976710656 : Int) / (IntKind.u64.wrap (a0)))] rfl (by (try simp only [List.map_toArray, List.map_cons, List.map_nil]); first | done | rfl | (simp only [List.length_drop, List.length_take]; rfl)) ?_; (with_reducible refine (tillerref02_Root.calls k ((281474976710656 : Int) / (IntKind.u64.wrap (a0))) t106 _ A4.out).mono ?_); rintro e w' ⟨rfl, ⟨nd, rfl⟩⟩; refine ⟨_, rfl, ?_⟩))
   go_ret
   exact ⟨by first | rfl | (simp; done) | (simp [*]; done), by repeat (first | exact Drawn0.refl _ | apply Drawn0.step)⟩

-- NOT PRINTED: function 4 (tillerlaw02_CurveRoots)

/-! ### tillerref02_Step: function 12 -/
def tillerref02_Step.f (a0 : Int) : Option (Int) := (some (([65536, 64830, 64132, 63441, 62757, 62081, 61413, 60751, 60097, 59449, 58809, 58176, 57549, 56929, 56316, 55709, 55109, 54515, 53928, 53347, 52773, 52204, 51642, 51085, 50535, 49991, 49452, 48920, 48393, 47871, 47356, 46846, 46341, 45842, 45348, 44859, 44376, 43898, 43425, 42958, 42495, 42037, 41584, 41136, 40693, 40255, 39821, 39392, 38968, 38548, 38133, 37722, 37316, 36914, 36516, 36123, 35734, 35349, 34968, 34591, 34219, 33850, 33486, 33125, 32768] : List Int) : List Int)).bind fun y107 => (if 0 ≤ a0 then (if a0 < (y107.length : Int) then (some (rd y107 a0)) else (none)) else (none))
set_option maxHeartbeats 8000000 in
set_option maxRecDepth 100000 in
theorem tillerref02_Step.calls (a0 : Int) (r : Int) (w : World) (h : tillerref02_Step.f a0 = some r) :
  Calls Try.prog 12 #[.int .i64 a0] w fun e w' => e = .returned (.int .i64 r) ∧ Below w.heap.size w w' := by
 have HB := Aside0.mk (Below.refl w.heap.size w)
 have H : ((some (([65536, 64830, 64132, 63441, 62757, 62081, 61413, 60751, 60097, 59449, 58809, 58176, 57549, 56929, 56316, 55709, 55109, 54515, 53928, 53347, 52773, 52204, 51642, 51085, 50535, 49991, 49452, 48920, 48393, 47871, 47356, 46846, 46341, 45842, 45348, 44859, 44376, 43898, 43425, 42958, 42495, 42037, 41584, 41136, 40693, 40255, 39821, 39392, 38968, 38548, 38133, 37722, 37316, 36914, 36516, 36123, 35734, 35349, 34968, 34591, 34219, 33850, 33486, 33125, 32768] : List Int) : List Int)).bind fun y107 => (if 0 ≤ a0 then (if a0 < (y107.length : Int) then (some (rd y107 a0)) else (none)) else (none))) = some r := h
 clear h
 obtain ⟨y107, hy107⟩ : ∃ y_ : List Int, y_ = (([65536, 64830, 64132, 63441, 62757, 62081, 61413, 60751, 60097, 59449, 58809, 58176, 57549, 56929, 56316, 55709, 55109, 54515, 53928, 53347, 52773, 52204, 51642, 51085, 50535, 49991, 49452, 48920, 48393, 47871, 47356, 46846, 46341, 45842, 45348, 44859, 44376, 43898, 43425, 42958, 42495, 42037, 41584, 41136, 40693, 40255, 39821, 39392, 38968, 38548, 38133, 37722, 37316, 36914, 36516, 36123, 35734, 35349, 34968, 34591, 34219, 33850, 33486, 33125, 32768] : List Int)) := ⟨_, rfl⟩
 replace H : (if 0 ≤ a0 then (if a0 < (y107.length : Int) then (some (rd y107 a0)) else (none)) else (none)) = some r := by first | (rw [hy107]; with_reducible exact H) | (have H2_ := (Option.bind_some _ _).symm.trans H; rw [hy107]; with_reducible exact H2_) | (have H2_ := (Option.bind_some _ _).symm.trans H; with_reducible exact H2_) | with_reducible exact H | (rw [hy107]; exact H) | exact H
 have Ny107 := Aside0.mk hy107
 clear hy107
 by_cases c2 : 0 ≤ a0
 ·rw [if_pos c2] at H
  have c2b0 : decide (0 ≤ a0) = true := decide_eq_true c2
  clear c2
  by_cases c3 : a0 < (y107.length : Int)
  ·rw [if_pos c3] at H
   have c3b0 : decide (a0 < (y107.length : Int)) = true := decide_eq_true c3
   clear c3
   obtain rfl := Option.some.inj H
   go_enter Try.func12, Try.ntmps12
   go_wp2_with (first | ((with_reducible refine gate_dst (N := 4) rfl ?_); refine Kd.R_lit (Kd.int .i64) _ 2 ?hg (N := 4) ?hd (xs := ([65536, 64830, 64132, 63441, 62757, 62081, 61413, 60751, 60097, 59449, 58809, 58176, 57549, 56929, 56316, 55709, 55109, 54515, 53928, 53347, 52773, 52204, 51642, 51085, 50535, 49991, 49452, 48920, 48393, 47871, 47356, 46846, 46341, 45842, 45348, 44859, 44376, 43898, 43425, 42958, 42495, 42037, 41584, 41136, 40693, 40255, 39821, 39392, 38968, 38548, 38133, 37722, 37316, 36914, 36516, 36123, 35734, 35349, 34968, 34591, 34219, 33850, 33486, 33125, 32768] : List Int)) (inner := [.int .i64 65536, .int .i64 64830, .int .i64 64132, .int .i64 63441, .int .i64 62757, .int .i64 62081, .int .i64 61413, .int .i64 60751, .int .i64 60097, .int .i64 59449, .int .i64 58809, .int .i64 58176, .int .i64 57549, .int .i64 56929, .int .i64 56316, .int .i64 55709, .int .i64 55109, .int .i64 54515, .int .i64 53928, .int .i64 53347, .int .i64 52773, .int .i64 52204, .int .i64 51642, .int .i64 51085, .int .i64 50535, .int .i64 49991, .int .i64 49452, .int .i64 48920, .int .i64 48393, .int .i64 47871, .int .i64 47356, .int .i64 46846, .int .i64 46341, .int .i64 45842, .int .i64 45348, .int .i64 44859, .int .i64 44376, .int .i64 43898, .int .i64 43425, .int .i64 42958, .int .i64 42495, .int .i64 42037, .int .i64 41584, .int .i64 41136, .int .i64 40693, .int .i64 40255, .int .i64 39821, .int .i64 39392, .int .i64 38968, .int .i64 38548, .int .i64 38133, .int .i64 37722, .int .i64 37316, .int .i64 36914, .int .i64 36516, .int .i64 36123, .int .i64 35734, .int .i64 35349, .int .i64 34968, .int .i64 34591, .int .i64 34219, .int .i64 33850, .int .i64 33486, .int .i64 33125, .int .i64 32768]) (ok := fun _ => True) (okp := fun _ => True) ?hr ?hp (fun _ hk => hk) trivial (Below.refl _ _) (Nat.le_refl _) (by simp) ?_; (case hd => rfl); (case hg => rfl); (case hr => first | (go_simp; done) | (go_simp; rfl)); (case hp => exact (Reps.one (show Kd.M (Kd.int .i64) _ _ _ 65536 [.int .i64 65536] from rfl) (Reps.one (show Kd.M (Kd.int .i64) _ _ _ 64830 [.int .i64 64830] from rfl) (Reps.one (show Kd.M (Kd.int .i64) _ _ _ 64132 [.int .i64 64132] from rfl) (Reps.one (show Kd.M (Kd.int .i64) _ _ _ 63441 [.int .i64 63441] from rfl) (Reps.one (show Kd.M (Kd.int .i64) _ _ _ 62757 [.int .i64 62757] from rfl) (Reps.one (show Kd.M (Kd.int .i64) _ _ _ 62081 [.int .i64 62081] from rfl) (Reps.one (show Kd.M (Kd.int .i64) _ _ _ 61413 [.int .i64 61413] from rfl) (Reps.one (show Kd.M (Kd.int .i64) _ _ _ 60751 [.int .i64 60751] from rfl) (Reps.one (show Kd.M (Kd.int .i64) _ _ _ 60097 [.int .i64 60097] from rfl) (Reps.one (show Kd.M (Kd.int .i64) _ _ _ 59449 [.int .i64 59449] from rfl) (Reps.one (show Kd.M (Kd.int .i64) _ _ _ 58809 [.int .i64 58809] from rfl) (Reps.one (show Kd.M (Kd.int .i64) _ _ _ 58176 [.int .i64 58176] from rfl) (Reps.one (show Kd.M (Kd.int .i64) _ _ _ 57549 [.int .i64 57549] from rfl) (Reps.one (show Kd.M (Kd.int .i64) _ _ _ 56929 [.int .i64 56929] from rfl) (Reps.one (show Kd.M (Kd.int .i64) _ _ _ 56316 [.int .i64 56316] from rfl) (Reps.one (show Kd.M (Kd.int .i64) _ _ _ 55709 [.int .i64 55709] from rfl) (Reps.one (show Kd.M (Kd.int .i64) _ _ _ 55109 [.int .i64 55109] from rfl) (Reps.one (show Kd.M (Kd.int .i64) _ _ _ 54515 [.int .i64 54515] from rfl) (Reps.one (show Kd.M (Kd.int .i64) _ _ _ 53928 [.int .i64 53928] from rfl) (Reps.one (show Kd.M (Kd.int .i64) _ _ _ 53347 [.int .i64 53347] from rfl) (Reps.one (show Kd.M (Kd.int .i64) _ _ _ 52773 [.int .i64 52773] from rfl) (Reps.one (show Kd.M (Kd.int .i64) _ _ _ 52204 [.int .i64 52204] from rfl) (Reps.one (show Kd.M (Kd.int .i64) _ _ _ 51642 [.int .i64 51642] from rfl) (Reps.one (show Kd.M (Kd.int .i64) _ _ _ 51085 [.int .i64 51085] from rfl) (Reps.one (show Kd.M (Kd.int .i64) _ _ _ 50535 [.int .i64 50535] from rfl) (Reps.one (show Kd.M (Kd.int .i64) _ _ _ 49991 [.int .i64 49991] from rfl) (Reps.one (show Kd.M (Kd.int .i64) _ _ _ 49452 [.int .i64 49452] from rfl) (Reps.one (show Kd.M (Kd.int .i64) _ _ _ 48920 [.int .i64 48920] from rfl) (Reps.one (show Kd.M (Kd.int .i64) _ _ _ 48393 [.int .i64 48393] from rfl) (Reps.one (show Kd.M (Kd.int .i64) _ _ _ 47871 [.int .i64 47871] from rfl) (Reps.one (show Kd.M (Kd.int .i64) _ _ _ 47356 [.int .i64 47356] from rfl) (Reps.one (show Kd.M (Kd.int .i64) _ _ _ 46846 [.int .i64 46846] from rfl) (Reps.one (show Kd.M (Kd.int .i64) _ _ _ 46341 [.int .i64 46341] from rfl) (Reps.one (show Kd.M (Kd.int .i64) _ _ _ 45842 [.int .i64 45842] from rfl) (Reps.one (show Kd.M (Kd.int .i64) _ _ _ 45348 [.int .i64 45348] from rfl) (Reps.one (show Kd.M (Kd.int .i64) _ _ _ 44859 [.int .i64 44859] from rfl) (Reps.one (show Kd.M (Kd.int .i64) _ _ _ 44376 [.int .i64 44376] from rfl) (Reps.one (show Kd.M (Kd.int .i64) _ _ _ 43898 [.int .i64 43898] from rfl) (Reps.one (show Kd.M (Kd.int .i64) _ _ _ 43425 [.int .i64 43425] from rfl) (Reps.one (show Kd.M (Kd.int .i64) _ _ _ 42958 [.int .i64 42958] from rfl) (Reps.one (show Kd.M (Kd.int .i64) _ _ _ 42495 [.int .i64 42495] from rfl) (Reps.one (show Kd.M (Kd.int .i64) _ _ _ 42037 [.int .i64 42037] from rfl) (Reps.one (show Kd.M (Kd.int .i64) _ _ _ 41584 [.int .i64 41584] from rfl) (Reps.one (show Kd.M (Kd.int .i64) _ _ _ 41136 [.int .i64 41136] from rfl) (Reps.one (show Kd.M (Kd.int .i64) _ _ _ 40693 [.int .i64 40693] from rfl) (Reps.one (show Kd.M (Kd.int .i64) _ _ _ 40255 [.int .i64 40255] from rfl) (Reps.one (show Kd.M (Kd.int .i64) _ _ _ 39821 [.int .i64 39821] from rfl) (Reps.one (show Kd.M (Kd.int .i64) _ _ _ 39392 [.int .i64 39392] from rfl) (Reps.one (show Kd.M (Kd.int .i64) _ _ _ 38968 [.int .i64 38968] from rfl) (Reps.one (show Kd.M (Kd.int .i64) _ _ _ 38548 [.int .i64 38548] from rfl) (Reps.one (show Kd.M (Kd.int .i64) _ _ _ 38133 [.int .i64 38133] from rfl) (Reps.one (show Kd.M (Kd.int .i64) _ _ _ 37722 [.int .i64 37722] from rfl) (Reps.one (show Kd.M (Kd.int .i64) _ _ _ 37316 [.int .i64 37316] from rfl) (Reps.one (show Kd.M (Kd.int .i64) _ _ _ 36914 [.int .i64 36914] from rfl) (Reps.one (show Kd.M (Kd.int .i64) _ _ _ 36516 [.int .i64 36516] from rfl) (Reps.one (show Kd.M (Kd.int .i64) _ _ _ 36123 [.int .i64 36123] from rfl) (Reps.one (show Kd.M (Kd.int .i64) _ _ _ 35734 [.int .i64 35734] from rfl) (Reps.one (show Kd.M (Kd.int .i64) _ _ _ 35349 [.int .i64 35349] from rfl) (Reps.one (show Kd.M (Kd.int .i64) _ _ _ 34968 [.int .i64 34968] from rfl) (Reps.one (show Kd.M (Kd.int .i64) _ _ _ 34591 [.int .i64 34591] from rfl) (Reps.one (show Kd.M (Kd.int .i64) _ _ _ 34219 [.int .i64 34219] from rfl) (Reps.one (show Kd.M (Kd.int .i64) _ _ _ 33850 [.int .i64 33850] from rfl) (Reps.one (show Kd.M (Kd.int .i64) _ _ _ 33486 [.int .i64 33486] from rfl) (Reps.one (show Kd.M (Kd.int .i64) _ _ _ 33125 [.int .i64 33125] from rfl) (Reps.one (show Kd.M (Kd.int .i64) _ _ _ 32768 [.int .i64 32768] from rfl) (Reps.none _ _))))))))))))))))))))))))))))))))))))))))))))))))))))))))))))))))))); intro v108 w4 ho5 hb hg_ hnew_; clear hg_ hnew_; (first | rw [← Ny107.out] at ho5 | (simp only [Int.reduceToNat] at ho5; rw [← Ny107.out] at ho5)); have n0_ := Aside0.mk (Kd.R_lower ho5 (below_size (by repeat (first | (with_reducible first | exact HB.out | apply bwA | apply bwN | apply bwD) | exact HB.out)))); have n1_ := Aside0.mk (below_step (by repeat (first | (with_reducible first | exact HB.out | apply bwA | apply bwN | apply bwD) | exact HB.out)) hb); clear HB; have HO109 := n0_; have HB := n1_; clear n0_ n1_; clear hb ho5; obtain ⟨Ao6, co6, eo6⟩ := Kd.R_slice HO109.out; subst eo6; have p110 : 0 ≤ (a0 : Int) := ofd_; have q110 : a0 < (y107.length : Int) := ofd_; obtain ⟨ad110, e110, hx110_0⟩ := Kd.at_int (Kd.R_reads' HO109.out).2.2 a0 p110 q110; cases e110; replace p110 := eq_true p110; replace q110 := eq_true q110))
   go_ret
   exact ⟨by first | rfl | (simp [errW_none, errW_some] <;> rfl) | (simp [*, errW_none, errW_some] <;> rfl), by repeat (first | (with_reducible first | exact HB.out | apply bwA | apply bwN | apply bwD) | exact HB.out)⟩
  ·rw [if_neg c3] at H
   exact absurd H (by simp)
 ·rw [if_neg c2] at H
  exact absurd H (by simp)

end Go.Proofs.Ytidmffdeeopgcaa.GR
