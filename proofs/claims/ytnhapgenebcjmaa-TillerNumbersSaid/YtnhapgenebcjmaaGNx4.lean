-- written by this session's program gprint.py
import Derived.Test.YtnhapgenebcjmaaGNx0
import Derived.Test.YtnhapgenebcjmaaWLast
import Derived.Test.YtnhapgenebcjmaaWMore
import Derived.Test.YtnhapgenebcjmaaWWords
namespace Go.Proofs.Ytnhapgenebcjmaa.GN
open Go.RowKit Go.Proofs.YtnhapgenebcjmaaW.PrintWords Go.Proofs.YtnhapgenebcjmaaW.PrintLast Go.Proofs.YtnhapgenebcjmaaW.PrintMore Go.Proofs.Ytnhapgenebcjmaa.GText Go.Proofs.Ytnhapgenebcjmaa.GParse Go.Proofs.Ytnhapgenebcjmaa.GLen Go.Proofs.Ytnhapgenebcjmaa.GCurve
attribute [local go_sem] max2_int min2_int max_two min_two max_three min_three max_four min_four   -- for this text's walks alone
set_option linter.unusedVariables false
set_option linter.unusedSimpArgs false

-- NOT PRINTED: function 36 (curve_Steps)

/-! ### curve_Root: function 37 -/
def curve_Root.l0 : Nat → Int → Int → Option (Int)
 | 0, _, _ => none
 | k + 1, x0, x3 => if x3 = 0 then (none) else (if (IntKind.u64.wrap (Int.tdiv (IntKind.u64.wrap (x3 + (IntKind.u64.wrap (Int.tdiv x0 x3)))) 2)) ≥ x3 then (some x3) else (curve_Root.l0 k x0 (IntKind.u64.wrap (Int.tdiv (IntKind.u64.wrap (x3 + (IntKind.u64.wrap (Int.tdiv x0 x3)))) 2))))
def curve_Root.f (k : Nat) (a0 : Int) : Option (Int) := if a0 = 0 then (some 0) else ((bits_Len64.f a0).bind fun t108 => (if 0 ≤ (wrap64 (Int.tdiv (wrap64 (t108 + 1)) 2)) then (curve_Root.l0 k a0 (shl .u64 1 (wrap64 (Int.tdiv (wrap64 (t108 + 1)) 2)))) else (none)))
theorem curve_Root.mono_l : ∀ k, (∀ y0 y1, LeO (curve_Root.l0 k y0 y1) (curve_Root.l0 (k + 1) y0 y1))
 | 0 => fun _ _ r h => by simp [curve_Root.l0] at h
 | k + 1 => by
  have ih0 := curve_Root.mono_l k
  ·intro y0 y1
   unfold curve_Root.l0
   repeat' first
   | (with_reducible exact ih0 _ _)
   | (with_reducible exact LeO.refl _)
   | (with_reducible exact LeO.none _)
   | (with_reducible refine LeO.ite ?_ ?_)
   | (with_reducible refine LeO.bind ?_ (fun _ => ?_))
   | exact ih0 _ _
   | exact LeO.none _
   | refine LeO.ite ?_ ?_
   | refine LeO.bind ?_ (fun _ => ?_)
theorem curve_Root.mono : ∀ a0 k, LeO (curve_Root.f k a0) (curve_Root.f (k + 1) a0) := by
 intro a0 k
 have ih0 := curve_Root.mono_l k
 unfold curve_Root.f
 repeat' first
   | (with_reducible exact ih0 _ _)
   | (with_reducible exact LeO.refl _)
   | (with_reducible exact LeO.none _)
   | (with_reducible refine LeO.ite ?_ ?_)
   | (with_reducible refine LeO.bind ?_ (fun _ => ?_))
   | exact ih0 _ _
   | exact LeO.none _
   | refine LeO.ite ?_ ?_
   | refine LeO.bind ?_ (fun _ => ?_)
set_option maxHeartbeats 8000000 in
set_option maxRecDepth 100000 in
theorem curve_Root.calls (k : Nat) (a0 : Int) (r : Int) (w : World) (h : curve_Root.f k a0 = some r) :
  Calls Try.prog 37 #[.int .u64 a0] w fun e w' => e = .returned (.int .u64 r) ∧ Drawn0 w w' := by
 have H : (if a0 = 0 then (some 0) else ((bits_Len64.f a0).bind fun t108 => (if 0 ≤ (wrap64 (Int.tdiv (wrap64 (t108 + 1)) 2)) then (curve_Root.l0 k a0 (shl .u64 1 (wrap64 (Int.tdiv (wrap64 (t108 + 1)) 2)))) else (none)))) = some r := h
 clear h
 by_cases c2 : a0 = 0
 ·rw [if_pos c2] at H
  have c2b0 : (a0 == 0) = true := beq_iff_eq.mpr c2
  have c2b1 : (a0 != 0) = false := bne_eq_false_iff_eq.mpr c2
  clear c2
  obtain rfl := Option.some.inj H
  go_enter Try.func37, Try.ntmps37
  go_wp2
  go_ret
  exact ⟨by first | rfl | (simp; done) | (simp [*]; done), by repeat (first | exact Drawn0.refl _ | apply Drawn0.step)⟩
 ·rw [if_neg c2] at H
  have c2b0 : (a0 == 0) = false := beq_eq_false_iff_ne.mpr c2
  have c2b1 : (a0 != 0) = true := bne_iff_ne.mpr c2
  replace H := Option.bind_eq_some_iff.mp H
  obtain ⟨t108, A30, H⟩ := H
  replace H : (if 0 ≤ (wrap64 (Int.tdiv (wrap64 (t108 + 1)) 2)) then (curve_Root.l0 k a0 (shl .u64 1 (wrap64 (Int.tdiv (wrap64 (t108 + 1)) 2)))) else (none)) = some r := H
  have A3 := Aside0.mk A30
  clear A30
  obtain ⟨ji4, hji4⟩ : ∃ j_ : Int, (wrap64 (Int.tdiv (wrap64 (t108 + 1)) 2)) = j_ := ⟨_, rfl⟩
  replace H : (if 0 ≤ (ji4) then (curve_Root.l0 k a0 (shl .u64 1 (ji4))) else (none)) = some r := by first | (rw [hji4] at H; exact H) | (simp only [hji4] at H ⊢; exact H)
  (try rw [hji4] at A3)
  have hji4w : (IntKind.i64.wrap (Int.tdiv (wrap64 (t108 + 1)) 2)) = ji4 := (i64_w _).trans hji4
  by_cases c5 : 0 ≤ (ji4)
  ·rw [if_pos c5] at H
   have c5b0 := eq_true c5
   have c5b1 : decide (0 ≤ (ji4)) = true := decide_eq_true c5
   clear c5
   obtain ⟨ji6, hji6⟩ : ∃ j_ : Int, (shl .u64 1 (ji4)) = j_ := ⟨_, rfl⟩
   replace H : (curve_Root.l0 k a0 ji6) = some r := by first | (rw [hji6] at H; exact H) | (simp only [hji6] at H ⊢; exact H)
   (try rw [hji6] at A3)
   have hji6_ : (IntKind.u64.wrap (1 * 2 ^ min (ji4).toNat 64)) = ji6 := hji6
   have hji6z : (ji4) ≤ 64 → (IntKind.u64.wrap (1 * 2 ^ (ji4).toNat)) = ji6 := shl_small hji6
   have hji6u : (IntKind.u64.wrap (2 ^ min (ji4).toNat 64)) = ji6 := by have h_ := hji6_; rw [Int.one_mul] at h_; exact h_
   have hji6v : (ji4) ≤ 64 → (IntKind.u64.wrap (2 ^ (ji4).toNat)) = ji6 := fun hle_ => by have h_ := hji6z hle_; rw [Int.one_mul] at h_; exact h_
   have H' := Aside0.mk H
   clear H
   go_enter Try.func37, Try.ntmps37
   go_wp2_with (first | ((with_reducible refine gate_callee (f := 41) rfl ?_); refine goesL_ (some 8) rfl rfl Try.func41 (by kernel_rfl) rfl #[.int .u64 a0] rfl (by (try simp only [List.map_toArray, List.map_cons, List.map_nil]); first | done | rfl | (simp only [List.length_drop, List.length_take]; rfl)) ?_; (with_reducible refine (bits_Len64.calls a0 t108 _ A3.out).mono ?_); rintro e w' ⟨rfl, ⟨nd, rfl⟩⟩; refine ⟨_, rfl, ?_⟩))
   go_loopg [3] k (fun kq v3 w' => ∃ (x3_1 : Int), v3 = .int .u64 x3_1 ∧ Aside0 (curve_Root.l0 kq a0 x3_1 = some r) ∧ Aside0 (kq ≤ k) ∧ Drawn0 w w')
   case atStart => exact ⟨(ji6), (by first | rfl | (simp; done) | (simp only [← hji6] <;> (first | rfl | simp)) | (simp [*]; done)), H', ⟨Nat.le_refl _⟩, by repeat (first | exact Drawn0.refl _ | apply Drawn0.step)⟩
   case round =>
    clear H'
    try clear c2
    try clear c2b0
    try clear c2b1
    try clear p2
    try clear c3
    try clear c4
    try clear c5
    try clear c5b0
    try clear c5b1
    try clear p6
    obtain ⟨x3_1, rfl, HA, HK1, ⟨m1, rfl⟩⟩ := hrel
    cases gk with
    | zero => exact absurd HA.out (by simp [curve_Root.l0])
    | succ k1 =>
     have H := HA.out
     clear HA
     simp only [curve_Root.l0] at H
     by_cases c7 : x3_1 = 0
     ·rw [if_pos c7] at H
      exact absurd H (by simp)
     ·rw [if_neg c7] at H
      have c7b0 : (x3_1 == 0) = false := beq_eq_false_iff_ne.mpr c7
      have c7b1 : (x3_1 != 0) = true := bne_iff_ne.mpr c7
      by_cases c8 : (IntKind.u64.wrap (Int.tdiv (IntKind.u64.wrap (x3_1 + (IntKind.u64.wrap (Int.tdiv a0 x3_1)))) 2)) ≥ x3_1
      ·rw [if_pos c8] at H
       have c8b0 : decide (x3_1 ≤ (IntKind.u64.wrap (Int.tdiv (IntKind.u64.wrap (x3_1 + (IntKind.u64.wrap (Int.tdiv a0 x3_1)))) 2))) = true := decide_eq_true c8
       clear c8
       obtain rfl := Option.some.inj H
       go_wp2
       go_ret
       exact ⟨by first | rfl | (simp; done) | (simp only [← hji4, ← hji6] <;> (first | rfl | simp)) | (simp [*]; done), by repeat (first | exact Drawn0.refl _ | apply Drawn0.step)⟩
      ·rw [if_neg c8] at H
       have c8b0 : decide (x3_1 ≤ (IntKind.u64.wrap (Int.tdiv (IntKind.u64.wrap (x3_1 + (IntKind.u64.wrap (Int.tdiv a0 x3_1)))) 2))) = false := decide_eq_false c8
       clear c8
       have H' := Aside0.mk H
       clear H
       go_wp2
       go_roundg k1
       case measure => have := HK1.out; omega
       case rel => exact ⟨(IntKind.u64.wrap (Int.tdiv (IntKind.u64.wrap (x3_1 + (IntKind.u64.wrap (Int.tdiv a0 x3_1)))) 2)), (by first | rfl | (simp; done) | (simp [*]; done)), H', ⟨by have := HK1.out; omega⟩, by repeat (first | exact Drawn0.refl _ | apply Drawn0.step)⟩
  ·rw [if_neg c5] at H
   exact absurd H (by simp)

/-! ### curve_Inverse: function 29 -/
def curve_Inverse.f (k : Nat) (a0 : Int) : Option (Int) := if a0 ≤ 0 then (some 2147483647) else (if (IntKind.u64.wrap (a0)) = 0 then (none) else ((curve_Root.f k ((281474976710656 : Int) / (IntKind.u64.wrap (a0)))).bind fun t109 => (some (wrap32 (t109)))))
theorem curve_Inverse.mono : ∀ a0 k, LeO (curve_Inverse.f k a0) (curve_Inverse.f (k + 1) a0) := by
 intro a0 k
 unfold curve_Inverse.f
 repeat' first
   | (with_reducible exact curve_Root.mono _ _)
   | (with_reducible exact LeO.refl _)
   | (with_reducible exact LeO.none _)
   | (with_reducible refine LeO.ite ?_ ?_)
   | (with_reducible refine LeO.bind ?_ (fun _ => ?_))
   | exact curve_Root.mono _ _
   | exact LeO.none _
   | refine LeO.ite ?_ ?_
   | refine LeO.bind ?_ (fun _ => ?_)
set_option maxHeartbeats 8000000 in
set_option maxRecDepth 100000 in
theorem curve_Inverse.calls (k : Nat) (a0 : Int) (r : Int) (w : World) (h : curve_Inverse.f k a0 = some r) :
  Calls Try.prog 29 #[.int .i32 a0] w fun e w' => e = .returned (.int .i32 r) ∧ Drawn0 w w' := by
 have H : (if a0 ≤ 0 then (some 2147483647) else (if (IntKind.u64.wrap (a0)) = 0 then (none) else ((curve_Root.f k ((281474976710656 : Int) / (IntKind.u64.wrap (a0)))).bind fun t109 => (some (wrap32 (t109)))))) = some r := h
 clear h
 by_cases c2 : a0 ≤ 0
 ·rw [if_pos c2] at H
  have c2b0 : decide (a0 ≤ 0) = true := decide_eq_true c2
  clear c2
  obtain rfl := Option.some.inj H
  go_enter Try.func29, Try.ntmps29
  go_wp2
  go_ret
  exact ⟨by first | rfl | (simp; done) | (simp [*]; done), by repeat (first | exact Drawn0.refl _ | apply Drawn0.step)⟩
 ·rw [if_neg c2] at H
  have c2b0 : decide (a0 ≤ 0) = false := decide_eq_false c2
  clear c2
  by_cases c3 : (IntKind.u64.wrap (a0)) = 0
  ·rw [if_pos c3] at H
   exact absurd H (by simp)
  ·rw [if_neg c3] at H
   have c3b0 : ((IntKind.u64.wrap (a0)) == 0) = false := beq_eq_false_iff_ne.mpr c3
   have c3b1 : ((IntKind.u64.wrap (a0)) != 0) = true := bne_iff_ne.mpr c3
   have c3b2 := u64_nn a0
   replace H := Option.bind_eq_some_iff.mp H
   obtain ⟨t109, A40, H⟩ := H
   replace H : (some (wrap32 (t109))) = some r := H
   have A4 := Aside0.mk A40
   clear A40
   obtain rfl := Option.some.inj H
   go_enter Try.func29, Try.ntmps29
   go_wp2_with (first | ((with_reducible refine gate_callee (f := 37) rfl ?_); refine goesL_ (some 8) rfl rfl Try.func37 (by kernel_rfl) rfl #[.int .u64 ((281474976710656 : Int) / (IntKind.u64.wrap (a0)))] rfl (by (try simp only [List.map_toArray, List.map_cons, List.map_nil]); first | done | rfl | (simp only [List.length_drop, List.length_take]; rfl)) ?_; (with_reducible refine (curve_Root.calls k ((281474976710656 : Int) / (IntKind.u64.wrap (a0))) t109 _ A4.out).mono ?_); rintro e w' ⟨rfl, ⟨nd, rfl⟩⟩; refine ⟨_, rfl, ?_⟩))
   go_ret
   exact ⟨by first | rfl | (simp; done) | (simp [*]; done), by repeat (first | exact Drawn0.refl _ | apply Drawn0.step)⟩

end Go.Proofs.Ytnhapgenebcjmaa.GN
