-- written by this session's program gprint.py
import Derived.Test.YtnhapgenebcjmaaGVx0
import Derived.Test.YtnhapgenebcjmaaWGuard
import Derived.Test.YtnhapgenebcjmaaWLast
import Derived.Test.YtnhapgenebcjmaaWMore
import Derived.Test.YtnhapgenebcjmaaWWords
namespace Go.Proofs.Ytnhapgenebcjmaa.GV
open Go.RowKit Go.Proofs.YtnhapgenebcjmaaW.PrintWords Go.Proofs.YtnhapgenebcjmaaW.PrintLast Go.Proofs.YtnhapgenebcjmaaW.PrintMore Go.Proofs.Ytnhapgenebcjmaa.GText Go.Proofs.Ytnhapgenebcjmaa.GParse Go.Proofs.Ytnhapgenebcjmaa.GForm
attribute [local go_sem] max2_int min2_int max_two min_two max_three min_three max_four min_four   -- for this text's walks alone
set_option linter.unusedVariables false
set_option linter.unusedSimpArgs false

/-! ### tillerref01_Parse: function 26 -/
mutual
def tillerref01_Parse.l0 : Nat → Bool → ByteArray → ByteArray → Int → Int → Option (Int × Int)
 | 0, _, _, _, _, _ => none
 | k + 1, x4, x5, x6, x8, x9 => if x9 < (x5.size : Int) then (if 0 ≤ x9 then (tillerref01_Parse.l0 k x4 x5 x6 (wrap64 ((wrap64 (10 * x8)) + (((bt x5 x9) - 48) % 256))) (wrap64 (x9 + 1))) else (none)) else (tillerref01_Parse.l1 k x4 x6 x8 0 (([] : List Int)) (wrap64 ((x6.size : Int) - 1)))
def tillerref01_Parse.l1 : Nat → Bool → ByteArray → Int → Int → List Int → Int → Option (Int × Int)
 | 0, _, _, _, _, _, _ => none
 | k + 1, x4, x6, x8, x10, x11, x12 => if x12 ≥ 0 then (if 0 ≤ x12 then (if x12 < (x6.size : Int) then (if x11.length < 17592186044416 then (tillerref01_Parse.l1 k x4 x6 x8 (wrap64 (Int.tdiv (wrap64 (((((bt x6 x12) - 48) % 256) * 65536) + x10)) 10)) (x11 ++ [Int.tmod (wrap64 (((((bt x6 x12) - 48) % 256) * 65536) + x10)) 10]) (wrap64 (x12 - 1))) else (none)) else (none)) else (none)) else (if (x11.length : Int) > 0 then (if 0 ≤ (wrap64 ((x11.length : Int) - 1)) then (if (wrap64 ((x11.length : Int) - 1)) < (x11.length : Int) then (tillerref01_Parse.j2 k x4 (wrap64 ((wrap64 (x8 * 65536)) + x10)) (decide ((rd x11 (wrap64 ((x11.length : Int) - 1))) ≥ 5))) else (none)) else (none)) else (tillerref01_Parse.j2 k x4 (wrap64 ((wrap64 (x8 * 65536)) + x10)) false))
def tillerref01_Parse.j2 : Nat → Bool → Int → Bool → Option (Int × Int)
 | 0, _, _, _ => none
 | k + 1, x4, x14, x76 => if x76 = true then (tillerref01_Parse.j3 k x4 (wrap64 (x14 + 1))) else (tillerref01_Parse.j3 k x4 x14)
def tillerref01_Parse.j3 : Nat → Bool → Int → Option (Int × Int)
 | 0, _, _ => none
 | k + 1, x4, x14 => if x14 > 2147483647 then (some (0, 2)) else (if x4 = true then (some (wrap32 (wrap64 (-x14)), 0)) else (some (wrap32 (x14), 0)))
end
def tillerref01_Parse.f (k : Nat) (a0 : ByteArray) : Option (Int × Int) := (tillerref01_Form.f a0).bind fun bt118 => (if bt118.2.2.2 = true then (tillerref01_Parse.l0 k bt118.1 bt118.2.1 bt118.2.2.1 0 0) else (some (0, 3)))
theorem tillerref01_Parse.mono_l : ∀ k, (∀ y0 y1 y2 y3 y4, LeO (tillerref01_Parse.l0 k y0 y1 y2 y3 y4) (tillerref01_Parse.l0 (k + 1) y0 y1 y2 y3 y4)) ∧ (∀ y0 y1 y2 y3 y4 y5, LeO (tillerref01_Parse.l1 k y0 y1 y2 y3 y4 y5) (tillerref01_Parse.l1 (k + 1) y0 y1 y2 y3 y4 y5)) ∧ (∀ y0 y1 y2, LeO (tillerref01_Parse.j2 k y0 y1 y2) (tillerref01_Parse.j2 (k + 1) y0 y1 y2)) ∧ (∀ y0 y1, LeO (tillerref01_Parse.j3 k y0 y1) (tillerref01_Parse.j3 (k + 1) y0 y1))
 | 0 => ⟨fun _ _ _ _ _ r h => by simp [tillerref01_Parse.l0] at h, fun _ _ _ _ _ _ r h => by simp [tillerref01_Parse.l1] at h, fun _ _ _ r h => by simp [tillerref01_Parse.j2] at h, fun _ _ r h => by simp [tillerref01_Parse.j3] at h⟩
 | k + 1 => by
  obtain ⟨ih0, ih1, ih2, ih3⟩ := tillerref01_Parse.mono_l k
  refine ⟨?_, ?_, ?_, ?_⟩
  ·intro y0 y1 y2 y3 y4
   unfold tillerref01_Parse.l0
   repeat' first
   | (with_reducible exact ih0 _ _ _ _ _)
   | (with_reducible exact ih1 _ _ _ _ _ _)
   | (with_reducible exact ih2 _ _ _)
   | (with_reducible exact ih3 _ _)
   | (with_reducible exact LeO.refl _)
   | (with_reducible exact LeO.none _)
   | (with_reducible refine LeO.ite ?_ ?_)
   | (with_reducible refine LeO.bind ?_ (fun _ => ?_))
   | exact ih0 _ _ _ _ _
   | exact ih1 _ _ _ _ _ _
   | exact ih2 _ _ _
   | exact ih3 _ _
   | exact LeO.none _
   | refine LeO.ite ?_ ?_
   | refine LeO.bind ?_ (fun _ => ?_)
  ·intro y0 y1 y2 y3 y4 y5
   unfold tillerref01_Parse.l1
   repeat' first
   | (with_reducible exact ih0 _ _ _ _ _)
   | (with_reducible exact ih1 _ _ _ _ _ _)
   | (with_reducible exact ih2 _ _ _)
   | (with_reducible exact ih3 _ _)
   | (with_reducible exact LeO.refl _)
   | (with_reducible exact LeO.none _)
   | (with_reducible refine LeO.ite ?_ ?_)
   | (with_reducible refine LeO.bind ?_ (fun _ => ?_))
   | exact ih0 _ _ _ _ _
   | exact ih1 _ _ _ _ _ _
   | exact ih2 _ _ _
   | exact ih3 _ _
   | exact LeO.none _
   | refine LeO.ite ?_ ?_
   | refine LeO.bind ?_ (fun _ => ?_)
  ·intro y0 y1 y2
   unfold tillerref01_Parse.j2
   repeat' first
   | (with_reducible exact ih0 _ _ _ _ _)
   | (with_reducible exact ih1 _ _ _ _ _ _)
   | (with_reducible exact ih2 _ _ _)
   | (with_reducible exact ih3 _ _)
   | (with_reducible exact LeO.refl _)
   | (with_reducible exact LeO.none _)
   | (with_reducible refine LeO.ite ?_ ?_)
   | (with_reducible refine LeO.bind ?_ (fun _ => ?_))
   | exact ih0 _ _ _ _ _
   | exact ih1 _ _ _ _ _ _
   | exact ih2 _ _ _
   | exact ih3 _ _
   | exact LeO.none _
   | refine LeO.ite ?_ ?_
   | refine LeO.bind ?_ (fun _ => ?_)
  ·intro y0 y1
   unfold tillerref01_Parse.j3
   repeat' first
   | (with_reducible exact ih0 _ _ _ _ _)
   | (with_reducible exact ih1 _ _ _ _ _ _)
   | (with_reducible exact ih2 _ _ _)
   | (with_reducible exact ih3 _ _)
   | (with_reducible exact LeO.refl _)
   | (with_reducible exact LeO.none _)
   | (with_reducible refine LeO.ite ?_ ?_)
   | (with_reducible refine LeO.bind ?_ (fun _ => ?_))
   | exact ih0 _ _ _ _ _
   | exact ih1 _ _ _ _ _ _
   | exact ih2 _ _ _
   | exact ih3 _ _
   | exact LeO.none _
   | refine LeO.ite ?_ ?_
   | refine LeO.bind ?_ (fun _ => ?_)
theorem tillerref01_Parse.mono : ∀ a0 k, LeO (tillerref01_Parse.f k a0) (tillerref01_Parse.f (k + 1) a0) := by
 intro a0 k
 obtain ⟨ih0, ih1, ih2, ih3⟩ := tillerref01_Parse.mono_l k
 unfold tillerref01_Parse.f
 repeat' first
   | (with_reducible exact ih0 _ _ _ _ _)
   | (with_reducible exact ih1 _ _ _ _ _ _)
   | (with_reducible exact ih2 _ _ _)
   | (with_reducible exact ih3 _ _)
   | (with_reducible exact LeO.refl _)
   | (with_reducible exact LeO.none _)
   | (with_reducible refine LeO.ite ?_ ?_)
   | (with_reducible refine LeO.bind ?_ (fun _ => ?_))
   | exact ih0 _ _ _ _ _
   | exact ih1 _ _ _ _ _ _
   | exact ih2 _ _ _
   | exact ih3 _ _
   | exact LeO.none _
   | refine LeO.ite ?_ ?_
   | refine LeO.bind ?_ (fun _ => ?_)
set_option maxHeartbeats 8000000 in
set_option maxRecDepth 100000 in
theorem tillerref01_Parse.calls (k : Nat) (a0 : ByteArray) (r1 : Int) (r2 : Int) (w : World) (h : tillerref01_Parse.f k a0 = some (r1, r2)) :
  Calls Try.prog 26 #[.string a0] w fun e w' => e = .returned (.tuple #[.int .i32 r1, .int .i64 r2]) ∧ Below w.heap.size w w' := by
 have HB := Aside0.mk (Below.refl w.heap.size w)
 have H : ((tillerref01_Form.f a0).bind fun bt118 => (if bt118.2.2.2 = true then (tillerref01_Parse.l0 k bt118.1 bt118.2.1 bt118.2.2.1 0 0) else (some (0, 3)))) = some (r1, r2) := h
 clear h
 replace H := Option.bind_eq_some_iff.mp H
 obtain ⟨⟨t118, t119, t120, t121⟩, A20, H⟩ := H
 replace H : (if t121 = true then (tillerref01_Parse.l0 k t118 t119 t120 0 0) else (some (0, 3))) = some (r1, r2) := H
 have A2 := Aside0.mk A20
 clear A20
 by_cases c3 : t121 = true
 ·subst c3
  have H1 : (tillerref01_Parse.l0 k t118 t119 t120 0 0) = some (r1, r2) := by rw [if_pos rfl] at H; exact H
  clear H
  have H := H1
  clear H1
  have H' := Aside0.mk H
  clear H
  go_enter Try.func26, Try.ntmps26
  go_wp2_with (first | ((with_reducible refine gate_callee (f := 35) rfl ?_); refine goesL_ (some 17) rfl rfl Try.func35 (by kernel_rfl) rfl #[.string a0] rfl (by (try simp only [List.map_toArray, List.map_cons, List.map_nil]); first | done | rfl | (simp only [List.length_drop, List.length_take]; rfl)) ?_; (with_reducible refine (tillerref01_Form.calls a0 t118 t119 t120 true _ A2.out).mono ?_); rintro e w4 ⟨rfl, hb⟩; refine ⟨_, rfl, ?_⟩; have n0_ := Aside0.mk (below_step (by repeat (first | (with_reducible first | exact HB.out | apply bwA | apply bwN | apply bwD) | exact HB.out)) hb); clear HB; have HB := n0_; clear n0_; (try clear hb); (try clear hb2); (try clear hk); (try clear hi)))
  go_loopg [8, 9] k (fun kq v8 v9 w' => ∃ (x8_1 : Int) (x9_1 : Int), v8 = .int .i64 x8_1 ∧ v9 = .int .i64 x9_1 ∧ Aside0 (tillerref01_Parse.l0 kq t118 t119 t120 x8_1 x9_1 = some (r1, r2)) ∧ Aside0 (kq ≤ k) ∧ Aside0 (Below w.heap.size w w'))
  case atStart => exact ⟨(0), (0), (by first | rfl | (simp; done) | (simp [*]; done)), (by first | rfl | (simp; done) | (simp [*]; done)), H', ⟨Nat.le_refl _⟩, ⟨by repeat (first | (with_reducible first | exact HB.out | apply bwA | apply bwN | apply bwD) | exact HB.out)⟩⟩
  case round =>
   clear H'
   try clear c2
   try clear p2
   try clear c3
   obtain ⟨x8_1, x9_1, rfl, rfl, HA, HK1, HB⟩ := hrel
   cases gk with
   | zero => exact absurd HA.out (by simp [tillerref01_Parse.l0])
   | succ k1 =>
    have H := HA.out
    clear HA
    simp only [tillerref01_Parse.l0] at H
    by_cases c5 : x9_1 < (t119.size : Int)
    ·rw [if_pos c5] at H
     have c5b0 : decide (x9_1 < (t119.size : Int)) = true := decide_eq_true c5
     clear c5
     by_cases c6 : 0 ≤ x9_1
     ·rw [if_pos c6] at H
      have c6b0 : decide (0 ≤ x9_1) = true := decide_eq_true c6
      clear c6
      have H' := Aside0.mk H
      clear H
      have p7 : 0 ≤ (x9_1 : Int) := ofd_
      have q7 : x9_1 < (t119.size : Int) := ofd_
      have hx7 := bt_at t119 x9_1
      replace p7 := eq_true p7
      replace q7 := eq_true q7
      go_wp2
      go_roundg k1
      case measure => have := HK1.out; omega
      case rel => exact ⟨(wrap64 ((wrap64 (10 * x8_1)) + (((bt t119 x9_1) - 48) % 256))), (wrap64 (x9_1 + 1)), (by first | rfl | (simp; done) | (simp [*]; done)), (by first | rfl | (simp; done) | (simp [*]; done)), H', ⟨by have := HK1.out; omega⟩, ⟨by repeat (first | (with_reducible first | exact HB.out | apply bwA | apply bwN | apply bwD) | exact HB.out)⟩⟩
     ·rw [if_neg c6] at H
      exact absurd H (by simp)
    ·rw [if_neg c5] at H
     have c5b0 : decide (x9_1 < (t119.size : Int)) = false := decide_eq_false c5
     clear c5
     obtain ⟨y122, hy122⟩ : ∃ y_ : List Int, y_ = (([] : List Int)) := ⟨_, rfl⟩
     replace H : (tillerref01_Parse.l1 k1 t118 t120 x8_1 0 y122 (wrap64 ((t120.size : Int) - 1))) = some (r1, r2) := by first | (rw [hy122]; with_reducible exact H) | (have H2_ := (Option.bind_some _ _).symm.trans H; rw [hy122]; with_reducible exact H2_) | (have H2_ := (Option.bind_some _ _).symm.trans H; with_reducible exact H2_) | with_reducible exact H | (rw [hy122]; exact H) | exact H
     have Ny122 := Aside0.mk hy122
     clear hy122
     have H' := Aside0.mk H
     clear H
     go_wp2_with (first | ((with_reducible refine gate_dst (N := 38) rfl ?_); (try (refine gate_guard (by rfl) ?_; dsimp only)); refine Kd.R_lit (Kd.int .i64) _ 2 ?hg (N := 38) ?hd (xs := ([] : List Int)) (inner := []) (ok := fun _ => True) (okp := fun _ => True) ?hr ?hp (fun _ hk => hk) trivial (Below.refl _ _) (Nat.le_refl _) (by simp) ?_; (case hd => rfl); (case hg => rfl); (case hr => first | (go_simp; done) | (go_simp; rfl)); (case hp => exact (Reps.none _ _)); intro v123 w8 ho9 hb hg_ hnew_; clear hg_ hnew_; (first | rw [← Ny122.out] at ho9 | (simp only [Int.reduceToNat] at ho9; rw [← Ny122.out] at ho9)); have n0_ := Aside0.mk (Kd.R_lower ho9 (below_size (by repeat (first | (with_reducible first | exact HB.out | apply bwA | apply bwN | apply bwD) | exact HB.out)))); have n1_ := Aside0.mk (below_step (by repeat (first | (with_reducible first | exact HB.out | apply bwA | apply bwN | apply bwD) | exact HB.out)) hb); clear HB; have HO124 := n0_; have HB := n1_; clear n0_ n1_; clear hb ho9))
     go_loopg [10, 11, 12] k1 (fun kq v10 v11 v12 w' => ∃ (x10_2 : Int) (x11_2 : List Int) (x12_2 : Int), v10 = .int .i64 x10_2 ∧ v12 = .int .i64 x12_2 ∧ Aside0 (tillerref01_Parse.l1 kq t118 t120 x8_1 x10_2 x11_2 x12_2 = some (r1, r2)) ∧ Aside0 (kq ≤ k1) ∧ Aside0 (Kd.R (Kd.int .i64) 2 w' w.heap.size (fun _ => True) v11 x11_2) ∧ Aside0 (Below w.heap.size w w'))
     case atStart => exact ⟨(0), (y122), (wrap64 ((t120.size : Int) - 1)), (by first | rfl | (simp; done) | (simp [*]; done)), (by first | rfl | (simp; done) | (simp [*]; done)), H', ⟨Nat.le_refl _⟩, ⟨by (with_reducible repeat (first | apply rwA | apply rwN | apply rwD)); exact HO124.out⟩, ⟨by repeat (first | (with_reducible first | exact HB.out | apply bwA | apply bwN | apply bwD) | exact HB.out)⟩⟩
     case round =>
      clear H'
      try clear c2
      try clear p2
      try clear c3
      try clear c5
      try clear c5b0
      try clear c6
      try clear c6b0
      try clear p6
      try clear p7
      try clear q7
      try clear hx7
      try clear p2
      try clear p7
      try clear q7
      obtain ⟨x10_2, x11_2, x12_2, rfl, rfl, HA, HK2, HO_11, HB⟩ := hrel
      cases gk with
      | zero => exact absurd HA.out (by simp [tillerref01_Parse.l1])
      | succ k2 =>
       have H := HA.out
       clear HA
       simp only [tillerref01_Parse.l1] at H
       by_cases c10 : x12_2 ≥ 0
       ·rw [if_pos c10] at H
        have c10b0 : decide (0 ≤ x12_2) = true := decide_eq_true c10
        clear c10
        by_cases c11 : 0 ≤ x12_2
        ·rw [if_pos c11] at H
         have c11b0 : decide (0 ≤ x12_2) = true := decide_eq_true c11
         clear c11
         by_cases c12 : x12_2 < (t120.size : Int)
         ·rw [if_pos c12] at H
          have c12b0 : decide (x12_2 < (t120.size : Int)) = true := decide_eq_true c12
          clear c12
          by_cases c14 : x11_2.length < 17592186044416
          ·rw [if_pos c14] at H
           have LMc14 := Aside0.mk c14
           clear c14
           obtain ⟨y125, hy125⟩ : ∃ y_ : List Int, y_ = (x11_2 ++ [Int.tmod (wrap64 (((((bt t120 x12_2) - 48) % 256) * 65536) + x10_2)) 10]) := ⟨_, rfl⟩
           replace H : (tillerref01_Parse.l1 k2 t118 t120 x8_1 (wrap64 (Int.tdiv (wrap64 (((((bt t120 x12_2) - 48) % 256) * 65536) + x10_2)) 10)) y125 (wrap64 (x12_2 - 1))) = some (r1, r2) := by first | (rw [hy125]; with_reducible exact H) | (have H2_ := (Option.bind_some _ _).symm.trans H; rw [hy125]; with_reducible exact H2_) | (have H2_ := (Option.bind_some _ _).symm.trans H; with_reducible exact H2_) | with_reducible exact H | (rw [hy125]; exact H) | exact H
           have Ny125 := Aside0.mk hy125
           clear hy125
           have H' := Aside0.mk H
           clear H
           have p13 : 0 ≤ (x12_2 : Int) := ofd_
           have q13 : x12_2 < (t120.size : Int) := ofd_
           have hx13 := bt_at t120 x12_2
           replace p13 := eq_true p13
           replace q13 := eq_true q13
           go_wp2_with (first | ((with_reducible refine gate_builtin (b := .append) (xs := #[.tmp 54, .tmp 57]) rfl ?_); (try (refine gate_guard (by rfl) ?_; dsimp only)); at_builtin; refine Kd.R_append (Kd.int .i64) (w0 := w) w.heap.size rfl (.tmp 54) (.tmp 57) 62 2 (.int .i64 0) 8 rfl Try.underlying62 info2 rfl (by decide) (by omega) u11 x11_2 (Int.tmod (wrap64 (((((bt t120 x12_2) - 48) % 256) * 65536) + x10_2)) 10) [.int .i64 (Int.tmod (wrap64 (((((bt t120 x12_2) - 48) % 256) * 65536) + x10_2)) 10)] (fun _ => True) (fun _ => False) rfl rfl ?aP (fun _ hk => hk.elim) ?aF ?aO ?aB ?aS ?aL ?_; (case aP => exact rfl); (case aB => exact (by repeat (first | (with_reducible first | exact HB.out | apply bwA | apply bwN | apply bwD) | exact HB.out))); (case aF => exact (fun _ _ => trivial)); (case aO => exact (by (with_reducible repeat (first | apply rwA | apply rwN | apply rwD)); exact HO_11.out)); (case aS => exact (below_size (by repeat (first | (with_reducible first | exact HB.out | apply bwA | apply bwN | apply bwD) | exact HB.out)))); (case aL => have := LMc14.out; omega); intro v126 w15 ho hb hg hat; rw [← Ny125.out] at ho; have n0_ := Aside0.mk (hb); have n1_ := Aside0.mk (ho); clear HB; clear HO_11; have HB := n0_; have HO127 := n1_; clear n0_ n1_; clear ho hb hg hat))
           go_roundg k2
           case measure => have := HK1.out; have := HK2.out; omega
           case rel => exact ⟨(wrap64 (Int.tdiv (wrap64 (((((bt t120 x12_2) - 48) % 256) * 65536) + x10_2)) 10)), (y125), (wrap64 (x12_2 - 1)), (by first | rfl | (simp; done) | (simp [*]; done)), (by first | rfl | (simp; done) | (simp [*]; done)), H', ⟨by have := HK1.out; have := HK2.out; omega⟩, ⟨by (with_reducible repeat (first | apply rwA | apply rwN | apply rwD)); exact HO127.out⟩, ⟨by repeat (first | (with_reducible first | exact HB.out | apply bwA | apply bwN | apply bwD) | exact HB.out)⟩⟩
          ·rw [if_neg c14] at H
           exact absurd H (by simp)
         ·rw [if_neg c12] at H
          exact absurd H (by simp)
        ·rw [if_neg c11] at H
         exact absurd H (by simp)
       ·rw [if_neg c10] at H
        have c10b0 : decide (0 ≤ x12_2) = false := decide_eq_false c10
        clear c10
        have HC16 := Aside0.mk H
        clear H
        go_upto_region 18 with (fail)
        go_cut [76] (fun v76 wc => ∃ (kq : Nat) (x76_15 : Bool), v76 = .bool x76_15 ∧ Aside0 (tillerref01_Parse.j2 kq t118 (wrap64 ((wrap64 (x8_1 * 65536)) + x10_2)) x76_15 = some (r1, r2)) ∧ Aside0 (kq ≤ k2) ∧ Aside0 (Below w.heap.size w wc))
        case first =>
         have H := HC16.out
         clear HC16
         by_cases c17 : (x11_2.length : Int) > 0
         ·rw [if_pos c17] at H
          have c17b0 : decide (0 < (x11_2.length : Int)) = true := decide_eq_true c17
          have c17b1 : decide (0 < x11_2.length) = true := decide_eq_true (by omega)
          clear c17
          (first | rw [c17b0] | (simp only [i64_w, i32_w]; rw [c17b0]) | skip)
          obtain ⟨ji18, hji18⟩ : ∃ j_ : Int, (wrap64 ((x11_2.length : Int) - 1)) = j_ := ⟨_, rfl⟩
          replace H : (if 0 ≤ (ji18) then (if (ji18) < (x11_2.length : Int) then (tillerref01_Parse.j2 k2 t118 (wrap64 ((wrap64 (x8_1 * 65536)) + x10_2)) (decide ((rd x11_2 (ji18)) ≥ 5))) else (none)) else (none)) = some (r1, r2) := by first | (rw [hji18] at H; exact H) | (simp only [hji18] at H ⊢; exact H)
          have hji18w : (IntKind.i64.wrap ((x11_2.length : Int) - 1)) = ji18 := (i64_w _).trans hji18
          by_cases c19 : 0 ≤ (ji18)
          ·rw [if_pos c19] at H
           have c19b0 : decide (0 ≤ (ji18)) = true := decide_eq_true c19
           clear c19
           by_cases c20 : (ji18) < (x11_2.length : Int)
           ·rw [if_pos c20] at H
            have c20b0 : decide ((ji18) < (x11_2.length : Int)) = true := decide_eq_true c20
            clear c20
            have H' := Aside0.mk H
            clear H
            obtain ⟨Ao21, co21, eo21⟩ := Kd.R_slice HO_11.out
            subst eo21
            have p128 : 0 ≤ ((ji18) : Int) := ofd_
            have q128 : (ji18) < (x11_2.length : Int) := ofd_
            (first | obtain ⟨ad128, e128, hx128_0⟩ := Kd.at_int (Kd.R_reads' HO_11.out).2.2 (ji18) p128 q128 | (obtain ⟨Az_, cz_, ez_⟩ := Kd.R_slice HO_11.out; subst ez_; obtain ⟨ad128, e128, hx128_0⟩ := Kd.at_int (Kd.R_reads' HO_11.out).2.2 (ji18) p128 q128))
            cases e128
            replace p128 := eq_true p128
            replace q128 := eq_true q128
            go_wp2
            go_meet
            case rel => exact ⟨_, (decide ((rd x11_2 (ji18)) ≥ 5)), (by first | rfl | (simp; done) | (simp only [← hji18] <;> (first | rfl | simp)) | (simp [*]; done)), H', ⟨by have := HK1.out; have := HK2.out; first | omega | exact Nat.le_refl _⟩, ⟨by repeat (first | (with_reducible first | exact HB.out | apply bwA | apply bwN | apply bwD) | exact HB.out)⟩⟩
           ·rw [if_neg c20] at H
            exact absurd H (by simp)
          ·rw [if_neg c19] at H
           exact absurd H (by simp)
         ·rw [if_neg c17] at H
          have c17b0 : decide (0 < (x11_2.length : Int)) = false := decide_eq_false c17
          have c17b1 : decide (0 < x11_2.length) = false := decide_eq_false (by omega)
          clear c17
          (first | rw [c17b0] | (simp only [i64_w, i32_w]; rw [c17b0]) | skip)
          have H' := Aside0.mk H
          clear H
          obtain ⟨Ao22, co22, eo22⟩ := Kd.R_slice HO_11.out
          subst eo22
          go_wp2
          go_meet
          case rel => exact ⟨_, (false), (by first | rfl | (simp; done) | (simp [*]; done)), H', ⟨by have := HK1.out; have := HK2.out; first | omega | exact Nat.le_refl _⟩, ⟨by repeat (first | (with_reducible first | exact HB.out | apply bwA | apply bwN | apply bwD) | exact HB.out)⟩⟩
        case rest =>
         clear HC16
         try clear c1
         try clear p1
         try clear q1
         try clear hx1
         try clear c2
         try clear p2
         try clear c3
         try clear c5
         try clear c5b0
         try clear c6
         try clear c6b0
         try clear p6
         try clear p7
         try clear q7
         try clear hx7
         try clear c10
         try clear c10b0
         try clear c11
         try clear c11b0
         try clear c12
         try clear c12b0
         try clear p12
         try clear q12
         try clear hx12
         try clear p13
         try clear q13
         try clear hx13
         try clear c14
         try clear c17
         try clear c17b0
         try clear c17b1
         try clear c19
         try clear c19b0
         try clear c20
         try clear c20b0
         try clear hx128_0
         try clear p128
         try clear p13
         try clear p2
         try clear p6
         try clear p7
         try clear q128
         try clear q13
         try clear q7
         obtain ⟨kq, x76_15, rfl, HA, HJ15, HB⟩ := hcut
         cases kq with
         | zero => exact absurd HA.out (by simp [tillerref01_Parse.j2])
         | succ kj15 =>
          have H := HA.out
          clear HA
          simp only [tillerref01_Parse.j2] at H
          have HC23 := Aside0.mk H
          clear H
          go_upto_if 76 with (fail)
          go_cut [14] (fun v14 wc => ∃ (kq : Nat) (x14_22 : Int), v14 = .int .i64 x14_22 ∧ Aside0 (tillerref01_Parse.j3 kq t118 x14_22 = some (r1, r2)) ∧ Aside0 (kq ≤ kj15) ∧ Aside0 (Below w.heap.size w wc))
          case first =>
           have H := HC23.out
           clear HC23
           by_cases c24 : x76_15 = true
           ·subst c24
            have H1 : (tillerref01_Parse.j3 kj15 t118 (wrap64 ((wrap64 ((wrap64 (x8_1 * 65536)) + x10_2)) + 1))) = some (r1, r2) := by rw [if_pos rfl] at H; exact H
            clear H
            have H := H1
            clear H1
            have H' := Aside0.mk H
            clear H
            go_wp2
            go_meet
            case rel => exact ⟨_, (wrap64 ((wrap64 ((wrap64 (x8_1 * 65536)) + x10_2)) + 1)), (by first | rfl | (simp; done) | (simp [*]; done)), H', ⟨by have := HK1.out; have := HK2.out; have := HJ15.out; first | omega | exact Nat.le_refl _⟩, ⟨by repeat (first | (with_reducible first | exact HB.out | apply bwA | apply bwN | apply bwD) | exact HB.out)⟩⟩
           ·replace c24 := Bool.eq_false_iff.mpr c24
            subst c24
            have H1 : (tillerref01_Parse.j3 kj15 t118 (wrap64 ((wrap64 (x8_1 * 65536)) + x10_2))) = some (r1, r2) := by rw [if_neg (show ¬ (false = true) by decide)] at H; exact H
            clear H
            have H := H1
            clear H1
            have H' := Aside0.mk H
            clear H
            go_wp2
            go_meet
            case rel => exact ⟨_, ((wrap64 ((wrap64 (x8_1 * 65536)) + x10_2))), (by first | rfl | (simp; done) | (simp [*]; done)), H', ⟨by have := HK1.out; have := HK2.out; have := HJ15.out; first | omega | exact Nat.le_refl _⟩, ⟨by repeat (first | (with_reducible first | exact HB.out | apply bwA | apply bwN | apply bwD) | exact HB.out)⟩⟩
          case rest =>
           clear HC23
           try clear c1
           try clear p1
           try clear q1
           try clear hx1
           try clear c2
           try clear p2
           try clear c3
           try clear c5
           try clear c5b0
           try clear c6
           try clear c6b0
           try clear p6
           try clear p7
           try clear q7
           try clear hx7
           try clear c10
           try clear c10b0
           try clear c11
           try clear c11b0
           try clear c12
           try clear c12b0
           try clear p12
           try clear q12
           try clear hx12
           try clear p13
           try clear q13
           try clear hx13
           try clear c14
           try clear c17
           try clear c17b0
           try clear c17b1
           try clear c19
           try clear c19b0
           try clear c20
           try clear c20b0
           try clear c24
           try clear hx128_0
           try clear p1
           try clear p12
           try clear p128
           try clear p13
           try clear p2
           try clear p6
           try clear p7
           try clear q1
           try clear q12
           try clear q128
           try clear q13
           try clear q7
           obtain ⟨kq, x14_22, rfl, HA, HJ22, HB⟩ := hcut
           cases kq with
           | zero => exact absurd HA.out (by simp [tillerref01_Parse.j3])
           | succ kj22 =>
            have H := HA.out
            clear HA
            simp only [tillerref01_Parse.j3] at H
            by_cases c25 : x14_22 > 2147483647
            ·rw [if_pos c25] at H
             have c25b0 : decide (2147483647 < x14_22) = true := decide_eq_true c25
             clear c25
             simp only [Option.some.injEq, Prod.mk.injEq] at H
             obtain ⟨rfl, rfl⟩ := H
             go_wp2
             go_ret2
             exact ⟨by first | rfl | (simp [errW_none, errW_some] <;> rfl) | (simp [*, errW_none, errW_some] <;> rfl), by repeat (first | (with_reducible first | exact HB.out | apply bwA | apply bwN | apply bwD) | exact HB.out)⟩
            ·rw [if_neg c25] at H
             have c25b0 : decide (2147483647 < x14_22) = false := decide_eq_false c25
             clear c25
             by_cases c26 : t118 = true
             ·subst c26
              have H1 : (some (wrap32 (wrap64 (-x14_22)), 0)) = some (r1, r2) := by rw [if_pos rfl] at H; exact H
              clear H
              have H := H1
              clear H1
              simp only [Option.some.injEq, Prod.mk.injEq] at H
              obtain ⟨rfl, rfl⟩ := H
              go_wp2
              go_ret2
              exact ⟨by first | rfl | (simp [errW_none, errW_some] <;> rfl) | (simp [*, errW_none, errW_some] <;> rfl), by repeat (first | (with_reducible first | exact HB.out | apply bwA | apply bwN | apply bwD) | exact HB.out)⟩
             ·replace c26 := Bool.eq_false_iff.mpr c26
              subst c26
              have H1 : (some (wrap32 (x14_22), 0)) = some (r1, r2) := by rw [if_neg (show ¬ (false = true) by decide)] at H; exact H
              clear H
              have H := H1
              clear H1
              simp only [Option.some.injEq, Prod.mk.injEq] at H
              obtain ⟨rfl, rfl⟩ := H
              go_wp2
              go_ret2
              exact ⟨by first | rfl | (simp [errW_none, errW_some] <;> rfl) | (simp [*, errW_none, errW_some] <;> rfl), by repeat (first | (with_reducible first | exact HB.out | apply bwA | apply bwN | apply bwD) | exact HB.out)⟩
 ·replace c3 := Bool.eq_false_iff.mpr c3
  subst c3
  have H1 : (some (0, 3)) = some (r1, r2) := by rw [if_neg (show ¬ (false = true) by decide)] at H; exact H
  clear H
  have H := H1
  clear H1
  simp only [Option.some.injEq, Prod.mk.injEq] at H
  obtain ⟨rfl, rfl⟩ := H
  go_enter Try.func26, Try.ntmps26
  go_wp2_with (first | ((with_reducible refine gate_callee (f := 35) rfl ?_); refine goesL_ (some 17) rfl rfl Try.func35 (by kernel_rfl) rfl #[.string a0] rfl (by (try simp only [List.map_toArray, List.map_cons, List.map_nil]); first | done | rfl | (simp only [List.length_drop, List.length_take]; rfl)) ?_; (with_reducible refine (tillerref01_Form.calls a0 t118 t119 t120 false _ A2.out).mono ?_); rintro e w27 ⟨rfl, hb⟩; refine ⟨_, rfl, ?_⟩; have n0_ := Aside0.mk (below_step (by repeat (first | (with_reducible first | exact HB.out | apply bwA | apply bwN | apply bwD) | exact HB.out)) hb); clear HB; have HB := n0_; clear n0_; (try clear hb); (try clear hb2); (try clear hk); (try clear hi)))
  go_ret2
  exact ⟨by first | rfl | (simp [errW_none, errW_some] <;> rfl) | (simp [*, errW_none, errW_some] <;> rfl), by repeat (first | (with_reducible first | exact HB.out | apply bwA | apply bwN | apply bwD) | exact HB.out)⟩

end Go.Proofs.Ytnhapgenebcjmaa.GV
