-- written by this session's program gprint.py
import Derived.Test.YtnhapgenebcjmaaGNx0
import Derived.Test.YtnhapgenebcjmaaGNx1
import Derived.Test.YtnhapgenebcjmaaGNx4
import Derived.Test.YtnhapgenebcjmaaWLast
import Derived.Test.YtnhapgenebcjmaaWMore
import Derived.Test.YtnhapgenebcjmaaWRepsOne
import Derived.Test.YtnhapgenebcjmaaWWords
namespace Go.Proofs.Ytnhapgenebcjmaa.GN
open Go.RowKit Go.Proofs.YtnhapgenebcjmaaW.PrintWords Go.Proofs.YtnhapgenebcjmaaW.PrintLast Go.Proofs.YtnhapgenebcjmaaW.PrintMore Go.Proofs.Ytnhapgenebcjmaa.GText Go.Proofs.Ytnhapgenebcjmaa.GParse Go.Proofs.Ytnhapgenebcjmaa.GLen Go.Proofs.Ytnhapgenebcjmaa.GCurve
attribute [local go_sem] max2_int min2_int max_two min_two max_three min_three max_four min_four   -- for this text's walks alone
set_option linter.unusedVariables false
set_option linter.unusedSimpArgs false

/-! ### tillertop_TillerNumbers: function 10 -/
mutual
def tillertop_TillerNumbers.j0 : Nat → Int → Int → Bool → Option (Bool)
 | 0, _, _, _ => none
 | k + 1, x0, x1, x15 => if x15 = true then (some false) else ((curve_Pow.f x0).bind fun t112 => ((curve_Inverse.f k x1).bind fun t113 => ((some (([t112, t113, x0, x1] : List Int) : List Int)).bind fun y114 => (tillertop_TillerNumbers.l0 k x0 x1 y114 (y114.length : Int) 0))))
def tillertop_TillerNumbers.l0 : Nat → Int → Int → List Int → Int → Int → Option (Bool)
 | 0, _, _, _, _, _ => none
 | k + 1, x0, x1, x22, x23, x24 => if x24 < x23 then (if 0 ≤ x24 then (if x24 < (x22.length : Int) then ((fix_Text.f (rd x22 x24)).bind fun t118 => ((fix_Parse.f t118).bind fun bt119 => (if (rd x22 x24) ≥ (-2147483647) then (if bt119.2 = 0 then (if bt119.1 = (rd x22 x24) then (tillertop_TillerNumbers.l0 k x0 x1 x22 x23 (wrap64 (x24 + 1))) else (some false)) else (some false)) else (tillertop_TillerNumbers.l0 k x0 x1 x22 x23 (wrap64 (x24 + 1)))))) else (none)) else (none)) else (if x0 > 0 then (tillertop_TillerNumbers.j2 k x0 x1 true) else (if x1 > 0 then (tillertop_TillerNumbers.j2 k x0 x1 true) else (if x0 < (-524288) then (tillertop_TillerNumbers.j2 k x0 x1 true) else (tillertop_TillerNumbers.j2 k x0 x1 (decide (x1 < (-524288)))))))
def tillertop_TillerNumbers.j2 : Nat → Int → Int → Bool → Option (Bool)
 | 0, _, _, _ => none
 | k + 1, x0, x1, x59 => if x59 = true then (some true) else ((curve_Pow.f (wrap32 (x0 + x1))).bind fun t121 => ((curve_Pow.f x0).bind fun t122 => ((curve_Pow.f x1).bind fun t123 => ((fix_Mul.f k t122 t123).bind fun t124 => (if (wrap64 ((wrap64 (t121)) - (wrap64 (t124)))) ≥ (-8) then (some (decide ((wrap64 ((wrap64 (t121)) - (wrap64 (t124)))) ≤ 8))) else (some false))))))
end
def tillertop_TillerNumbers.f (k : Nat) (a0 : Int) (a1 : Int) : Option (Bool) := (fix_Text.f 98304).bind fun t110 => (if t110.toList = ([49, 46, 53] : List UInt8) then ((curve_Pow.f (-65536)).bind fun t111 => (tillertop_TillerNumbers.j0 k a0 a1 (t111 != 32768))) else (tillertop_TillerNumbers.j0 k a0 a1 true))
theorem tillertop_TillerNumbers.mono_l : ∀ k, (∀ y0 y1 y2, LeO (tillertop_TillerNumbers.j0 k y0 y1 y2) (tillertop_TillerNumbers.j0 (k + 1) y0 y1 y2)) ∧ (∀ y0 y1 y2 y3 y4, LeO (tillertop_TillerNumbers.l0 k y0 y1 y2 y3 y4) (tillertop_TillerNumbers.l0 (k + 1) y0 y1 y2 y3 y4)) ∧ (∀ y0 y1 y2, LeO (tillertop_TillerNumbers.j2 k y0 y1 y2) (tillertop_TillerNumbers.j2 (k + 1) y0 y1 y2))
 | 0 => ⟨fun _ _ _ r h => by simp [tillertop_TillerNumbers.j0] at h, fun _ _ _ _ _ r h => by simp [tillertop_TillerNumbers.l0] at h, fun _ _ _ r h => by simp [tillertop_TillerNumbers.j2] at h⟩
 | k + 1 => by
  obtain ⟨ih0, ih1, ih2⟩ := tillertop_TillerNumbers.mono_l k
  refine ⟨?_, ?_, ?_⟩
  ·intro y0 y1 y2
   unfold tillertop_TillerNumbers.j0
   repeat' first
   | (with_reducible exact ih0 _ _ _)
   | (with_reducible exact ih1 _ _ _ _ _)
   | (with_reducible exact ih2 _ _ _)
   | (with_reducible exact curve_Inverse.mono _ _)
   | (with_reducible exact fix_Mul.mono _ _ _)
   | (with_reducible exact LeO.refl _)
   | (with_reducible exact LeO.none _)
   | (with_reducible refine LeO.ite ?_ ?_)
   | (with_reducible refine LeO.bind ?_ (fun _ => ?_))
   | exact ih0 _ _ _
   | exact ih1 _ _ _ _ _
   | exact ih2 _ _ _
   | exact curve_Inverse.mono _ _
   | exact fix_Mul.mono _ _ _
   | exact LeO.none _
   | refine LeO.ite ?_ ?_
   | refine LeO.bind ?_ (fun _ => ?_)
  ·intro y0 y1 y2 y3 y4
   unfold tillertop_TillerNumbers.l0
   repeat' first
   | (with_reducible exact ih0 _ _ _)
   | (with_reducible exact ih1 _ _ _ _ _)
   | (with_reducible exact ih2 _ _ _)
   | (with_reducible exact curve_Inverse.mono _ _)
   | (with_reducible exact fix_Mul.mono _ _ _)
   | (with_reducible exact LeO.refl _)
   | (with_reducible exact LeO.none _)
   | (with_reducible refine LeO.ite ?_ ?_)
   | (with_reducible refine LeO.bind ?_ (fun _ => ?_))
   | exact ih0 _ _ _
   | exact ih1 _ _ _ _ _
   | exact ih2 _ _ _
   | exact curve_Inverse.mono _ _
   | exact fix_Mul.mono _ _ _
   | exact LeO.none _
   | refine LeO.ite ?_ ?_
   | refine LeO.bind ?_ (fun _ => ?_)
  ·intro y0 y1 y2
   unfold tillertop_TillerNumbers.j2
   repeat' first
   | (with_reducible exact ih0 _ _ _)
   | (with_reducible exact ih1 _ _ _ _ _)
   | (with_reducible exact ih2 _ _ _)
   | (with_reducible exact curve_Inverse.mono _ _)
   | (with_reducible exact fix_Mul.mono _ _ _)
   | (with_reducible exact LeO.refl _)
   | (with_reducible exact LeO.none _)
   | (with_reducible refine LeO.ite ?_ ?_)
   | (with_reducible refine LeO.bind ?_ (fun _ => ?_))
   | exact ih0 _ _ _
   | exact ih1 _ _ _ _ _
   | exact ih2 _ _ _
   | exact curve_Inverse.mono _ _
   | exact fix_Mul.mono _ _ _
   | exact LeO.none _
   | refine LeO.ite ?_ ?_
   | refine LeO.bind ?_ (fun _ => ?_)
theorem tillertop_TillerNumbers.mono : ∀ a0 a1 k, LeO (tillertop_TillerNumbers.f k a0 a1) (tillertop_TillerNumbers.f (k + 1) a0 a1) := by
 intro a0 a1 k
 obtain ⟨ih0, ih1, ih2⟩ := tillertop_TillerNumbers.mono_l k
 unfold tillertop_TillerNumbers.f
 repeat' first
   | (with_reducible exact ih0 _ _ _)
   | (with_reducible exact ih1 _ _ _ _ _)
   | (with_reducible exact ih2 _ _ _)
   | (with_reducible exact curve_Inverse.mono _ _)
   | (with_reducible exact fix_Mul.mono _ _ _)
   | (with_reducible exact LeO.refl _)
   | (with_reducible exact LeO.none _)
   | (with_reducible refine LeO.ite ?_ ?_)
   | (with_reducible refine LeO.bind ?_ (fun _ => ?_))
   | exact ih0 _ _ _
   | exact ih1 _ _ _ _ _
   | exact ih2 _ _ _
   | exact curve_Inverse.mono _ _
   | exact fix_Mul.mono _ _ _
   | exact LeO.none _
   | refine LeO.ite ?_ ?_
   | refine LeO.bind ?_ (fun _ => ?_)
set_option maxHeartbeats 8000000 in
set_option maxRecDepth 100000 in
theorem tillertop_TillerNumbers.calls (k : Nat) (a0 : Int) (a1 : Int) (r : Bool) (w : World) (hr_ : Aside0 (r = true)) (h : tillertop_TillerNumbers.f k a0 a1 = some r) :
  Calls Try.prog 10 #[.int .i32 a0, .int .i32 a1] w fun e w' => e = .returned (.bool r) ∧ Below w.heap.size w w' := by
 have HB := Aside0.mk (Below.refl w.heap.size w)
 have H : ((fix_Text.f 98304).bind fun t110 => (if t110.toList = ([49, 46, 53] : List UInt8) then ((curve_Pow.f (-65536)).bind fun t111 => (tillertop_TillerNumbers.j0 k a0 a1 (t111 != 32768))) else (tillertop_TillerNumbers.j0 k a0 a1 true))) = some r := h
 clear h
 have HC3 := Aside0.mk H
 clear H
 go_enter Try.func10, Try.ntmps10
 go_upto_region 1 with (fail)
 go_cut [15] (fun v15 wc => ∃ (kq : Nat) (x15_2 : Bool), v15 = .bool x15_2 ∧ Aside0 (tillertop_TillerNumbers.j0 kq a0 a1 x15_2 = some r) ∧ Aside0 (kq ≤ k) ∧ Aside0 (Below w.heap.size w wc))
 case first =>
  have H := HC3.out
  clear HC3
  replace H := Option.bind_eq_some_iff.mp H
  obtain ⟨t110, A40, H⟩ := H
  replace H : (if t110.toList = ([49, 46, 53] : List UInt8) then ((curve_Pow.f (-65536)).bind fun t111 => (tillertop_TillerNumbers.j0 k a0 a1 (t111 != 32768))) else (tillertop_TillerNumbers.j0 k a0 a1 true)) = some r := H
  have A4 := Aside0.mk A40
  clear A40
  by_cases c5 : t110.toList = ([49, 46, 53] : List UInt8)
  ·rw [if_pos c5] at H
   have c5b0 : (t110.toList == ([49, 46, 53] : List UInt8)) = true := beq_iff_eq.mpr c5
   have c5b1 : (t110.toList != ([49, 46, 53] : List UInt8)) = false := bne_eq_false_iff_eq.mpr c5
   clear c5
   (first | rw [c5b0] | (simp only [i64_w, i32_w]; rw [c5b0]) | skip)
   replace H := Option.bind_eq_some_iff.mp H
   obtain ⟨t111, A60, H⟩ := H
   replace H : (tillertop_TillerNumbers.j0 k a0 a1 (t111 != 32768)) = some r := H
   have A6 := Aside0.mk A60
   clear A60
   have H' := Aside0.mk H
   clear H
   go_wp2_with (first | ((with_reducible refine gate_callee (f := 24) rfl ?_); refine goesL_ (some 10) rfl rfl Try.func24 (by kernel_rfl) rfl #[.int .i32 98304] rfl (by (try simp only [List.map_toArray, List.map_cons, List.map_nil]); first | done | rfl | (simp only [List.length_drop, List.length_take]; rfl)) ?_; (with_reducible refine (fix_Text.calls 98304 t110 _ A4.out).mono ?_); rintro e w7 ⟨rfl, hb⟩; refine ⟨_, rfl, ?_⟩; have n0_ := Aside0.mk (below_step (by repeat (first | (with_reducible first | exact HB.out | apply bwA | apply bwN | apply bwD) | exact HB.out)) hb); clear HB; have HB := n0_; clear n0_; (try clear hb); (try clear hb2); (try clear hk); (try clear hi)) | (go_at_call 28; (with_reducible refine (curve_Pow.calls (-65536) t111 _ A6.out).mono ?_); rintro e w8 ⟨rfl, hb⟩; have n0_ := Aside0.mk (below_step (by repeat (first | (with_reducible first | exact HB.out | apply bwA | apply bwN | apply bwD) | exact HB.out)) hb); clear HB; have HB := n0_; clear n0_; (try clear hb); (try clear hb2); (try clear hk); (try clear hi)))
   go_meet
   case rel => exact ⟨_, ((t111 != 32768)), (by first | rfl | (simp; done) | (simp [*]; done) | (simp [ne_nil_]; done)), H', ⟨by first | omega | exact Nat.le_refl _⟩, ⟨by repeat (first | (with_reducible first | exact HB.out | apply bwA | apply bwN | apply bwD) | exact HB.out)⟩⟩
  ·rw [if_neg c5] at H
   have c5b0 : (t110.toList == ([49, 46, 53] : List UInt8)) = false := beq_eq_false_iff_ne.mpr c5
   have c5b1 : (t110.toList != ([49, 46, 53] : List UInt8)) = true := bne_iff_ne.mpr c5
   (first | rw [c5b0] | (simp only [i64_w, i32_w]; rw [c5b0]) | skip)
   have H' := Aside0.mk H
   clear H
   go_wp2_with (first | ((with_reducible refine gate_callee (f := 24) rfl ?_); refine goesL_ (some 10) rfl rfl Try.func24 (by kernel_rfl) rfl #[.int .i32 98304] rfl (by (try simp only [List.map_toArray, List.map_cons, List.map_nil]); first | done | rfl | (simp only [List.length_drop, List.length_take]; rfl)) ?_; (with_reducible refine (fix_Text.calls 98304 t110 _ A4.out).mono ?_); rintro e w9 ⟨rfl, hb⟩; refine ⟨_, rfl, ?_⟩; have n0_ := Aside0.mk (below_step (by repeat (first | (with_reducible first | exact HB.out | apply bwA | apply bwN | apply bwD) | exact HB.out)) hb); clear HB; have HB := n0_; clear n0_; (try clear hb); (try clear hb2); (try clear hk); (try clear hi)))
   go_meet
   case rel => exact ⟨_, (true), (by first | rfl | (simp; done) | (simp [*]; done) | (simp [ne_nil_]; done)), H', ⟨by first | omega | exact Nat.le_refl _⟩, ⟨by repeat (first | (with_reducible first | exact HB.out | apply bwA | apply bwN | apply bwD) | exact HB.out)⟩⟩
 case rest =>
  clear HC3
  try clear c1
  try clear c2
  try clear p2
  try clear c5
  try clear c5b0
  try clear c5b1
  obtain ⟨kq, x15_2, rfl, HA, HJ2, HB⟩ := hcut
  cases kq with
  | zero => exact absurd HA.out (by simp [tillertop_TillerNumbers.j0])
  | succ kj2 =>
   have H := HA.out
   clear HA
   simp only [tillertop_TillerNumbers.j0] at H
   by_cases c10 : x15_2 = true
   ·subst c10
    have H1 : (some false) = some r := by rw [if_pos rfl] at H; exact H
    clear H
    have H := H1
    clear H1
    exact absurd (Option.some.inj H) (by rw [hr_.out]; decide)
   ·replace c10 := Bool.eq_false_iff.mpr c10
    subst c10
    have H1 : ((curve_Pow.f a0).bind fun t112 => ((curve_Inverse.f kj2 a1).bind fun t113 => ((some (([t112, t113, a0, a1] : List Int) : List Int)).bind fun y114 => (tillertop_TillerNumbers.l0 kj2 a0 a1 y114 (y114.length : Int) 0)))) = some r := by rw [if_neg (show ¬ (false = true) by decide)] at H; exact H
    clear H
    have H := H1
    clear H1
    replace H := Option.bind_eq_some_iff.mp H
    obtain ⟨t112, A110, H⟩ := H
    replace H : ((curve_Inverse.f kj2 a1).bind fun t113 => ((some (([t112, t113, a0, a1] : List Int) : List Int)).bind fun y114 => (tillertop_TillerNumbers.l0 kj2 a0 a1 y114 (y114.length : Int) 0))) = some r := H
    have A11 := Aside0.mk A110
    clear A110
    replace H := Option.bind_eq_some_iff.mp H
    obtain ⟨t113, A120, H⟩ := H
    replace H : ((some (([t112, t113, a0, a1] : List Int) : List Int)).bind fun y114 => (tillertop_TillerNumbers.l0 kj2 a0 a1 y114 (y114.length : Int) 0)) = some r := H
    have A12 := Aside0.mk A120
    clear A120
    obtain ⟨y114, hy114⟩ : ∃ y_ : List Int, y_ = (([t112, t113, a0, a1] : List Int)) := ⟨_, rfl⟩
    replace H : (tillertop_TillerNumbers.l0 kj2 a0 a1 y114 (y114.length : Int) 0) = some r := by first | (rw [hy114]; with_reducible exact H) | (have H2_ := (Option.bind_some _ _).symm.trans H; rw [hy114]; with_reducible exact H2_) | (have H2_ := (Option.bind_some _ _).symm.trans H; with_reducible exact H2_) | with_reducible exact H | (rw [hy114]; exact H) | exact H
    have Ny114 := Aside0.mk hy114
    clear hy114
    have H' := Aside0.mk H
    clear H
    go_wp2_with (first | ((with_reducible refine gate_callee (f := 28) rfl ?_); refine goesL_ (some 17) rfl rfl Try.func28 (by kernel_rfl) rfl #[.int .i32 a0] rfl (by (try simp only [List.map_toArray, List.map_cons, List.map_nil]); first | done | rfl | (simp only [List.length_drop, List.length_take]; rfl)) ?_; (with_reducible refine (curve_Pow.calls a0 t112 _ A11.out).mono ?_); rintro e w13 ⟨rfl, hb⟩; refine ⟨_, rfl, ?_⟩; have n0_ := Aside0.mk (below_step (by repeat (first | (with_reducible first | exact HB.out | apply bwA | apply bwN | apply bwD) | exact HB.out)) hb); clear HB; have HB := n0_; clear n0_; (try clear hb); (try clear hb2); (try clear hk); (try clear hi)) | ((with_reducible refine gate_callee (f := 29) rfl ?_); refine goesL_ (some 19) rfl rfl Try.func29 (by kernel_rfl) rfl #[.int .i32 a1] rfl (by (try simp only [List.map_toArray, List.map_cons, List.map_nil]); first | done | rfl | (simp only [List.length_drop, List.length_take]; rfl)) ?_; (with_reducible refine (curve_Inverse.calls kj2 a1 t113 _ A12.out).mono ?_); rintro e w' ⟨rfl, ⟨nd, rfl⟩⟩; refine ⟨_, rfl, ?_⟩) | ((with_reducible refine gate_dst (N := 22) rfl ?_); refine Kd.R_lit (Kd.int .i32) _ 22 ?hg (N := 22) ?hd (xs := ([t112, t113, a0, a1] : List Int)) (inner := [.int .i32 t112, .int .i32 t113, .int .i32 a0, .int .i32 a1]) (ok := fun _ => True) (okp := fun _ => True) ?hr ?hp (fun _ hk => hk) trivial (Below.refl _ _) (Nat.le_refl _) (by simp) ?_; (case hd => rfl); (case hg => rfl); (case hr => first | (go_simp; done) | (go_simp; rfl)); (case hp => exact (Reps.one (show Kd.M (Kd.int .i32) _ _ _ t112 [.int .i32 t112] from rfl) (Reps.one (show Kd.M (Kd.int .i32) _ _ _ t113 [.int .i32 t113] from rfl) (Reps.one (show Kd.M (Kd.int .i32) _ _ _ a0 [.int .i32 a0] from rfl) (Reps.one (show Kd.M (Kd.int .i32) _ _ _ a1 [.int .i32 a1] from rfl) (Reps.none _ _)))))); intro v115 w14 ho15 hb hg_ hnew_; clear hg_ hnew_; (first | rw [← Ny114.out] at ho15 | (simp only [Int.reduceToNat] at ho15; rw [← Ny114.out] at ho15)); have n0_ := Aside0.mk (Kd.R_lower ho15 (below_size (by repeat (first | (with_reducible first | exact HB.out | apply bwA | apply bwN | apply bwD) | exact HB.out)))); have n1_ := Aside0.mk (below_step (by repeat (first | (with_reducible first | exact HB.out | apply bwA | apply bwN | apply bwD) | exact HB.out)) hb); clear HB; have HO116 := n0_; have HB := n1_; clear n0_ n1_; clear hb ho15; obtain ⟨Ao16, co16, eo16⟩ := Kd.R_slice HO116.out; subst eo16))
    go_loopg [24] kj2 (fun kq v24 w' => ∃ (x24_2 : Int), v24 = .int .i64 x24_2 ∧ Aside0 (tillertop_TillerNumbers.l0 kq a0 a1 y114 (y114.length : Int) x24_2 = some r) ∧ Aside0 (kq ≤ kj2) ∧ Aside0 (Kd.R (Kd.int .i32) 22 w' w.heap.size (fun _ => True) (.slice Ao16 y114.length co16) y114) ∧ Aside0 (Below w.heap.size w w'))
    case atStart => exact ⟨(0), (by first | rfl | (simp; done) | (simp [*]; done) | (simp [ne_nil_]; done)), H', ⟨Nat.le_refl _⟩, ⟨by (with_reducible repeat (first | apply rwA | apply rwN | apply rwD)); exact HO116.out⟩, ⟨by repeat (first | (with_reducible first | exact HB.out | apply bwA | apply bwN | apply bwD) | exact HB.out)⟩⟩
    case round =>
     clear H'
     try clear c1
     try clear c2
     try clear p2
     try clear c5
     try clear c5b0
     try clear c5b1
     try clear c10
     try clear p2
     obtain ⟨x24_2, rfl, HA, HK2, HO_22, HB⟩ := hrel
     cases gk with
     | zero => exact absurd HA.out (by simp [tillertop_TillerNumbers.l0])
     | succ k2 =>
      have H := HA.out
      clear HA
      simp only [tillertop_TillerNumbers.l0] at H
      by_cases c17 : x24_2 < (y114.length : Int)
      ·rw [if_pos c17] at H
       have c17b0 : decide (x24_2 < (y114.length : Int)) = true := decide_eq_true c17
       clear c17
       by_cases c18 : 0 ≤ x24_2
       ·rw [if_pos c18] at H
        have c18b0 : decide (0 ≤ x24_2) = true := decide_eq_true c18
        clear c18
        by_cases c19 : x24_2 < (y114.length : Int)
        ·rw [if_pos c19] at H
         have c19b0 : decide (x24_2 < (y114.length : Int)) = true := decide_eq_true c19
         clear c19
         replace H := Option.bind_eq_some_iff.mp H
         obtain ⟨t118, A200, H⟩ := H
         replace H : ((fix_Parse.f t118).bind fun bt119 => (if (rd y114 x24_2) ≥ (-2147483647) then (if bt119.2 = 0 then (if bt119.1 = (rd y114 x24_2) then (tillertop_TillerNumbers.l0 k2 a0 a1 y114 (y114.length : Int) (wrap64 (x24_2 + 1))) else (some false)) else (some false)) else (tillertop_TillerNumbers.l0 k2 a0 a1 y114 (y114.length : Int) (wrap64 (x24_2 + 1))))) = some r := H
         have A20 := Aside0.mk A200
         clear A200
         replace H := Option.bind_eq_some_iff.mp H
         obtain ⟨⟨t119, t120⟩, A210, H⟩ := H
         replace H : (if (rd y114 x24_2) ≥ (-2147483647) then (if t120 = 0 then (if t119 = (rd y114 x24_2) then (tillertop_TillerNumbers.l0 k2 a0 a1 y114 (y114.length : Int) (wrap64 (x24_2 + 1))) else (some false)) else (some false)) else (tillertop_TillerNumbers.l0 k2 a0 a1 y114 (y114.length : Int) (wrap64 (x24_2 + 1)))) = some r := H
         have A21 := Aside0.mk A210
         clear A210
         by_cases c22 : (rd y114 x24_2) ≥ (-2147483647)
         ·rw [if_pos c22] at H
          have c22b0 : decide ((-2147483647) ≤ (rd y114 x24_2)) = true := decide_eq_true c22
          clear c22
          by_cases c23 : t120 = 0
          ·rw [if_pos c23] at H
           have c23b0 : (t120 == 0) = true := beq_iff_eq.mpr c23
           have c23b1 : (t120 != 0) = false := bne_eq_false_iff_eq.mpr c23
           clear c23
           by_cases c24 : t119 = (rd y114 x24_2)
           ·rw [if_pos c24] at H
            have c24b0 : (t119 == (rd y114 x24_2)) = true := beq_iff_eq.mpr c24
            have c24b1 : (t119 != (rd y114 x24_2)) = false := bne_eq_false_iff_eq.mpr c24
            clear c24
            have H' := Aside0.mk H
            clear H
            have p117 : 0 ≤ (x24_2 : Int) := ofd_
            have q117 : x24_2 < (y114.length : Int) := ofd_
            (first | obtain ⟨ad117, e117, hx117_0⟩ := Kd.at_int (Kd.R_reads' HO_22.out).2.2 x24_2 p117 q117 | (obtain ⟨Az_, cz_, ez_⟩ := Kd.R_slice HO_22.out; subst ez_; obtain ⟨ad117, e117, hx117_0⟩ := Kd.at_int (Kd.R_reads' HO_22.out).2.2 x24_2 p117 q117))
            cases e117
            replace p117 := eq_true p117
            replace q117 := eq_true q117
            go_wp2_with (first | ((with_reducible refine gate_callee (f := 24) rfl ?_); refine goesL_ (some 30) rfl rfl Try.func24 (by kernel_rfl) rfl #[.int .i32 (rd y114 x24_2)] rfl (by (try simp only [List.map_toArray, List.map_cons, List.map_nil]); first | done | rfl | (simp only [List.length_drop, List.length_take]; rfl)) ?_; (with_reducible refine (fix_Text.calls (rd y114 x24_2) t118 _ A20.out).mono ?_); rintro e w25 ⟨rfl, hb⟩; refine ⟨_, rfl, ?_⟩; have n0_ := Aside0.mk (Kd.R_below (by (with_reducible repeat (first | apply rwA | apply rwN | apply rwD)); exact HO_22.out) hb); have n1_ := Aside0.mk (below_step (by repeat (first | (with_reducible first | exact HB.out | apply bwA | apply bwN | apply bwD) | exact HB.out)) hb); clear HO_22; clear HB; have HO_22 := n0_; have HB := n1_; clear n0_ n1_; (try clear hb); (try clear hb2); (try clear hk); (try clear hi)) | ((with_reducible refine gate_callee (f := 25) rfl ?_); refine goesL_ (some 31) rfl rfl Try.func25 (by kernel_rfl) rfl #[.string t118] rfl (by (try simp only [List.map_toArray, List.map_cons, List.map_nil]); first | done | rfl | (simp only [List.length_drop, List.length_take]; rfl)) ?_; (with_reducible refine (fix_Parse.calls t118 t119 t120 _ A21.out).mono ?_); rintro e w26 ⟨rfl, hb⟩; refine ⟨_, rfl, ?_⟩; have n0_ := Aside0.mk (Kd.R_below (by (with_reducible repeat (first | apply rwA | apply rwN | apply rwD)); exact HO_22.out) hb); have n1_ := Aside0.mk (below_step (by repeat (first | (with_reducible first | exact HB.out | apply bwA | apply bwN | apply bwD) | exact HB.out)) hb); clear HO_22; clear HB; have HO_22 := n0_; have HB := n1_; clear n0_ n1_; (try clear hb); (try clear hb2); (try clear hk); (try clear hi)))
            go_roundg k2
            case measure => have := HJ2.out; have := HK2.out; omega
            case rel => exact ⟨(wrap64 (x24_2 + 1)), (by first | rfl | (simp; done) | (simp [*]; done) | (simp [ne_nil_]; done)), H', ⟨by have := HJ2.out; have := HK2.out; omega⟩, ⟨by (with_reducible repeat (first | apply rwA | apply rwN | apply rwD)); exact HO_22.out⟩, ⟨by repeat (first | (with_reducible first | exact HB.out | apply bwA | apply bwN | apply bwD) | exact HB.out)⟩⟩
           ·rw [if_neg c24] at H
            exact absurd (Option.some.inj H) (by rw [hr_.out]; decide)
          ·rw [if_neg c23] at H
           exact absurd (Option.some.inj H) (by rw [hr_.out]; decide)
         ·rw [if_neg c22] at H
          have c22b0 : decide ((-2147483647) ≤ (rd y114 x24_2)) = false := decide_eq_false c22
          clear c22
          have H' := Aside0.mk H
          clear H
          have p117 : 0 ≤ (x24_2 : Int) := ofd_
          have q117 : x24_2 < (y114.length : Int) := ofd_
          (first | obtain ⟨ad117, e117, hx117_0⟩ := Kd.at_int (Kd.R_reads' HO_22.out).2.2 x24_2 p117 q117 | (obtain ⟨Az_, cz_, ez_⟩ := Kd.R_slice HO_22.out; subst ez_; obtain ⟨ad117, e117, hx117_0⟩ := Kd.at_int (Kd.R_reads' HO_22.out).2.2 x24_2 p117 q117))
          cases e117
          replace p117 := eq_true p117
          replace q117 := eq_true q117
          go_wp2_with (first | ((with_reducible refine gate_callee (f := 24) rfl ?_); refine goesL_ (some 30) rfl rfl Try.func24 (by kernel_rfl) rfl #[.int .i32 (rd y114 x24_2)] rfl (by (try simp only [List.map_toArray, List.map_cons, List.map_nil]); first | done | rfl | (simp only [List.length_drop, List.length_take]; rfl)) ?_; (with_reducible refine (fix_Text.calls (rd y114 x24_2) t118 _ A20.out).mono ?_); rintro e w27 ⟨rfl, hb⟩; refine ⟨_, rfl, ?_⟩; have n0_ := Aside0.mk (Kd.R_below (by (with_reducible repeat (first | apply rwA | apply rwN | apply rwD)); exact HO_22.out) hb); have n1_ := Aside0.mk (below_step (by repeat (first | (with_reducible first | exact HB.out | apply bwA | apply bwN | apply bwD) | exact HB.out)) hb); clear HO_22; clear HB; have HO_22 := n0_; have HB := n1_; clear n0_ n1_; (try clear hb); (try clear hb2); (try clear hk); (try clear hi)) | ((with_reducible refine gate_callee (f := 25) rfl ?_); refine goesL_ (some 31) rfl rfl Try.func25 (by kernel_rfl) rfl #[.string t118] rfl (by (try simp only [List.map_toArray, List.map_cons, List.map_nil]); first | done | rfl | (simp only [List.length_drop, List.length_take]; rfl)) ?_; (with_reducible refine (fix_Parse.calls t118 t119 t120 _ A21.out).mono ?_); rintro e w28 ⟨rfl, hb⟩; refine ⟨_, rfl, ?_⟩; have n0_ := Aside0.mk (Kd.R_below (by (with_reducible repeat (first | apply rwA | apply rwN | apply rwD)); exact HO_22.out) hb); have n1_ := Aside0.mk (below_step (by repeat (first | (with_reducible first | exact HB.out | apply bwA | apply bwN | apply bwD) | exact HB.out)) hb); clear HO_22; clear HB; have HO_22 := n0_; have HB := n1_; clear n0_ n1_; (try clear hb); (try clear hb2); (try clear hk); (try clear hi)))
          go_roundg k2
          case measure => have := HJ2.out; have := HK2.out; omega
          case rel => exact ⟨(wrap64 (x24_2 + 1)), (by first | rfl | (simp; done) | (simp [*]; done) | (simp [ne_nil_]; done)), H', ⟨by have := HJ2.out; have := HK2.out; omega⟩, ⟨by (with_reducible repeat (first | apply rwA | apply rwN | apply rwD)); exact HO_22.out⟩, ⟨by repeat (first | (with_reducible first | exact HB.out | apply bwA | apply bwN | apply bwD) | exact HB.out)⟩⟩
        ·rw [if_neg c19] at H
         exact absurd H (by simp)
       ·rw [if_neg c18] at H
        exact absurd H (by simp)
      ·rw [if_neg c17] at H
       have c17b0 : decide (x24_2 < (y114.length : Int)) = false := decide_eq_false c17
       clear c17
       have HC29 := Aside0.mk H
       clear H
       go_upto_region 10 with (fail)
       go_cut [59] (fun v59 wc => ∃ (kq : Nat) (x59_28 : Bool), v59 = .bool x59_28 ∧ Aside0 (tillertop_TillerNumbers.j2 kq a0 a1 x59_28 = some r) ∧ Aside0 (kq ≤ k2) ∧ Aside0 (Below w.heap.size w wc))
       case first =>
        have H := HC29.out
        clear HC29
        by_cases c30 : a0 > 0
        ·rw [if_pos c30] at H
         have c30b0 : decide (0 < a0) = true := decide_eq_true c30
         clear c30
         (first | rw [c30b0] | (simp only [i64_w, i32_w]; rw [c30b0]) | skip)
         have H' := Aside0.mk H
         clear H
         go_wp2
         go_meet
         case rel => exact ⟨_, (true), (by first | rfl | (simp; done) | (simp [*]; done) | (simp [ne_nil_]; done)), H', ⟨by have := HJ2.out; have := HK2.out; first | omega | exact Nat.le_refl _⟩, ⟨by repeat (first | (with_reducible first | exact HB.out | apply bwA | apply bwN | apply bwD) | exact HB.out)⟩⟩
        ·rw [if_neg c30] at H
         have c30b0 : decide (0 < a0) = false := decide_eq_false c30
         clear c30
         (first | rw [c30b0] | (simp only [i64_w, i32_w]; rw [c30b0]) | skip)
         by_cases c31 : a1 > 0
         ·rw [if_pos c31] at H
          have c31b0 : decide (0 < a1) = true := decide_eq_true c31
          clear c31
          have H' := Aside0.mk H
          clear H
          go_wp2
          go_meet
          case rel => exact ⟨_, (true), (by first | rfl | (simp; done) | (simp [*]; done) | (simp [ne_nil_]; done)), H', ⟨by have := HJ2.out; have := HK2.out; first | omega | exact Nat.le_refl _⟩, ⟨by repeat (first | (with_reducible first | exact HB.out | apply bwA | apply bwN | apply bwD) | exact HB.out)⟩⟩
         ·rw [if_neg c31] at H
          have c31b0 : decide (0 < a1) = false := decide_eq_false c31
          clear c31
          by_cases c32 : a0 < (-524288)
          ·rw [if_pos c32] at H
           have c32b0 : decide (a0 < (-524288)) = true := decide_eq_true c32
           clear c32
           have H' := Aside0.mk H
           clear H
           go_wp2
           go_meet
           case rel => exact ⟨_, (true), (by first | rfl | (simp; done) | (simp [*]; done) | (simp [ne_nil_]; done)), H', ⟨by have := HJ2.out; have := HK2.out; first | omega | exact Nat.le_refl _⟩, ⟨by repeat (first | (with_reducible first | exact HB.out | apply bwA | apply bwN | apply bwD) | exact HB.out)⟩⟩
          ·rw [if_neg c32] at H
           have c32b0 : decide (a0 < (-524288)) = false := decide_eq_false c32
           clear c32
           have H' := Aside0.mk H
           clear H
           go_wp2
           go_meet
           case rel => exact ⟨_, (decide (a1 < (-524288))), (by first | rfl | (simp; done) | (simp [*]; done) | (simp [ne_nil_]; done)), H', ⟨by have := HJ2.out; have := HK2.out; first | omega | exact Nat.le_refl _⟩, ⟨by repeat (first | (with_reducible first | exact HB.out | apply bwA | apply bwN | apply bwD) | exact HB.out)⟩⟩
       case rest =>
        clear HC29
        try clear c1
        try clear p1
        try clear q1
        try clear hx1
        try clear c2
        try clear p2
        try clear c3
        try clear c5
        try clear c5b0
        try clear c5b1
        try clear p6
        try clear c10
        try clear p11
        try clear q11
        try clear hx11
        try clear c17
        try clear c17b0
        try clear c18
        try clear c18b0
        try clear c19
        try clear c19b0
        try clear c22
        try clear c22b0
        try clear c23
        try clear c23b0
        try clear c23b1
        try clear c24
        try clear c24b0
        try clear c24b1
        try clear c25
        try clear c28
        try clear c29
        try clear c30
        try clear c30b0
        try clear c31
        try clear c31b0
        try clear c32
        try clear c32b0
        try clear hx117_0
        try clear p117
        try clear p2
        try clear q117
        obtain ⟨kq, x59_28, rfl, HA, HJ28, HB⟩ := hcut
        cases kq with
        | zero => exact absurd HA.out (by simp [tillertop_TillerNumbers.j2])
        | succ kj28 =>
         have H := HA.out
         clear HA
         simp only [tillertop_TillerNumbers.j2] at H
         by_cases c33 : x59_28 = true
         ·subst c33
          have H1 : (some true) = some r := by rw [if_pos rfl] at H; exact H
          clear H
          have H := H1
          clear H1
          obtain rfl := Option.some.inj H
          go_wp2
          go_ret
          exact ⟨by first | rfl | (simp [errW_none, errW_some] <;> rfl) | (simp [*, errW_none, errW_some] <;> rfl), by repeat (first | (with_reducible first | exact HB.out | apply bwA | apply bwN | apply bwD) | exact HB.out)⟩
         ·replace c33 := Bool.eq_false_iff.mpr c33
          subst c33
          have H1 : ((curve_Pow.f (wrap32 (a0 + a1))).bind fun t121 => ((curve_Pow.f a0).bind fun t122 => ((curve_Pow.f a1).bind fun t123 => ((fix_Mul.f kj28 t122 t123).bind fun t124 => (if (wrap64 ((wrap64 (t121)) - (wrap64 (t124)))) ≥ (-8) then (some (decide ((wrap64 ((wrap64 (t121)) - (wrap64 (t124)))) ≤ 8))) else (some false)))))) = some r := by rw [if_neg (show ¬ (false = true) by decide)] at H; exact H
          clear H
          have H := H1
          clear H1
          replace H := Option.bind_eq_some_iff.mp H
          obtain ⟨t121, A340, H⟩ := H
          replace H : ((curve_Pow.f a0).bind fun t122 => ((curve_Pow.f a1).bind fun t123 => ((fix_Mul.f kj28 t122 t123).bind fun t124 => (if (wrap64 ((wrap64 (t121)) - (wrap64 (t124)))) ≥ (-8) then (some (decide ((wrap64 ((wrap64 (t121)) - (wrap64 (t124)))) ≤ 8))) else (some false))))) = some r := H
          have A34 := Aside0.mk A340
          clear A340
          replace H := Option.bind_eq_some_iff.mp H
          obtain ⟨t122, A350, H⟩ := H
          replace H : ((curve_Pow.f a1).bind fun t123 => ((fix_Mul.f kj28 t122 t123).bind fun t124 => (if (wrap64 ((wrap64 (t121)) - (wrap64 (t124)))) ≥ (-8) then (some (decide ((wrap64 ((wrap64 (t121)) - (wrap64 (t124)))) ≤ 8))) else (some false)))) = some r := H
          have A35 := Aside0.mk A350
          clear A350
          replace H := Option.bind_eq_some_iff.mp H
          obtain ⟨t123, A360, H⟩ := H
          replace H : ((fix_Mul.f kj28 t122 t123).bind fun t124 => (if (wrap64 ((wrap64 (t121)) - (wrap64 (t124)))) ≥ (-8) then (some (decide ((wrap64 ((wrap64 (t121)) - (wrap64 (t124)))) ≤ 8))) else (some false))) = some r := H
          have A36 := Aside0.mk A360
          clear A360
          replace H := Option.bind_eq_some_iff.mp H
          obtain ⟨t124, A370, H⟩ := H
          replace H : (if (wrap64 ((wrap64 (t121)) - (wrap64 (t124)))) ≥ (-8) then (some (decide ((wrap64 ((wrap64 (t121)) - (wrap64 (t124)))) ≤ 8))) else (some false)) = some r := H
          have A37 := Aside0.mk A370
          clear A370
          by_cases c38 : (wrap64 ((wrap64 (t121)) - (wrap64 (t124)))) ≥ (-8)
          ·rw [if_pos c38] at H
           have c38b0 : decide ((-8) ≤ (wrap64 ((wrap64 (t121)) - (wrap64 (t124))))) = true := decide_eq_true c38
           clear c38
           obtain rfl := Option.some.inj H
           go_wp2_with (first | ((with_reducible refine gate_callee (f := 28) rfl ?_); refine goesL_ (some 63) rfl rfl Try.func28 (by kernel_rfl) rfl #[.int .i32 (wrap32 (a0 + a1))] rfl (by (try simp only [List.map_toArray, List.map_cons, List.map_nil]); first | done | rfl | (simp only [List.length_drop, List.length_take]; rfl)) ?_; (with_reducible refine (curve_Pow.calls (wrap32 (a0 + a1)) t121 _ A34.out).mono ?_); rintro e w39 ⟨rfl, hb⟩; refine ⟨_, rfl, ?_⟩; have n0_ := Aside0.mk (below_step (by repeat (first | (with_reducible first | exact HB.out | apply bwA | apply bwN | apply bwD) | exact HB.out)) hb); clear HB; have HB := n0_; clear n0_; (try clear hb); (try clear hb2); (try clear hk); (try clear hi)) | ((with_reducible refine gate_callee (f := 28) rfl ?_); refine goesL_ (some 66) rfl rfl Try.func28 (by kernel_rfl) rfl #[.int .i32 a0] rfl (by (try simp only [List.map_toArray, List.map_cons, List.map_nil]); first | done | rfl | (simp only [List.length_drop, List.length_take]; rfl)) ?_; (with_reducible refine (curve_Pow.calls a0 t122 _ A35.out).mono ?_); rintro e w40 ⟨rfl, hb⟩; refine ⟨_, rfl, ?_⟩; have n0_ := Aside0.mk (below_step (by repeat (first | (with_reducible first | exact HB.out | apply bwA | apply bwN | apply bwD) | exact HB.out)) hb); clear HB; have HB := n0_; clear n0_; (try clear hb); (try clear hb2); (try clear hk); (try clear hi)) | ((with_reducible refine gate_callee (f := 28) rfl ?_); refine goesL_ (some 68) rfl rfl Try.func28 (by kernel_rfl) rfl #[.int .i32 a1] rfl (by (try simp only [List.map_toArray, List.map_cons, List.map_nil]); first | done | rfl | (simp only [List.length_drop, List.length_take]; rfl)) ?_; (with_reducible refine (curve_Pow.calls a1 t123 _ A36.out).mono ?_); rintro e w41 ⟨rfl, hb⟩; refine ⟨_, rfl, ?_⟩; have n0_ := Aside0.mk (below_step (by repeat (first | (with_reducible first | exact HB.out | apply bwA | apply bwN | apply bwD) | exact HB.out)) hb); clear HB; have HB := n0_; clear n0_; (try clear hb); (try clear hb2); (try clear hk); (try clear hi)) | ((with_reducible refine gate_callee (f := 13) rfl ?_); refine goesL_ (some 69) rfl rfl Try.func13 (by kernel_rfl) rfl #[.int .i32 t122, .int .i32 t123] rfl (by (try simp only [List.map_toArray, List.map_cons, List.map_nil]); first | done | rfl | (simp only [List.length_drop, List.length_take]; rfl)) ?_; (with_reducible refine (fix_Mul.calls kj28 t122 t123 t124 _ A37.out).mono ?_); rintro e w42 ⟨rfl, hb⟩; refine ⟨_, rfl, ?_⟩; have n0_ := Aside0.mk (below_step (by repeat (first | (with_reducible first | exact HB.out | apply bwA | apply bwN | apply bwD) | exact HB.out)) hb); clear HB; have HB := n0_; clear n0_; (try clear hb); (try clear hb2); (try clear hk); (try clear hi)))
           go_ret
           exact ⟨by first | rfl | (simp [errW_none, errW_some] <;> rfl) | (simp [*, errW_none, errW_some] <;> rfl), by repeat (first | (with_reducible first | exact HB.out | apply bwA | apply bwN | apply bwD) | exact HB.out)⟩
          ·rw [if_neg c38] at H
           exact absurd (Option.some.inj H) (by rw [hr_.out]; decide)

end Go.Proofs.Ytnhapgenebcjmaa.GN
