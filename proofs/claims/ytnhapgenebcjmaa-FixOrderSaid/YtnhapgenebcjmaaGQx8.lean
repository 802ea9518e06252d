-- written by this session's program gprint.py
import Derived.Test.YtnhapgenebcjmaaGQx0
import Derived.Test.YtnhapgenebcjmaaGQx1
import Derived.Test.YtnhapgenebcjmaaGQx2
import Derived.Test.YtnhapgenebcjmaaWLast
import Derived.Test.YtnhapgenebcjmaaWMore
import Derived.Test.YtnhapgenebcjmaaWWords
namespace Go.Proofs.Ytnhapgenebcjmaa.GQ
open Go.RowKit Go.Proofs.YtnhapgenebcjmaaW.PrintWords Go.Proofs.YtnhapgenebcjmaaW.PrintLast Go.Proofs.YtnhapgenebcjmaaW.PrintMore Go.Proofs.Ytnhapgenebcjmaa.GText
attribute [local go_sem] max2_int min2_int max_two min_two max_three min_three max_four min_four   -- for this text's walks alone
set_option linter.unusedVariables false
set_option linter.unusedSimpArgs false

/-! ### tillerlaw01_FixOrder: function 7 -/
mutual
def tillerlaw01_FixOrder.j0 : Nat → Int → Int → Int → Bool → Option (Bool)
 | 0, _, _, _, _ => none
 | k + 1, x0, x1, x2, x27 => if x27 = true then (some false) else ((fix_Sub.f 0 x0).bind fun t167 => ((fix_Div.f k x0 x1).bind fun bt168 => ((fix_Div.f k t167 x1).bind fun bt170 => (if bt168.2 = bt170.2 then ((fix_Mul.f k t167 x1).bind fun t172 => ((fix_Sat.f (wrap64 (x0))).bind fun t173 => ((fix_Mul.f k t173 x1).bind fun t174 => ((fix_Sub.f 0 t174).bind fun t175 => (tillerlaw01_FixOrder.j1 k x0 x2 bt168.1 bt168.2 bt170.1 (t172 != t175)))))) else (tillerlaw01_FixOrder.j1 k x0 x2 bt168.1 bt168.2 bt170.1 true)))))
def tillerlaw01_FixOrder.j1 : Nat → Int → Int → Int → Int → Int → Bool → Option (Bool)
 | 0, _, _, _, _, _, _ => none
 | k + 1, x0, x2, x9, x10, x11, x56 => if x56 = true then (some false) else (if x0 > (-2147483648) then (if x10 = 0 then ((fix_Sub.f 0 x9).bind fun t176 => (tillerlaw01_FixOrder.j2 k x2 (x11 != t176))) else (tillerlaw01_FixOrder.j2 k x2 false)) else (tillerlaw01_FixOrder.j2 k x2 false))
def tillerlaw01_FixOrder.j2 : Nat → Int → Bool → Option (Bool)
 | 0, _, _ => none
 | k + 1, x2, x68 => if x68 = true then (some false) else ((tillerlaw01_awake.f k).bind fun t177 => (if t177 = true then (if x2 < (-32767) then (some true) else (if x2 > 32767 then (some true) else ((fix_Of.f x2).bind fun t178 => ((fix_Floor.f t178).bind fun t179 => (some (t179 == x2)))))) else (some false)))
end
def tillerlaw01_FixOrder.f (k : Nat) (a0 : Int) (a1 : Int) (a2 : Int) : Option (Bool) := (fix_Floor.f a0).bind fun t166 => (if (wrap64 (t166 * 65536)) > (wrap64 (a0)) then (tillerlaw01_FixOrder.j0 k a0 a1 a2 true) else (tillerlaw01_FixOrder.j0 k a0 a1 a2 (decide ((wrap64 ((wrap64 (t166 + 1)) * 65536)) ≤ (wrap64 (a0))))))
theorem tillerlaw01_FixOrder.mono_l : ∀ k, (∀ y0 y1 y2 y3, LeO (tillerlaw01_FixOrder.j0 k y0 y1 y2 y3) (tillerlaw01_FixOrder.j0 (k + 1) y0 y1 y2 y3)) ∧ (∀ y0 y1 y2 y3 y4 y5, LeO (tillerlaw01_FixOrder.j1 k y0 y1 y2 y3 y4 y5) (tillerlaw01_FixOrder.j1 (k + 1) y0 y1 y2 y3 y4 y5)) ∧ (∀ y0 y1, LeO (tillerlaw01_FixOrder.j2 k y0 y1) (tillerlaw01_FixOrder.j2 (k + 1) y0 y1))
 | 0 => ⟨fun _ _ _ _ r h => by simp [tillerlaw01_FixOrder.j0] at h, fun _ _ _ _ _ _ r h => by simp [tillerlaw01_FixOrder.j1] at h, fun _ _ r h => by simp [tillerlaw01_FixOrder.j2] at h⟩
 | k + 1 => by
  obtain ⟨ih0, ih1, ih2⟩ := tillerlaw01_FixOrder.mono_l k
  refine ⟨?_, ?_, ?_⟩
  ·intro y0 y1 y2 y3
   unfold tillerlaw01_FixOrder.j0
   repeat' first
   | (with_reducible exact ih0 _ _ _ _)
   | (with_reducible exact ih1 _ _ _ _ _ _)
   | (with_reducible exact ih2 _ _)
   | (with_reducible exact fix_Div.mono _ _ _)
   | (with_reducible exact fix_Mul.mono _ _ _)
   | (with_reducible exact tillerlaw01_awake.mono _)
   | (with_reducible exact LeO.refl _)
   | (with_reducible exact LeO.none _)
   | (with_reducible refine LeO.ite ?_ ?_)
   | (with_reducible refine LeO.bind ?_ (fun _ => ?_))
   | exact ih0 _ _ _ _
   | exact ih1 _ _ _ _ _ _
   | exact ih2 _ _
   | exact fix_Div.mono _ _ _
   | exact fix_Mul.mono _ _ _
   | exact tillerlaw01_awake.mono _
   | exact LeO.none _
   | refine LeO.ite ?_ ?_
   | refine LeO.bind ?_ (fun _ => ?_)
  ·intro y0 y1 y2 y3 y4 y5
   unfold tillerlaw01_FixOrder.j1
   repeat' first
   | (with_reducible exact ih0 _ _ _ _)
   | (with_reducible exact ih1 _ _ _ _ _ _)
   | (with_reducible exact ih2 _ _)
   | (with_reducible exact fix_Div.mono _ _ _)
   | (with_reducible exact fix_Mul.mono _ _ _)
   | (with_reducible exact tillerlaw01_awake.mono _)
   | (with_reducible exact LeO.refl _)
   | (with_reducible exact LeO.none _)
   | (with_reducible refine LeO.ite ?_ ?_)
   | (with_reducible refine LeO.bind ?_ (fun _ => ?_))
   | exact ih0 _ _ _ _
   | exact ih1 _ _ _ _ _ _
   | exact ih2 _ _
   | exact fix_Div.mono _ _ _
   | exact fix_Mul.mono _ _ _
   | exact tillerlaw01_awake.mono _
   | exact LeO.none _
   | refine LeO.ite ?_ ?_
   | refine LeO.bind ?_ (fun _ => ?_)
  ·intro y0 y1
   unfold tillerlaw01_FixOrder.j2
   repeat' first
   | (with_reducible exact ih0 _ _ _ _)
   | (with_reducible exact ih1 _ _ _ _ _ _)
   | (with_reducible exact ih2 _ _)
   | (with_reducible exact fix_Div.mono _ _ _)
   | (with_reducible exact fix_Mul.mono _ _ _)
   | (with_reducible exact tillerlaw01_awake.mono _)
   | (with_reducible exact LeO.refl _)
   | (with_reducible exact LeO.none _)
   | (with_reducible refine LeO.ite ?_ ?_)
   | (with_reducible refine LeO.bind ?_ (fun _ => ?_))
   | exact ih0 _ _ _ _
   | exact ih1 _ _ _ _ _ _
   | exact ih2 _ _
   | exact fix_Div.mono _ _ _
   | exact fix_Mul.mono _ _ _
   | exact tillerlaw01_awake.mono _
   | exact LeO.none _
   | refine LeO.ite ?_ ?_
   | refine LeO.bind ?_ (fun _ => ?_)
theorem tillerlaw01_FixOrder.mono : ∀ a0 a1 a2 k, LeO (tillerlaw01_FixOrder.f k a0 a1 a2) (tillerlaw01_FixOrder.f (k + 1) a0 a1 a2) := by
 intro a0 a1 a2 k
 obtain ⟨ih0, ih1, ih2⟩ := tillerlaw01_FixOrder.mono_l k
 unfold tillerlaw01_FixOrder.f
 repeat' first
   | (with_reducible exact ih0 _ _ _ _)
   | (with_reducible exact ih1 _ _ _ _ _ _)
   | (with_reducible exact ih2 _ _)
   | (with_reducible exact fix_Div.mono _ _ _)
   | (with_reducible exact fix_Mul.mono _ _ _)
   | (with_reducible exact tillerlaw01_awake.mono _)
   | (with_reducible exact LeO.refl _)
   | (with_reducible exact LeO.none _)
   | (with_reducible refine LeO.ite ?_ ?_)
   | (with_reducible refine LeO.bind ?_ (fun _ => ?_))
   | exact ih0 _ _ _ _
   | exact ih1 _ _ _ _ _ _
   | exact ih2 _ _
   | exact fix_Div.mono _ _ _
   | exact fix_Mul.mono _ _ _
   | exact tillerlaw01_awake.mono _
   | exact LeO.none _
   | refine LeO.ite ?_ ?_
   | refine LeO.bind ?_ (fun _ => ?_)
set_option maxHeartbeats 8000000 in
set_option maxRecDepth 100000 in
theorem tillerlaw01_FixOrder.calls (k : Nat) (a0 : Int) (a1 : Int) (a2 : Int) (r : Bool) (w : World) (hr_ : Aside0 (r = true)) (h : tillerlaw01_FixOrder.f k a0 a1 a2 = some r) :
  Calls Try.prog 7 #[.int .i32 a0, .int .i32 a1, .int .i64 a2] w fun e w' => e = .returned (.bool r) ∧ Below w.heap.size w w' := by
 have HB := Aside0.mk (Below.refl w.heap.size w)
 have H : ((fix_Floor.f a0).bind fun t166 => (if (wrap64 (t166 * 65536)) > (wrap64 (a0)) then (tillerlaw01_FixOrder.j0 k a0 a1 a2 true) else (tillerlaw01_FixOrder.j0 k a0 a1 a2 (decide ((wrap64 ((wrap64 (t166 + 1)) * 65536)) ≤ (wrap64 (a0))))))) = some r := h
 clear h
 replace H := Option.bind_eq_some_iff.mp H
 obtain ⟨t166, A40, H⟩ := H
 replace H : (if (wrap64 (t166 * 65536)) > (wrap64 (a0)) then (tillerlaw01_FixOrder.j0 k a0 a1 a2 true) else (tillerlaw01_FixOrder.j0 k a0 a1 a2 (decide ((wrap64 ((wrap64 (t166 + 1)) * 65536)) ≤ (wrap64 (a0)))))) = some r := H
 have A4 := Aside0.mk A40
 clear A40
 have HC5 := Aside0.mk H
 clear H
 go_enter Try.func7, Try.ntmps7
 go_upto_region 2 with (first | ((with_reducible refine gate_callee (f := 22) rfl ?_); refine goesL_ (some 14) rfl rfl Try.func22 (by kernel_rfl) rfl #[.int .i32 a0] rfl (by (try simp only [List.map_toArray, List.map_cons, List.map_nil]); first | done | rfl | (simp only [List.length_drop, List.length_take]; rfl)) ?_; (with_reducible refine (fix_Floor.calls a0 t166 _ A4.out).mono ?_); rintro e w' ⟨rfl, ⟨nd, rfl⟩⟩; refine ⟨_, rfl, ?_⟩))
 (try simp only [Act.put, List.setIfInBounds_toArray, List.set_cons_zero, List.set_cons_succ])
 go_cut [27] (fun v27 wc => ∃ (kq : Nat) (x27_4 : Bool), v27 = .bool x27_4 ∧ Aside0 (tillerlaw01_FixOrder.j0 kq a0 a1 a2 x27_4 = some r) ∧ Aside0 (kq ≤ k) ∧ Aside0 (Below w.heap.size w wc))
 case first =>
  have H := HC5.out
  clear HC5
  by_cases c6 : (wrap64 (t166 * 65536)) > (wrap64 (a0))
  ·rw [if_pos c6] at H
   have c6b0 : decide ((wrap64 (a0)) < (wrap64 (t166 * 65536))) = true := decide_eq_true c6
   clear c6
   (first | rw [c6b0] | (simp only [i64_w, i32_w]; rw [c6b0]) | skip)
   have H' := Aside0.mk H
   clear H
   go_wp2
   go_meet
   case rel => exact ⟨_, (true), (by first | rfl | (simp; done) | (simp [*]; done)), H', ⟨by first | omega | exact Nat.le_refl _⟩, ⟨by repeat (first | (with_reducible first | exact HB.out | apply bwA | apply bwN | apply bwD) | exact HB.out)⟩⟩
  ·rw [if_neg c6] at H
   have c6b0 : decide ((wrap64 (a0)) < (wrap64 (t166 * 65536))) = false := decide_eq_false c6
   clear c6
   (first | rw [c6b0] | (simp only [i64_w, i32_w]; rw [c6b0]) | skip)
   have H' := Aside0.mk H
   clear H
   go_wp2
   go_meet
   case rel => exact ⟨_, (decide ((wrap64 ((wrap64 (t166 + 1)) * 65536)) ≤ (wrap64 (a0)))), (by first | rfl | (simp; done) | (simp [*]; done)), H', ⟨by first | omega | exact Nat.le_refl _⟩, ⟨by repeat (first | (with_reducible first | exact HB.out | apply bwA | apply bwN | apply bwD) | exact HB.out)⟩⟩
 case rest =>
  clear HC5
  try clear c2
  try clear p2
  try clear c6
  try clear c6b0
  try clear p6
  obtain ⟨kq, x27_4, rfl, HA, HJ4, HB⟩ := hcut
  cases kq with
  | zero => exact absurd HA.out (by simp [tillerlaw01_FixOrder.j0])
  | succ kj4 =>
   have H := HA.out
   clear HA
   simp only [tillerlaw01_FixOrder.j0] at H
   by_cases c7 : x27_4 = true
   ·subst c7
    have H1 : (some false) = some r := by rw [if_pos rfl] at H; exact H
    clear H
    have H := H1
    clear H1
    exact absurd (Option.some.inj H) (by rw [hr_.out]; decide)
   ·replace c7 := Bool.eq_false_iff.mpr c7
    subst c7
    have H1 : ((fix_Sub.f 0 a0).bind fun t167 => ((fix_Div.f kj4 a0 a1).bind fun bt168 => ((fix_Div.f kj4 t167 a1).bind fun bt170 => (if bt168.2 = bt170.2 then ((fix_Mul.f kj4 t167 a1).bind fun t172 => ((fix_Sat.f (wrap64 (a0))).bind fun t173 => ((fix_Mul.f kj4 t173 a1).bind fun t174 => ((fix_Sub.f 0 t174).bind fun t175 => (tillerlaw01_FixOrder.j1 kj4 a0 a2 bt168.1 bt168.2 bt170.1 (t172 != t175)))))) else (tillerlaw01_FixOrder.j1 kj4 a0 a2 bt168.1 bt168.2 bt170.1 true))))) = some r := by rw [if_neg (show ¬ (false = true) by decide)] at H; exact H
    clear H
    have H := H1
    clear H1
    replace H := Option.bind_eq_some_iff.mp H
    obtain ⟨t167, A80, H⟩ := H
    replace H : ((fix_Div.f kj4 a0 a1).bind fun bt168 => ((fix_Div.f kj4 t167 a1).bind fun bt170 => (if bt168.2 = bt170.2 then ((fix_Mul.f kj4 t167 a1).bind fun t172 => ((fix_Sat.f (wrap64 (a0))).bind fun t173 => ((fix_Mul.f kj4 t173 a1).bind fun t174 => ((fix_Sub.f 0 t174).bind fun t175 => (tillerlaw01_FixOrder.j1 kj4 a0 a2 bt168.1 bt168.2 bt170.1 (t172 != t175)))))) else (tillerlaw01_FixOrder.j1 kj4 a0 a2 bt168.1 bt168.2 bt170.1 true)))) = some r := H
    have A8 := Aside0.mk A80
    clear A80
    replace H := Option.bind_eq_some_iff.mp H
    obtain ⟨⟨t168, t169⟩, A90, H⟩ := H
    replace H : ((fix_Div.f kj4 t167 a1).bind fun bt170 => (if t169 = bt170.2 then ((fix_Mul.f kj4 t167 a1).bind fun t172 => ((fix_Sat.f (wrap64 (a0))).bind fun t173 => ((fix_Mul.f kj4 t173 a1).bind fun t174 => ((fix_Sub.f 0 t174).bind fun t175 => (tillerlaw01_FixOrder.j1 kj4 a0 a2 t168 t169 bt170.1 (t172 != t175)))))) else (tillerlaw01_FixOrder.j1 kj4 a0 a2 t168 t169 bt170.1 true))) = some r := H
    have A9 := Aside0.mk A90
    clear A90
    replace H := Option.bind_eq_some_iff.mp H
    obtain ⟨⟨t170, t171⟩, A100, H⟩ := H
    replace H : (if t169 = t171 then ((fix_Mul.f kj4 t167 a1).bind fun t172 => ((fix_Sat.f (wrap64 (a0))).bind fun t173 => ((fix_Mul.f kj4 t173 a1).bind fun t174 => ((fix_Sub.f 0 t174).bind fun t175 => (tillerlaw01_FixOrder.j1 kj4 a0 a2 t168 t169 t170 (t172 != t175)))))) else (tillerlaw01_FixOrder.j1 kj4 a0 a2 t168 t169 t170 true)) = some r := H
    have A10 := Aside0.mk A100
    clear A100
    have HC11 := Aside0.mk H
    clear H
    go_upto_region 7 with (first | ((with_reducible refine gate_callee (f := 20) rfl ?_); refine goesL_ (some 29) rfl rfl Try.func20 (by kernel_rfl) rfl #[.int .i32 0, .int .i32 a0] rfl (by (try simp only [List.map_toArray, List.map_cons, List.map_nil]); first | done | rfl | (simp only [List.length_drop, List.length_take]; rfl)) ?_; (with_reducible refine (fix_Sub.calls 0 a0 t167 _ A8.out).mono ?_); rintro e w12 ⟨rfl, hb⟩; refine ⟨_, rfl, ?_⟩; have n0_ := Aside0.mk (below_step (by repeat (first | (with_reducible first | exact HB.out | apply bwA | apply bwN | apply bwD) | exact HB.out)) hb); clear HB; have HB := n0_; clear n0_; (try clear hb); (try clear hb2); (try clear hk); (try clear hi)) | ((with_reducible refine gate_callee (f := 11) rfl ?_); refine goesL_ (some 33) rfl rfl Try.func11 (by kernel_rfl) rfl #[.int .i32 a0, .int .i32 a1] rfl (by (try simp only [List.map_toArray, List.map_cons, List.map_nil]); first | done | rfl | (simp only [List.length_drop, List.length_take]; rfl)) ?_; (with_reducible refine (fix_Div.calls kj4 a0 a1 t168 t169 _ A9.out).mono ?_); rintro e w13 ⟨rfl, hb⟩; refine ⟨_, rfl, ?_⟩; have n0_ := Aside0.mk (below_step (by repeat (first | (with_reducible first | exact HB.out | apply bwA | apply bwN | apply bwD) | exact HB.out)) hb); clear HB; have HB := n0_; clear n0_; (try clear hb); (try clear hb2); (try clear hk); (try clear hi)) | ((with_reducible refine gate_callee (f := 11) rfl ?_); refine goesL_ (some 39) rfl rfl Try.func11 (by kernel_rfl) rfl #[.int .i32 t167, .int .i32 a1] rfl (by (try simp only [List.map_toArray, List.map_cons, List.map_nil]); first | done | rfl | (simp only [List.length_drop, List.length_take]; rfl)) ?_; (with_reducible refine (fix_Div.calls kj4 t167 a1 t170 t171 _ A10.out).mono ?_); rintro e w14 ⟨rfl, hb⟩; refine ⟨_, rfl, ?_⟩; have n0_ := Aside0.mk (below_step (by repeat (first | (with_reducible first | exact HB.out | apply bwA | apply bwN | apply bwD) | exact HB.out)) hb); clear HB; have HB := n0_; clear n0_; (try clear hb); (try clear hb2); (try clear hk); (try clear hi)))
    (try simp only [Act.put, List.setIfInBounds_toArray, List.set_cons_zero, List.set_cons_succ])
    go_cut [56] (fun v56 wc => ∃ (kq : Nat) (x56_10 : Bool), v56 = .bool x56_10 ∧ Aside0 (tillerlaw01_FixOrder.j1 kq a0 a2 t168 t169 t170 x56_10 = some r) ∧ Aside0 (kq ≤ kj4) ∧ Aside0 (Below w.heap.size w wc))
    case first =>
     have H := HC11.out
     clear HC11
     by_cases c15 : t169 = t171
     ·rw [if_pos c15] at H
      have c15b0 : (t169 == t171) = true := beq_iff_eq.mpr c15
      have c15b1 : (t169 != t171) = false := bne_eq_false_iff_eq.mpr c15
      clear c15
      (first | rw [c15b0] | (simp only [i64_w, i32_w]; rw [c15b0]) | skip)
      replace H := Option.bind_eq_some_iff.mp H
      obtain ⟨t172, A160, H⟩ := H
      replace H : ((fix_Sat.f (wrap64 (a0))).bind fun t173 => ((fix_Mul.f kj4 t173 a1).bind fun t174 => ((fix_Sub.f 0 t174).bind fun t175 => (tillerlaw01_FixOrder.j1 kj4 a0 a2 t168 t169 t170 (t172 != t175))))) = some r := H
      have A16 := Aside0.mk A160
      clear A160
      replace H := Option.bind_eq_some_iff.mp H
      obtain ⟨t173, A170, H⟩ := H
      replace H : ((fix_Mul.f kj4 t173 a1).bind fun t174 => ((fix_Sub.f 0 t174).bind fun t175 => (tillerlaw01_FixOrder.j1 kj4 a0 a2 t168 t169 t170 (t172 != t175)))) = some r := H
      have A17 := Aside0.mk A170
      clear A170
      replace H := Option.bind_eq_some_iff.mp H
      obtain ⟨t174, A180, H⟩ := H
      replace H : ((fix_Sub.f 0 t174).bind fun t175 => (tillerlaw01_FixOrder.j1 kj4 a0 a2 t168 t169 t170 (t172 != t175))) = some r := H
      have A18 := Aside0.mk A180
      clear A180
      replace H := Option.bind_eq_some_iff.mp H
      obtain ⟨t175, A190, H⟩ := H
      replace H : (tillerlaw01_FixOrder.j1 kj4 a0 a2 t168 t169 t170 (t172 != t175)) = some r := H
      have A19 := Aside0.mk A190
      clear A190
      have H' := Aside0.mk H
      clear H
      go_wp2_with (first | (go_at_call 13; (with_reducible refine (fix_Mul.calls kj4 t167 a1 t172 _ A16.out).mono ?_); rintro e w20 ⟨rfl, hb⟩; have n0_ := Aside0.mk (below_step (by repeat (first | (with_reducible first | exact HB.out | apply bwA | apply bwN | apply bwD) | exact HB.out)) hb); clear HB; have HB := n0_; clear n0_; (try clear hb); (try clear hb2); (try clear hk); (try clear hi)) | (go_at_call 19; (with_reducible refine (fix_Sat.calls (wrap64 (a0)) t173 _ A17.out).mono ?_); rintro e w21 ⟨rfl, hb⟩; have n0_ := Aside0.mk (below_step (by repeat (first | (with_reducible first | exact HB.out | apply bwA | apply bwN | apply bwD) | exact HB.out)) hb); clear HB; have HB := n0_; clear n0_; (try clear hb); (try clear hb2); (try clear hk); (try clear hi)) | (go_at_call 13; (with_reducible refine (fix_Mul.calls kj4 t173 a1 t174 _ A18.out).mono ?_); rintro e w22 ⟨rfl, hb⟩; have n0_ := Aside0.mk (below_step (by repeat (first | (with_reducible first | exact HB.out | apply bwA | apply bwN | apply bwD) | exact HB.out)) hb); clear HB; have HB := n0_; clear n0_; (try clear hb); (try clear hb2); (try clear hk); (try clear hi)) | (go_at_call 20; (with_reducible refine (fix_Sub.calls 0 t174 t175 _ A19.out).mono ?_); rintro e w23 ⟨rfl, hb⟩; have n0_ := Aside0.mk (below_step (by repeat (first | (with_reducible first | exact HB.out | apply bwA | apply bwN | apply bwD) | exact HB.out)) hb); clear HB; have HB := n0_; clear n0_; (try clear hb); (try clear hb2); (try clear hk); (try clear hi)))
      go_meet
      case rel => exact ⟨_, ((t172 != t175)), (by first | rfl | (simp; done) | (simp [*]; done)), H', ⟨by have := HJ4.out; first | omega | exact Nat.le_refl _⟩, ⟨by repeat (first | (with_reducible first | exact HB.out | apply bwA | apply bwN | apply bwD) | exact HB.out)⟩⟩
     ·rw [if_neg c15] at H
      have c15b0 : (t169 == t171) = false := beq_eq_false_iff_ne.mpr c15
      have c15b1 : (t169 != t171) = true := bne_iff_ne.mpr c15
      (first | rw [c15b0] | (simp only [i64_w, i32_w]; rw [c15b0]) | skip)
      have H' := Aside0.mk H
      clear H
      go_wp2
      go_meet
      case rel => exact ⟨_, (true), (by first | rfl | (simp; done) | (simp [*]; done)), H', ⟨by have := HJ4.out; first | omega | exact Nat.le_refl _⟩, ⟨by repeat (first | (with_reducible first | exact HB.out | apply bwA | apply bwN | apply bwD) | exact HB.out)⟩⟩
    case rest =>
     clear HC11
     try clear c1
     try clear c2
     try clear p2
     try clear c6
     try clear c6b0
     try clear p6
     try clear c7
     try clear c11
     try clear c15
     try clear c15b0
     try clear c15b1
     try clear c20
     try clear c22
     try clear p2
     try clear p6
     obtain ⟨kq, x56_10, rfl, HA, HJ10, HB⟩ := hcut
     cases kq with
     | zero => exact absurd HA.out (by simp [tillerlaw01_FixOrder.j1])
     | succ kj10 =>
      have H := HA.out
      clear HA
      simp only [tillerlaw01_FixOrder.j1] at H
      by_cases c24 : x56_10 = true
      ·subst c24
       have H1 : (some false) = some r := by rw [if_pos rfl] at H; exact H
       clear H
       have H := H1
       clear H1
       exact absurd (Option.some.inj H) (by rw [hr_.out]; decide)
      ·replace c24 := Bool.eq_false_iff.mpr c24
       subst c24
       have H1 : (if a0 > (-2147483648) then (if t169 = 0 then ((fix_Sub.f 0 t168).bind fun t176 => (tillerlaw01_FixOrder.j2 kj10 a2 (t170 != t176))) else (tillerlaw01_FixOrder.j2 kj10 a2 false)) else (tillerlaw01_FixOrder.j2 kj10 a2 false)) = some r := by rw [if_neg (show ¬ (false = true) by decide)] at H; exact H
       clear H
       have H := H1
       clear H1
       have HC25 := Aside0.mk H
       clear H
       go_upto_region 9 with (fail)
       go_cut [68] (fun v68 wc => ∃ (kq : Nat) (x68_24 : Bool), v68 = .bool x68_24 ∧ Aside0 (tillerlaw01_FixOrder.j2 kq a2 x68_24 = some r) ∧ Aside0 (kq ≤ kj10) ∧ Aside0 (Below w.heap.size w wc))
       case first =>
        have H := HC25.out
        clear HC25
        by_cases c26 : a0 > (-2147483648)
        ·rw [if_pos c26] at H
         have c26b0 : decide ((-2147483648) < a0) = true := decide_eq_true c26
         clear c26
         (first | rw [c26b0] | (simp only [i64_w, i32_w]; rw [c26b0]) | skip)
         by_cases c27 : t169 = 0
         ·rw [if_pos c27] at H
          have c27b0 : (t169 == 0) = true := beq_iff_eq.mpr c27
          have c27b1 : (t169 != 0) = false := bne_eq_false_iff_eq.mpr c27
          clear c27
          replace H := Option.bind_eq_some_iff.mp H
          obtain ⟨t176, A280, H⟩ := H
          replace H : (tillerlaw01_FixOrder.j2 kj10 a2 (t170 != t176)) = some r := H
          have A28 := Aside0.mk A280
          clear A280
          have H' := Aside0.mk H
          clear H
          go_wp2_with (first | (go_at_call 20; (with_reducible refine (fix_Sub.calls 0 t168 t176 _ A28.out).mono ?_); rintro e w29 ⟨rfl, hb⟩; have n0_ := Aside0.mk (below_step (by repeat (first | (with_reducible first | exact HB.out | apply bwA | apply bwN | apply bwD) | exact HB.out)) hb); clear HB; have HB := n0_; clear n0_; (try clear hb); (try clear hb2); (try clear hk); (try clear hi)))
          go_meet
          case rel => exact ⟨_, ((t170 != t176)), (by first | rfl | (simp; done) | (simp [*]; done)), H', ⟨by have := HJ4.out; have := HJ10.out; first | omega | exact Nat.le_refl _⟩, ⟨by repeat (first | (with_reducible first | exact HB.out | apply bwA | apply bwN | apply bwD) | exact HB.out)⟩⟩
         ·rw [if_neg c27] at H
          have c27b0 : (t169 == 0) = false := beq_eq_false_iff_ne.mpr c27
          have c27b1 : (t169 != 0) = true := bne_iff_ne.mpr c27
          have H' := Aside0.mk H
          clear H
          go_wp2
          go_meet
          case rel => exact ⟨_, (false), (by first | rfl | (simp; done) | (simp [*]; done)), H', ⟨by have := HJ4.out; have := HJ10.out; first | omega | exact Nat.le_refl _⟩, ⟨by repeat (first | (with_reducible first | exact HB.out | apply bwA | apply bwN | apply bwD) | exact HB.out)⟩⟩
        ·rw [if_neg c26] at H
         have c26b0 : decide ((-2147483648) < a0) = false := decide_eq_false c26
         clear c26
         (first | rw [c26b0] | (simp only [i64_w, i32_w]; rw [c26b0]) | skip)
         have H' := Aside0.mk H
         clear H
         go_wp2
         go_meet
         case rel => exact ⟨_, (false), (by first | rfl | (simp; done) | (simp [*]; done)), H', ⟨by have := HJ4.out; have := HJ10.out; first | omega | exact Nat.le_refl _⟩, ⟨by repeat (first | (with_reducible first | exact HB.out | apply bwA | apply bwN | apply bwD) | exact HB.out)⟩⟩
       case rest =>
        clear HC25
        try clear c1
        try clear c2
        try clear p2
        try clear c6
        try clear c6b0
        try clear p6
        try clear c7
        try clear c11
        try clear c15
        try clear c15b0
        try clear c15b1
        try clear c20
        try clear c22
        try clear c24
        try clear c26
        try clear c26b0
        try clear c27
        try clear c27b0
        try clear c27b1
        try clear p2
        try clear p6
        obtain ⟨kq, x68_24, rfl, HA, HJ24, HB⟩ := hcut
        cases kq with
        | zero => exact absurd HA.out (by simp [tillerlaw01_FixOrder.j2])
        | succ kj24 =>
         have H := HA.out
         clear HA
         simp only [tillerlaw01_FixOrder.j2] at H
         by_cases c30 : x68_24 = true
         ·subst c30
          have H1 : (some false) = some r := by rw [if_pos rfl] at H; exact H
          clear H
          have H := H1
          clear H1
          exact absurd (Option.some.inj H) (by rw [hr_.out]; decide)
         ·replace c30 := Bool.eq_false_iff.mpr c30
          subst c30
          have H1 : ((tillerlaw01_awake.f kj24).bind fun t177 => (if t177 = true then (if a2 < (-32767) then (some true) else (if a2 > 32767 then (some true) else ((fix_Of.f a2).bind fun t178 => ((fix_Floor.f t178).bind fun t179 => (some (t179 == a2)))))) else (some false))) = some r := by rw [if_neg (show ¬ (false = true) by decide)] at H; exact H
          clear H
          have H := H1
          clear H1
          replace H := Option.bind_eq_some_iff.mp H
          obtain ⟨t177, A310, H⟩ := H
          replace H : (if t177 = true then (if a2 < (-32767) then (some true) else (if a2 > 32767 then (some true) else ((fix_Of.f a2).bind fun t178 => ((fix_Floor.f t178).bind fun t179 => (some (t179 == a2)))))) else (some false)) = some r := H
          have A31 := Aside0.mk A310
          clear A310
          by_cases c32 : t177 = true
          ·subst c32
           have H1 : (if a2 < (-32767) then (some true) else (if a2 > 32767 then (some true) else ((fix_Of.f a2).bind fun t178 => ((fix_Floor.f t178).bind fun t179 => (some (t179 == a2)))))) = some r := by rw [if_pos rfl] at H; exact H
           clear H
           have H := H1
           clear H1
           by_cases c33 : a2 < (-32767)
           ·rw [if_pos c33] at H
            have c33b0 : decide (a2 < (-32767)) = true := decide_eq_true c33
            clear c33
            obtain rfl := Option.some.inj H
            go_wp2_with (first | ((with_reducible refine gate_callee (f := 12) rfl ?_); refine goesL_ (some 69) rfl rfl Try.func12 (by kernel_rfl) rfl #[] rfl (by (try simp only [List.map_toArray, List.map_cons, List.map_nil]); first | done | rfl | (simp only [List.length_drop, List.length_take]; rfl)) ?_; (with_reducible refine (tillerlaw01_awake.calls kj24  true _ A31.out).mono ?_); rintro e w34 ⟨rfl, hb⟩; refine ⟨_, rfl, ?_⟩; have n0_ := Aside0.mk (below_step (by repeat (first | (with_reducible first | exact HB.out | apply bwA | apply bwN | apply bwD) | exact HB.out)) hb); clear HB; have HB := n0_; clear n0_; (try clear hb); (try clear hb2); (try clear hk); (try clear hi)))
            go_ret
            exact ⟨by first | rfl | (simp [errW_none, errW_some] <;> rfl) | (simp [*, errW_none, errW_some] <;> rfl), by repeat (first | (with_reducible first | exact HB.out | apply bwA | apply bwN | apply bwD) | exact HB.out)⟩
           ·rw [if_neg c33] at H
            have c33b0 : decide (a2 < (-32767)) = false := decide_eq_false c33
            clear c33
            by_cases c35 : a2 > 32767
            ·rw [if_pos c35] at H
             have c35b0 : decide (32767 < a2) = true := decide_eq_true c35
             clear c35
             obtain rfl := Option.some.inj H
             go_wp2_with (first | ((with_reducible refine gate_callee (f := 12) rfl ?_); refine goesL_ (some 69) rfl rfl Try.func12 (by kernel_rfl) rfl #[] rfl (by (try simp only [List.map_toArray, List.map_cons, List.map_nil]); first | done | rfl | (simp only [List.length_drop, List.length_take]; rfl)) ?_; (with_reducible refine (tillerlaw01_awake.calls kj24  true _ A31.out).mono ?_); rintro e w36 ⟨rfl, hb⟩; refine ⟨_, rfl, ?_⟩; have n0_ := Aside0.mk (below_step (by repeat (first | (with_reducible first | exact HB.out | apply bwA | apply bwN | apply bwD) | exact HB.out)) hb); clear HB; have HB := n0_; clear n0_; (try clear hb); (try clear hb2); (try clear hk); (try clear hi)))
             go_ret
             exact ⟨by first | rfl | (simp [errW_none, errW_some] <;> rfl) | (simp [*, errW_none, errW_some] <;> rfl), by repeat (first | (with_reducible first | exact HB.out | apply bwA | apply bwN | apply bwD) | exact HB.out)⟩
            ·rw [if_neg c35] at H
             have c35b0 : decide (32767 < a2) = false := decide_eq_false c35
             clear c35
             replace H := Option.bind_eq_some_iff.mp H
             obtain ⟨t178, A370, H⟩ := H
             replace H : ((fix_Floor.f t178).bind fun t179 => (some (t179 == a2))) = some r := H
             have A37 := Aside0.mk A370
             clear A370
             replace H := Option.bind_eq_some_iff.mp H
             obtain ⟨t179, A380, H⟩ := H
             replace H : (some (t179 == a2)) = some r := H
             have A38 := Aside0.mk A380
             clear A380
             obtain rfl := Option.some.inj H
             go_wp2_with (first | ((with_reducible refine gate_callee (f := 12) rfl ?_); refine goesL_ (some 69) rfl rfl Try.func12 (by kernel_rfl) rfl #[] rfl (by (try simp only [List.map_toArray, List.map_cons, List.map_nil]); first | done | rfl | (simp only [List.length_drop, List.length_take]; rfl)) ?_; (with_reducible refine (tillerlaw01_awake.calls kj24  true _ A31.out).mono ?_); rintro e w39 ⟨rfl, hb⟩; refine ⟨_, rfl, ?_⟩; have n0_ := Aside0.mk (below_step (by repeat (first | (with_reducible first | exact HB.out | apply bwA | apply bwN | apply bwD) | exact HB.out)) hb); clear HB; have HB := n0_; clear n0_; (try clear hb); (try clear hb2); (try clear hk); (try clear hi)) | (go_at_call 23; (with_reducible refine (fix_Of.calls a2 t178 _ A37.out).mono ?_); rintro e w40 ⟨rfl, hb⟩; have n0_ := Aside0.mk (below_step (by repeat (first | (with_reducible first | exact HB.out | apply bwA | apply bwN | apply bwD) | exact HB.out)) hb); clear HB; have HB := n0_; clear n0_; (try clear hb); (try clear hb2); (try clear hk); (try clear hi)) | (go_at_call 22; (with_reducible refine (fix_Floor.calls t178 t179 _ A38.out).mono ?_); rintro e w' ⟨rfl, ⟨nd, rfl⟩⟩))
             go_ret
             exact ⟨by first | rfl | (simp [errW_none, errW_some] <;> rfl) | (simp [*, errW_none, errW_some] <;> rfl), by repeat (first | (with_reducible first | exact HB.out | apply bwA | apply bwN | apply bwD) | exact HB.out)⟩
          ·replace c32 := Bool.eq_false_iff.mpr c32
           subst c32
           have H1 : (some false) = some r := by rw [if_neg (show ¬ (false = true) by decide)] at H; exact H
           clear H
           have H := H1
           clear H1
           exact absurd (Option.some.inj H) (by rw [hr_.out]; decide)

end Go.Proofs.Ytnhapgenebcjmaa.GQ
