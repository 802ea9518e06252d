-- written by this session's program gprint.py
import Derived.Test.YtidmffdeeopgcaaGRx0
import Derived.Test.YtidmffdeeopgcaaGRx1
import Derived.Test.YtidmffdeeopgcaaWLast
import Derived.Test.YtidmffdeeopgcaaWMore
import Derived.Test.YtidmffdeeopgcaaWWords
namespace Go.Proofs.Ytidmffdeeopgcaa.GR
open Go.RowKit Go.Proofs.YtidmffdeeopgcaaW.PrintWords Go.Proofs.YtidmffdeeopgcaaW.PrintLast Go.Proofs.YtidmffdeeopgcaaW.PrintMore Go.Proofs.Ytidmffdeeopgcaa.GLen Go.Proofs.Ytidmffdeeopgcaa.GCurve
attribute [local go_sem] max2_int min2_int max_two min_two max_three min_three max_four min_four   -- for this text's walks alone
set_option linter.unusedVariables false
set_option linter.unusedSimpArgs false

/-! ### tillerref02_Pow: function 10 -/
mutual
def tillerref02_Pow.j0 : Nat → Int → Option (Int)
 | 0, _ => none
 | k + 1, x3 => (tillerref02_Step.f (Int.tmod (wrap64 (Int.tdiv x3 1024)) 64)).bind fun t111 => ((tillerref02_Step.f (Int.tmod (wrap64 (Int.tdiv x3 1024)) 64)).bind fun t112 => ((tillerref02_Step.f (wrap64 ((Int.tmod (wrap64 (Int.tdiv x3 1024)) 64) + 1))).bind fun t113 => (tillerref02_Pow.l0 k (wrap64 (t111 - (wrap64 (Int.tdiv (wrap64 ((wrap64 ((wrap64 (t112 - t113)) * (Int.tmod x3 1024))) + 512)) 1024)))) (wrap64 (Int.tdiv x3 65536)))))
def tillerref02_Pow.l0 : Nat → Int → Int → Option (Int)
 | 0, _, _ => none
 | k + 1, x6, x7 => if x7 > 0 then (if x6 > 0 then (tillerref02_Pow.l0 k (wrap64 (Int.tdiv x6 2)) (wrap64 (x7 - 1))) else (some (wrap32 (x6)))) else (some (wrap32 (x6)))
end
def tillerref02_Pow.f (k : Nat) (a0 : Int) : Option (Int) := if a0 < 0 then (tillerref02_Pow.j0 k (wrap64 (-(wrap64 (a0))))) else (tillerref02_Pow.j0 k 0)
theorem tillerref02_Pow.mono_l : ∀ k, (∀ y0, LeO (tillerref02_Pow.j0 k y0) (tillerref02_Pow.j0 (k + 1) y0)) ∧ (∀ y0 y1, LeO (tillerref02_Pow.l0 k y0 y1) (tillerref02_Pow.l0 (k + 1) y0 y1))
 | 0 => ⟨fun _ r h => by simp [tillerref02_Pow.j0] at h, fun _ _ r h => by simp [tillerref02_Pow.l0] at h⟩
 | k + 1 => by
  obtain ⟨ih0, ih1⟩ := tillerref02_Pow.mono_l k
  refine ⟨?_, ?_⟩
  ·intro y0
   unfold tillerref02_Pow.j0
   repeat' first
   | (with_reducible exact ih0 _)
   | (with_reducible exact ih1 _ _)
   | (with_reducible exact LeO.refl _)
   | (with_reducible exact LeO.none _)
   | (with_reducible refine LeO.ite ?_ ?_)
   | (with_reducible refine LeO.bind ?_ (fun _ => ?_))
   | exact ih0 _
   | exact ih1 _ _
   | exact LeO.none _
   | refine LeO.ite ?_ ?_
   | refine LeO.bind ?_ (fun _ => ?_)
  ·intro y0 y1
   unfold tillerref02_Pow.l0
   repeat' first
   | (with_reducible exact ih0 _)
   | (with_reducible exact ih1 _ _)
   | (with_reducible exact LeO.refl _)
   | (with_reducible exact LeO.none _)
   | (with_reducible refine LeO.ite ?_ ?_)
   | (with_reducible refine LeO.bind ?_ (fun _ => ?_))
   | exact ih0 _
   | exact ih1 _ _
   | exact LeO.none _
   | refine LeO.ite ?_ ?_
   | refine LeO.bind ?_ (fun _ => ?_)
theorem tillerref02_Pow.mono : ∀ a0 k, LeO (tillerref02_Pow.f k a0) (tillerref02_Pow.f (k + 1) a0) := by
 intro a0 k
 obtain ⟨ih0, ih1⟩ := tillerref02_Pow.mono_l k
 unfold tillerref02_Pow.f
 repeat' first
   | (with_reducible exact ih0 _)
   | (with_reducible exact ih1 _ _)
   | (with_reducible exact LeO.refl _)
   | (with_reducible exact LeO.none _)
   | (with_reducible refine LeO.ite ?_ ?_)
   | (with_reducible refine LeO.bind ?_ (fun _ => ?_))
   | exact ih0 _
   | exact ih1 _ _
   | exact LeO.none _
   | refine LeO.ite ?_ ?_
   | refine LeO.bind ?_ (fun _ => ?_)
set_option maxHeartbeats 8000000 in
set_option maxRecDepth 100000 in
theorem tillerref02_Pow.calls (k : Nat) (a0 : Int) (r : Int) (w : World) (h : tillerref02_Pow.f k a0 = some r) :
  Calls Try.prog 10 #[.int .i32 a0] w fun e w' => e = .returned (.int .i32 r) ∧ Below w.heap.size w w' := by
 have HB := Aside0.mk (Below.refl w.heap.size w)
 have H : (if a0 < 0 then (tillerref02_Pow.j0 k (wrap64 (-(wrap64 (a0))))) else (tillerref02_Pow.j0 k 0)) = some r := h
 clear h
 have HC2 := Aside0.mk H
 clear H
 go_enter Try.func10, Try.ntmps10
 go_upto_if 9 with (fail)
 go_cut [3] (fun v3 wc => ∃ (kq : Nat) (x3_1 : Int), v3 = .int .i64 x3_1 ∧ Aside0 (tillerref02_Pow.j0 kq x3_1 = some r) ∧ Aside0 (kq ≤ k) ∧ Aside0 (Below w.heap.size w wc))
 case first =>
  have H := HC2.out
  clear HC2
  by_cases c3 : a0 < 0
  ·rw [if_pos c3] at H
   have c3b0 : decide (a0 < 0) = true := decide_eq_true c3
   clear c3
   (first | rw [c3b0] | (simp only [i64_w, i32_w]; rw [c3b0]) | skip)
   have H' := Aside0.mk H
   clear H
   go_wp2
   go_meet
   case rel => exact ⟨_, (wrap64 (-(wrap64 (a0)))), (by first | rfl | (simp; done) | (simp [*]; done)), H', ⟨by first | omega | exact Nat.le_refl _⟩, ⟨by repeat (first | (with_reducible first | exact HB.out | apply bwA | apply bwN | apply bwD) | exact HB.out)⟩⟩
  ·rw [if_neg c3] at H
   have c3b0 : decide (a0 < 0) = false := decide_eq_false c3
   clear c3
   (first | rw [c3b0] | (simp only [i64_w, i32_w]; rw [c3b0]) | skip)
   have H' := Aside0.mk H
   clear H
   go_wp2
   go_meet
   case rel => exact ⟨_, (0), (by first | rfl | (simp; done) | (simp [*]; done)), H', ⟨by first | omega | exact Nat.le_refl _⟩, ⟨by repeat (first | (with_reducible first | exact HB.out | apply bwA | apply bwN | apply bwD) | exact HB.out)⟩⟩
 case rest =>
  clear HC2
  try clear c1
  try clear p2
  try clear c3
  try clear c3b0
  obtain ⟨kq, x3_1, rfl, HA, HJ1, HB⟩ := hcut
  cases kq with
  | zero => exact absurd HA.out (by simp [tillerref02_Pow.j0])
  | succ kj1 =>
   have H := HA.out
   clear HA
   simp only [tillerref02_Pow.j0] at H
   replace H := Option.bind_eq_some_iff.mp H
   obtain ⟨t111, A40, H⟩ := H
   replace H : ((tillerref02_Step.f (Int.tmod (wrap64 (Int.tdiv x3_1 1024)) 64)).bind fun t112 => ((tillerref02_Step.f (wrap64 ((Int.tmod (wrap64 (Int.tdiv x3_1 1024)) 64) + 1))).bind fun t113 => (tillerref02_Pow.l0 kj1 (wrap64 (t111 - (wrap64 (Int.tdiv (wrap64 ((wrap64 ((wrap64 (t112 - t113)) * (Int.tmod x3_1 1024))) + 512)) 1024)))) (wrap64 (Int.tdiv x3_1 65536))))) = some r := H
   have A4 := Aside0.mk A40
   clear A40
   replace H := Option.bind_eq_some_iff.mp H
   obtain ⟨t112, A50, H⟩ := H
   replace H : ((tillerref02_Step.f (wrap64 ((Int.tmod (wrap64 (Int.tdiv x3_1 1024)) 64) + 1))).bind fun t113 => (tillerref02_Pow.l0 kj1 (wrap64 (t111 - (wrap64 (Int.tdiv (wrap64 ((wrap64 ((wrap64 (t112 - t113)) * (Int.tmod x3_1 1024))) + 512)) 1024)))) (wrap64 (Int.tdiv x3_1 65536)))) = some r := H
   have A5 := Aside0.mk A50
   clear A50
   replace H := Option.bind_eq_some_iff.mp H
   obtain ⟨t113, A60, H⟩ := H
   replace H : (tillerref02_Pow.l0 kj1 (wrap64 (t111 - (wrap64 (Int.tdiv (wrap64 ((wrap64 ((wrap64 (t112 - t113)) * (Int.tmod x3_1 1024))) + 512)) 1024)))) (wrap64 (Int.tdiv x3_1 65536))) = some r := H
   have A6 := Aside0.mk A60
   clear A60
   have H' := Aside0.mk H
   clear H
   go_wp2_with (first | ((with_reducible refine gate_callee (f := 12) rfl ?_); refine goesL_ (some 19) rfl rfl Try.func12 (by kernel_rfl) rfl #[.int .i64 (Int.tmod (wrap64 (Int.tdiv x3_1 1024)) 64)] rfl (by (try simp only [List.map_toArray, List.map_cons, List.map_nil]); first | done | rfl | (simp only [List.length_drop, List.length_take]; rfl)) ?_; (with_reducible refine (tillerref02_Step.calls (Int.tmod (wrap64 (Int.tdiv x3_1 1024)) 64) t111 _ A4.out).mono ?_); rintro e w7 ⟨rfl, hb⟩; refine ⟨_, rfl, ?_⟩; have n0_ := Aside0.mk (below_step (by repeat (first | (with_reducible first | exact HB.out | apply bwA | apply bwN | apply bwD) | exact HB.out)) hb); clear HB; have HB := n0_; clear n0_; (try clear hb); (try clear hb2); (try clear hk); (try clear hi)) | ((with_reducible refine gate_callee (f := 12) rfl ?_); refine goesL_ (some 21) rfl rfl Try.func12 (by kernel_rfl) rfl #[.int .i64 (Int.tmod (wrap64 (Int.tdiv x3_1 1024)) 64)] rfl (by (try simp only [List.map_toArray, List.map_cons, List.map_nil]); first | done | rfl | (simp only [List.length_drop, List.length_take]; rfl)) ?_; (with_reducible refine (tillerref02_Step.calls (Int.tmod (wrap64 (Int.tdiv x3_1 1024)) 64) t112 _ A5.out).mono ?_); rintro e w8 ⟨rfl, hb⟩; refine ⟨_, rfl, ?_⟩; have n0_ := Aside0.mk (below_step (by repeat (first | (with_reducible first | exact HB.out | apply bwA | apply bwN | apply bwD) | exact HB.out)) hb); clear HB; have HB := n0_; clear n0_; (try clear hb); (try clear hb2); (try clear hk); (try clear hi)) | ((with_reducible refine gate_callee (f := 12) rfl ?_); refine goesL_ (some 24) rfl rfl Try.func12 (by kernel_rfl) rfl #[.int .i64 (wrap64 ((Int.tmod (wrap64 (Int.tdiv x3_1 1024)) 64) + 1))] rfl (by (try simp only [List.map_toArray, List.map_cons, List.map_nil]); first | done | rfl | (simp only [List.length_drop, List.length_take]; rfl)) ?_; (with_reducible refine (tillerref02_Step.calls (wrap64 ((Int.tmod (wrap64 (Int.tdiv x3_1 1024)) 64) + 1)) t113 _ A6.out).mono ?_); rintro e w9 ⟨rfl, hb⟩; refine ⟨_, rfl, ?_⟩; have n0_ := Aside0.mk (below_step (by repeat (first | (with_reducible first | exact HB.out | apply bwA | apply bwN | apply bwD) | exact HB.out)) hb); clear HB; have HB := n0_; clear n0_; (try clear hb); (try clear hb2); (try clear hk); (try clear hi)))
   go_loopg [6, 7] kj1 (fun kq v6 v7 w' => ∃ (x6_2 : Int) (x7_2 : Int), v6 = .int .i64 x6_2 ∧ v7 = .int .i64 x7_2 ∧ Aside0 (tillerref02_Pow.l0 kq x6_2 x7_2 = some r) ∧ Aside0 (kq ≤ kj1) ∧ Aside0 (Below w.heap.size w w'))
   case atStart => exact ⟨(wrap64 (t111 - (wrap64 (Int.tdiv (wrap64 ((wrap64 ((wrap64 (t112 - t113)) * (Int.tmod x3_1 1024))) + 512)) 1024)))), (wrap64 (Int.tdiv x3_1 65536)), (by first | rfl | (simp; done) | (simp [*]; done)), (by first | rfl | (simp; done) | (simp [*]; done)), H', ⟨Nat.le_refl _⟩, ⟨by repeat (first | (with_reducible first | exact HB.out | apply bwA | apply bwN | apply bwD) | exact HB.out)⟩⟩
   case round =>
    clear H'
    try clear c1
    try clear p2
    try clear c3
    try clear c3b0
    try clear p6
    try clear p2
    obtain ⟨x6_2, x7_2, rfl, rfl, HA, HK2, HB⟩ := hrel
    cases gk with
    | zero => exact absurd HA.out (by simp [tillerref02_Pow.l0])
    | succ k2 =>
     have H := HA.out
     clear HA
     simp only [tillerref02_Pow.l0] at H
     by_cases c10 : x7_2 > 0
     ·rw [if_pos c10] at H
      have c10b0 : decide (0 < x7_2) = true := decide_eq_true c10
      clear c10
      by_cases c11 : x6_2 > 0
      ·rw [if_pos c11] at H
       have c11b0 : decide (0 < x6_2) = true := decide_eq_true c11
       clear c11
       have H' := Aside0.mk H
       clear H
       go_wp2
       go_roundg k2
       case measure => have := HJ1.out; have := HK2.out; omega
       case rel => exact ⟨(wrap64 (Int.tdiv x6_2 2)), (wrap64 (x7_2 - 1)), (by first | rfl | (simp; done) | (simp [*]; done)), (by first | rfl | (simp; done) | (simp [*]; done)), H', ⟨by have := HJ1.out; have := HK2.out; omega⟩, ⟨by repeat (first | (with_reducible first | exact HB.out | apply bwA | apply bwN | apply bwD) | exact HB.out)⟩⟩
      ·rw [if_neg c11] at H
       have c11b0 : decide (0 < x6_2) = false := decide_eq_false c11
       clear c11
       obtain rfl := Option.some.inj H
       go_wp2
       go_ret
       exact ⟨by first | rfl | (simp [errW_none, errW_some] <;> rfl) | (simp [*, errW_none, errW_some] <;> rfl), by repeat (first | (with_reducible first | exact HB.out | apply bwA | apply bwN | apply bwD) | exact HB.out)⟩
     ·rw [if_neg c10] at H
      have c10b0 : decide (0 < x7_2) = false := decide_eq_false c10
      clear c10
      obtain rfl := Option.some.inj H
      go_wp2
      go_ret
      exact ⟨by first | rfl | (simp [errW_none, errW_some] <;> rfl) | (simp [*, errW_none, errW_some] <;> rfl), by repeat (first | (with_reducible first | exact HB.out | apply bwA | apply bwN | apply bwD) | exact HB.out)⟩

-- NOT PRINTED: function 3 (tillerlaw02_CurvePows)

end Go.Proofs.Ytidmffdeeopgcaa.GR
