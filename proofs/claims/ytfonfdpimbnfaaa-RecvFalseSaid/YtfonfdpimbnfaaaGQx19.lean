-- written by this session's program gprint.py
import Derived.Test.YtfonfdpimbnfaaaGQx0
import Derived.Test.YtfonfdpimbnfaaaGQx2
import Derived.Test.YtfonfdpimbnfaaaGQx4
import Derived.Test.YtfonfdpimbnfaaaGQx11
import Derived.Test.YtfonfdpimbnfaaaGQx12
import Derived.Test.YtfonfdpimbnfaaaGQx13
import Derived.Test.YtfonfdpimbnfaaaWGuard
import Derived.Test.YtfonfdpimbnfaaaWLast
import Derived.Test.YtfonfdpimbnfaaaWMore
import Derived.Test.YtfonfdpimbnfaaaWN
import Derived.Test.YtfonfdpimbnfaaaWNEv
import Derived.Test.YtfonfdpimbnfaaaWRepsOne
import Derived.Test.YtfonfdpimbnfaaaWShare
import Derived.Test.YtfonfdpimbnfaaaWWords
namespace Go.Proofs.Ytfonfdpimbnfaaa.GQ
open Go.RowKit Go.Proofs.YtfonfdpimbnfaaaW.PrintWords Go.Proofs.YtfonfdpimbnfaaaW.PrintLast Go.Proofs.YtfonfdpimbnfaaaW.PrintMore Go.Proofs.Ytfonfdpimbnfaaa.GJoin Go.Proofs.Ytfonfdpimbnfaaa.GGot
attribute [local go_sem] max2_int min2_int max_two min_two max_three min_three max_four min_four   -- for this text's walks alone
set_option linter.unusedVariables false
set_option linter.unusedSimpArgs false

/-! ### tillerlaw21_RecvFalse: function 9 -/
mutual
def tillerlaw21_RecvFalse.l0 : Nat → Int → ByteArray → Int → ByteArray → List (S46) → Int → Int → Int → List ByteArray → List Bool → Int → List ByteArray → List Bool → Option (Bool)
 | 0, _, _, _, _, _, _, _, _, _, _, _, _, _ => none
 | k + 1, x0, x1, x3, x4, x59, x60, x61, x460000, x460001, x460002, x470000, x470001, x470002 => if x61 < x60 then (if 0 ≤ x61 then (if x61 < (x59.length : Int) then ((recv_Take.f k x470000 x470001 x470002 ((rd_T46 x59 x61).f0) ((rd_T46 x59 x61).f1) ((rd_T46 x59 x61).f2) ((rd_T46 x59 x61).f3)).bind fun bt475 => (if bt475.2.2.2.1 = true then (if bt475.2.2.2.2 = 0 then (tillerlaw21_RecvFalse.l0 k x0 x1 x3 x4 x59 x60 (wrap64 (x61 + 1)) x460000 x460001 x460002 bt475.1 bt475.2.1 bt475.2.2.1) else (some false)) else (some false))) else (none)) else (none)) else (if x3 < 0 then (tillerlaw21_RecvFalse.j1 k x0 x1 x3 x4 true x460000 x460001 x460002 x470000 x470001 x470002) else (tillerlaw21_RecvFalse.j1 k x0 x1 x3 x4 (decide (x3 ≥ (x460001.length : Int))) x460000 x460001 x460002 x470000 x470001 x470002))
def tillerlaw21_RecvFalse.j1 : Nat → Int → ByteArray → Int → ByteArray → Bool → Int → List ByteArray → List Bool → Int → List ByteArray → List Bool → Option (Bool)
 | 0, _, _, _, _, _, _, _, _, _, _, _ => none
 | k + 1, x0, x1, x3, x4, x88, x460000, x460001, x460002, x470000, x470001, x470002 => if x88 = true then ((tillerlaw21_awake.f k).bind fun t485 => (some t485)) else ((recv_Take.f k x470000 x470001 x470002 x0 x3 (x460001.length : Int) x4).bind fun bt486 => ((recv_Take.f k x470000 x470001 x470002 (Go.bits .xor .i64 x0 1) x3 (x460001.length : Int) x4).bind fun bt496 => ((recv_Take.f k x470000 x470001 x470002 x0 x3 (wrap64 ((x460001.length : Int) + 1)) x4).bind fun bt506 => (if 0 ≤ x3 then (if x3 < (x460001.length : Int) then (if ((bt486.2.2.2.2 == 0) != (x4.toList == (rdOf ByteArray.empty x460001 x3).toList)) = true then (tillerlaw21_RecvFalse.j2 k x1 true x470000 x470001 x470002 bt486.1 bt486.2.1 bt486.2.2.1 bt496.1 bt496.2.1 bt496.2.2.1 bt506.1 bt506.2.1 bt506.2.2.1) else (if bt486.2.2.2.2 = 0 then (if bt496.2.2.2.2 = 14 then (tillerlaw21_RecvFalse.j2 k x1 (bt506.2.2.2.2 != 1) x470000 x470001 x470002 bt486.1 bt486.2.1 bt486.2.2.1 bt496.1 bt496.2.1 bt496.2.2.1 bt506.1 bt506.2.1 bt506.2.2.1) else (tillerlaw21_RecvFalse.j2 k x1 true x470000 x470001 x470002 bt486.1 bt486.2.1 bt486.2.2.1 bt496.1 bt496.2.1 bt496.2.2.1 bt506.1 bt506.2.1 bt506.2.2.1)) else (if bt486.2.2.2.2 = 9 then (if bt496.2.2.2.2 = 14 then (tillerlaw21_RecvFalse.j2 k x1 (bt506.2.2.2.2 != 1) x470000 x470001 x470002 bt486.1 bt486.2.1 bt486.2.2.1 bt496.1 bt496.2.1 bt496.2.2.1 bt506.1 bt506.2.1 bt506.2.2.1) else (tillerlaw21_RecvFalse.j2 k x1 true x470000 x470001 x470002 bt486.1 bt486.2.1 bt486.2.2.1 bt496.1 bt496.2.1 bt496.2.2.1 bt506.1 bt506.2.1 bt506.2.2.1)) else (tillerlaw21_RecvFalse.j2 k x1 true x470000 x470001 x470002 bt486.1 bt486.2.1 bt486.2.2.1 bt496.1 bt496.2.1 bt496.2.2.1 bt506.1 bt506.2.1 bt506.2.2.1)))) else (none)) else (none)))))
def tillerlaw21_RecvFalse.j2 : Nat → ByteArray → Bool → Int → List ByteArray → List Bool → Int → List ByteArray → List Bool → Int → List ByteArray → List Bool → Int → List ByteArray → List Bool → Option (Bool)
 | 0, _, _, _, _, _, _, _, _, _, _, _, _, _, _ => none
 | k + 1, x1, x153, x470000, x470001, x470002, x496000, x496001, x496002, x506000, x506001, x506002, x516000, x516001, x516002 => if x153 = true then (some false) else ((some (([(⟨x496000, x496001, x496002⟩ : S50), (⟨x506000, x506001, x506002⟩ : S50), (⟨x516000, x516001, x516002⟩ : S50), (⟨x470000, x470001, x470002⟩ : S50)] : List (S50)) : List (S50))).bind fun y517 => (tillerlaw21_RecvFalse.l1 k x1 y517 (y517.length : Int) 0))
def tillerlaw21_RecvFalse.l1 : Nat → ByteArray → List (S50) → Int → Int → Option (Bool)
 | 0, _, _, _, _ => none
 | k + 1, x1, x158, x159, x160 => if x160 < x159 then (if 0 ≤ x160 then (if x160 < (x158.length : Int) then ((recv_Whole.f k ((rd_T50 x158 x160).f0) ((rd_T50 x158 x160).f1) ((rd_T50 x158 x160).f2)).bind fun bt522 => (if bt522.2 = true then (if bt522.1.toList = x1.toList then (tillerlaw21_RecvFalse.l1 k x1 x158 x159 (wrap64 (x160 + 1))) else (some false)) else (some false))) else (none)) else (none)) else ((tillerlaw21_awake.f k).bind fun t524 => (some t524))
end
def tillerlaw21_RecvFalse.f (k : Nat) (a0 : Int) (a1 : ByteArray) (a2 : Int) (a3 : Int) (a4 : ByteArray) : Option (Bool) := (tillerlaw14_Cut.f a1 300).bind fun t449 => ((tillerlaw14_Cut.f a4 300).bind fun t450 => ((send_Begin.f k a0 t449 a2).bind fun bt451 => (if bt451.2.2.2 = 0 then ((recv_Begin.f a0 (bt451.2.1.length : Int)).bind fun bt461 => (if bt461.2.2.2 = 0 then ((send_Next.f k bt451.1 bt451.2.1 bt451.2.2.1 600).bind fun t470 => (tillerlaw21_RecvFalse.l0 k a0 t449 a3 t450 t470 (t470.length : Int) 0 bt451.1 bt451.2.1 bt451.2.2.1 bt461.1 bt461.2.1 bt461.2.2.1)) else (some false))) else ((tillerlaw21_awake.f k).bind fun t460 => (some t460)))))
theorem tillerlaw21_RecvFalse.mono_l : ∀ k, (∀ y0 y1 y2 y3 y4 y5 y6 y7 y8 y9 y10 y11 y12, LeO (tillerlaw21_RecvFalse.l0 k y0 y1 y2 y3 y4 y5 y6 y7 y8 y9 y10 y11 y12) (tillerlaw21_RecvFalse.l0 (k + 1) y0 y1 y2 y3 y4 y5 y6 y7 y8 y9 y10 y11 y12)) ∧ (∀ y0 y1 y2 y3 y4 y5 y6 y7 y8 y9 y10, LeO (tillerlaw21_RecvFalse.j1 k y0 y1 y2 y3 y4 y5 y6 y7 y8 y9 y10) (tillerlaw21_RecvFalse.j1 (k + 1) y0 y1 y2 y3 y4 y5 y6 y7 y8 y9 y10)) ∧ (∀ y0 y1 y2 y3 y4 y5 y6 y7 y8 y9 y10 y11 y12 y13, LeO (tillerlaw21_RecvFalse.j2 k y0 y1 y2 y3 y4 y5 y6 y7 y8 y9 y10 y11 y12 y13) (tillerlaw21_RecvFalse.j2 (k + 1) y0 y1 y2 y3 y4 y5 y6 y7 y8 y9 y10 y11 y12 y13)) ∧ (∀ y0 y1 y2 y3, LeO (tillerlaw21_RecvFalse.l1 k y0 y1 y2 y3) (tillerlaw21_RecvFalse.l1 (k + 1) y0 y1 y2 y3))
 | 0 => ⟨fun _ _ _ _ _ _ _ _ _ _ _ _ _ r h => by simp [tillerlaw21_RecvFalse.l0] at h, fun _ _ _ _ _ _ _ _ _ _ _ r h => by simp [tillerlaw21_RecvFalse.j1] at h, fun _ _ _ _ _ _ _ _ _ _ _ _ _ _ r h => by simp [tillerlaw21_RecvFalse.j2] at h, fun _ _ _ _ r h => by simp [tillerlaw21_RecvFalse.l1] at h⟩
 | k + 1 => by
  obtain ⟨ih0, ih1, ih2, ih3⟩ := tillerlaw21_RecvFalse.mono_l k
  refine ⟨?_, ?_, ?_, ?_⟩
  ·intro y0 y1 y2 y3 y4 y5 y6 y7 y8 y9 y10 y11 y12
   unfold tillerlaw21_RecvFalse.l0
   repeat' first
   | (with_reducible exact ih0 _ _ _ _ _ _ _ _ _ _ _ _ _)
   | (with_reducible exact ih1 _ _ _ _ _ _ _ _ _ _ _)
   | (with_reducible exact ih2 _ _ _ _ _ _ _ _ _ _ _ _ _ _)
   | (with_reducible exact ih3 _ _ _ _)
   | (with_reducible exact recv_Take.mono _ _ _ _ _ _ _ _)
   | (with_reducible exact recv_Whole.mono _ _ _ _)
   | (with_reducible exact send_Begin.mono _ _ _ _)
   | (with_reducible exact send_Next.mono _ _ _ _ _)
   | (with_reducible exact tillerlaw21_awake.mono _)
   | (with_reducible exact LeO.refl _)
   | (with_reducible exact LeO.none _)
   | (with_reducible refine LeO.ite ?_ ?_)
   | (with_reducible refine LeO.bind ?_ (fun _ => ?_))
   | exact ih0 _ _ _ _ _ _ _ _ _ _ _ _ _
   | exact ih1 _ _ _ _ _ _ _ _ _ _ _
   | exact ih2 _ _ _ _ _ _ _ _ _ _ _ _ _ _
   | exact ih3 _ _ _ _
   | exact recv_Take.mono _ _ _ _ _ _ _ _
   | exact recv_Whole.mono _ _ _ _
   | exact send_Begin.mono _ _ _ _
   | exact send_Next.mono _ _ _ _ _
   | exact tillerlaw21_awake.mono _
   | exact LeO.none _
   | refine LeO.ite ?_ ?_
   | refine LeO.bind ?_ (fun _ => ?_)
  ·intro y0 y1 y2 y3 y4 y5 y6 y7 y8 y9 y10
   unfold tillerlaw21_RecvFalse.j1
   repeat' first
   | (with_reducible exact ih0 _ _ _ _ _ _ _ _ _ _ _ _ _)
   | (with_reducible exact ih1 _ _ _ _ _ _ _ _ _ _ _)
   | (with_reducible exact ih2 _ _ _ _ _ _ _ _ _ _ _ _ _ _)
   | (with_reducible exact ih3 _ _ _ _)
   | (with_reducible exact recv_Take.mono _ _ _ _ _ _ _ _)
   | (with_reducible exact recv_Whole.mono _ _ _ _)
   | (with_reducible exact send_Begin.mono _ _ _ _)
   | (with_reducible exact send_Next.mono _ _ _ _ _)
   | (with_reducible exact tillerlaw21_awake.mono _)
   | (with_reducible exact LeO.refl _)
   | (with_reducible exact LeO.none _)
   | (with_reducible refine LeO.ite ?_ ?_)
   | (with_reducible refine LeO.bind ?_ (fun _ => ?_))
   | exact ih0 _ _ _ _ _ _ _ _ _ _ _ _ _
   | exact ih1 _ _ _ _ _ _ _ _ _ _ _
   | exact ih2 _ _ _ _ _ _ _ _ _ _ _ _ _ _
   | exact ih3 _ _ _ _
   | exact recv_Take.mono _ _ _ _ _ _ _ _
   | exact recv_Whole.mono _ _ _ _
   | exact send_Begin.mono _ _ _ _
   | exact send_Next.mono _ _ _ _ _
   | exact tillerlaw21_awake.mono _
   | exact LeO.none _
   | refine LeO.ite ?_ ?_
   | refine LeO.bind ?_ (fun _ => ?_)
  ·intro y0 y1 y2 y3 y4 y5 y6 y7 y8 y9 y10 y11 y12 y13
   unfold tillerlaw21_RecvFalse.j2
   repeat' first
   | (with_reducible exact ih0 _ _ _ _ _ _ _ _ _ _ _ _ _)
   | (with_reducible exact ih1 _ _ _ _ _ _ _ _ _ _ _)
   | (with_reducible exact ih2 _ _ _ _ _ _ _ _ _ _ _ _ _ _)
   | (with_reducible exact ih3 _ _ _ _)
   | (with_reducible exact recv_Take.mono _ _ _ _ _ _ _ _)
   | (with_reducible exact recv_Whole.mono _ _ _ _)
   | (with_reducible exact send_Begin.mono _ _ _ _)
   | (with_reducible exact send_Next.mono _ _ _ _ _)
   | (with_reducible exact tillerlaw21_awake.mono _)
   | (with_reducible exact LeO.refl _)
   | (with_reducible exact LeO.none _)
   | (with_reducible refine LeO.ite ?_ ?_)
   | (with_reducible refine LeO.bind ?_ (fun _ => ?_))
   | exact ih0 _ _ _ _ _ _ _ _ _ _ _ _ _
   | exact ih1 _ _ _ _ _ _ _ _ _ _ _
   | exact ih2 _ _ _ _ _ _ _ _ _ _ _ _ _ _
   | exact ih3 _ _ _ _
   | exact recv_Take.mono _ _ _ _ _ _ _ _
   | exact recv_Whole.mono _ _ _ _
   | exact send_Begin.mono _ _ _ _
   | exact send_Next.mono _ _ _ _ _
   | exact tillerlaw21_awake.mono _
   | exact LeO.none _
   | refine LeO.ite ?_ ?_
   | refine LeO.bind ?_ (fun _ => ?_)
  ·intro y0 y1 y2 y3
   unfold tillerlaw21_RecvFalse.l1
   repeat' first
   | (with_reducible exact ih0 _ _ _ _ _ _ _ _ _ _ _ _ _)
   | (with_reducible exact ih1 _ _ _ _ _ _ _ _ _ _ _)
   | (with_reducible exact ih2 _ _ _ _ _ _ _ _ _ _ _ _ _ _)
   | (with_reducible exact ih3 _ _ _ _)
   | (with_reducible exact recv_Take.mono _ _ _ _ _ _ _ _)
   | (with_reducible exact recv_Whole.mono _ _ _ _)
   | (with_reducible exact send_Begin.mono _ _ _ _)
   | (with_reducible exact send_Next.mono _ _ _ _ _)
   | (with_reducible exact tillerlaw21_awake.mono _)
   | (with_reducible exact LeO.refl _)
   | (with_reducible exact LeO.none _)
   | (with_reducible refine LeO.ite ?_ ?_)
   | (with_reducible refine LeO.bind ?_ (fun _ => ?_))
   | exact ih0 _ _ _ _ _ _ _ _ _ _ _ _ _
   | exact ih1 _ _ _ _ _ _ _ _ _ _ _
   | exact ih2 _ _ _ _ _ _ _ _ _ _ _ _ _ _
   | exact ih3 _ _ _ _
   | exact recv_Take.mono _ _ _ _ _ _ _ _
   | exact recv_Whole.mono _ _ _ _
   | exact send_Begin.mono _ _ _ _
   | exact send_Next.mono _ _ _ _ _
   | exact tillerlaw21_awake.mono _
   | exact LeO.none _
   | refine LeO.ite ?_ ?_
   | refine LeO.bind ?_ (fun _ => ?_)
theorem tillerlaw21_RecvFalse.mono : ∀ a0 a1 a2 a3 a4 k, LeO (tillerlaw21_RecvFalse.f k a0 a1 a2 a3 a4) (tillerlaw21_RecvFalse.f (k + 1) a0 a1 a2 a3 a4) := by
 intro a0 a1 a2 a3 a4 k
 obtain ⟨ih0, ih1, ih2, ih3⟩ := tillerlaw21_RecvFalse.mono_l k
 unfold tillerlaw21_RecvFalse.f
 repeat' first
   | (with_reducible exact ih0 _ _ _ _ _ _ _ _ _ _ _ _ _)
   | (with_reducible exact ih1 _ _ _ _ _ _ _ _ _ _ _)
   | (with_reducible exact ih2 _ _ _ _ _ _ _ _ _ _ _ _ _ _)
   | (with_reducible exact ih3 _ _ _ _)
   | (with_reducible exact recv_Take.mono _ _ _ _ _ _ _ _)
   | (with_reducible exact recv_Whole.mono _ _ _ _)
   | (with_reducible exact send_Begin.mono _ _ _ _)
   | (with_reducible exact send_Next.mono _ _ _ _ _)
   | (with_reducible exact tillerlaw21_awake.mono _)
   | (with_reducible exact LeO.refl _)
   | (with_reducible exact LeO.none _)
   | (with_reducible refine LeO.ite ?_ ?_)
   | (with_reducible refine LeO.bind ?_ (fun _ => ?_))
   | exact ih0 _ _ _ _ _ _ _ _ _ _ _ _ _
   | exact ih1 _ _ _ _ _ _ _ _ _ _ _
   | exact ih2 _ _ _ _ _ _ _ _ _ _ _ _ _ _
   | exact ih3 _ _ _ _
   | exact recv_Take.mono _ _ _ _ _ _ _ _
   | exact recv_Whole.mono _ _ _ _
   | exact send_Begin.mono _ _ _ _
   | exact send_Next.mono _ _ _ _ _
   | exact tillerlaw21_awake.mono _
   | exact LeO.none _
   | refine LeO.ite ?_ ?_
   | refine LeO.bind ?_ (fun _ => ?_)
set_option maxHeartbeats 8000000 in
set_option maxRecDepth 100000 in
theorem tillerlaw21_RecvFalse.calls (k : Nat) (a0 : Int) (a1 : ByteArray) (a2 : Int) (a3 : Int) (a4 : ByteArray) (r : Bool) (w : World) (hr_ : Aside0 (r = true)) (h : tillerlaw21_RecvFalse.f k a0 a1 a2 a3 a4 = some r) :
  Calls Try.prog 9 #[.int .i64 a0, .string a1, .int .i64 a2, .int .i64 a3, .string a4] w fun e w' => e = .returned (.bool r) ∧ Below w.heap.size w w' := by
 have hu32 := Try.underlying32
 have hu50 := Try.underlying50
 have hu46 := Try.underlying46
 have HB := am_ (Below.refl w.heap.size w)
 have H : ((tillerlaw14_Cut.f a1 300).bind fun t449 => ((tillerlaw14_Cut.f a4 300).bind fun t450 => ((send_Begin.f k a0 t449 a2).bind fun bt451 => (if bt451.2.2.2 = 0 then ((recv_Begin.f a0 (bt451.2.1.length : Int)).bind fun bt461 => (if bt461.2.2.2 = 0 then ((send_Next.f k bt451.1 bt451.2.1 bt451.2.2.1 600).bind fun t470 => (tillerlaw21_RecvFalse.l0 k a0 t449 a3 t450 t470 (t470.length : Int) 0 bt451.1 bt451.2.1 bt451.2.2.1 bt461.1 bt461.2.1 bt461.2.2.1)) else (some false))) else ((tillerlaw21_awake.f k).bind fun t460 => (some t460)))))) = some r := h
 clear h
 replace H := Option.bind_eq_some_iff.mp H
 obtain ⟨t449, A60, H⟩ := H
 replace H : ((tillerlaw14_Cut.f a4 300).bind fun t450 => ((send_Begin.f k a0 t449 a2).bind fun bt451 => (if bt451.2.2.2 = 0 then ((recv_Begin.f a0 (bt451.2.1.length : Int)).bind fun bt461 => (if bt461.2.2.2 = 0 then ((send_Next.f k bt451.1 bt451.2.1 bt451.2.2.1 600).bind fun t470 => (tillerlaw21_RecvFalse.l0 k a0 t449 a3 t450 t470 (t470.length : Int) 0 bt451.1 bt451.2.1 bt451.2.2.1 bt461.1 bt461.2.1 bt461.2.2.1)) else (some false))) else ((tillerlaw21_awake.f k).bind fun t460 => (some t460))))) = some r := H
 have A6 := am_ A60
 clear A60
 replace H := Option.bind_eq_some_iff.mp H
 obtain ⟨t450, A70, H⟩ := H
 replace H : ((send_Begin.f k a0 t449 a2).bind fun bt451 => (if bt451.2.2.2 = 0 then ((recv_Begin.f a0 (bt451.2.1.length : Int)).bind fun bt461 => (if bt461.2.2.2 = 0 then ((send_Next.f k bt451.1 bt451.2.1 bt451.2.2.1 600).bind fun t470 => (tillerlaw21_RecvFalse.l0 k a0 t449 a3 t450 t470 (t470.length : Int) 0 bt451.1 bt451.2.1 bt451.2.2.1 bt461.1 bt461.2.1 bt461.2.2.1)) else (some false))) else ((tillerlaw21_awake.f k).bind fun t460 => (some t460)))) = some r := H
 have A7 := am_ A70
 clear A70
 replace H := Option.bind_eq_some_iff.mp H
 obtain ⟨⟨t451, t452, t455, t458⟩, A80, H⟩ := H
 replace H : (if t458 = 0 then ((recv_Begin.f a0 (t452.length : Int)).bind fun bt461 => (if bt461.2.2.2 = 0 then ((send_Next.f k t451 t452 t455 600).bind fun t470 => (tillerlaw21_RecvFalse.l0 k a0 t449 a3 t450 t470 (t470.length : Int) 0 t451 t452 t455 bt461.1 bt461.2.1 bt461.2.2.1)) else (some false))) else ((tillerlaw21_awake.f k).bind fun t460 => (some t460))) = some r := H
 have A8 := am_ A80
 clear A80
 by_cases c9 : t458 = 0
 ·rw [if_pos c9] at H
  have c9b0 : (t458 == 0) = true := beq_iff_eq.mpr c9
  have c9b1 : (t458 != 0) = false := bne_eq_false_iff_eq.mpr c9
  clear c9
  replace H := Option.bind_eq_some_iff.mp H
  obtain ⟨⟨t461, t462, t465, t468⟩, A100, H⟩ := H
  replace H : (if t468 = 0 then ((send_Next.f k t451 t452 t455 600).bind fun t470 => (tillerlaw21_RecvFalse.l0 k a0 t449 a3 t450 t470 (t470.length : Int) 0 t451 t452 t455 t461 t462 t465)) else (some false)) = some r := H
  have A10 := am_ A100
  clear A100
  by_cases c11 : t468 = 0
  ·rw [if_pos c11] at H
   have c11b0 : (t468 == 0) = true := beq_iff_eq.mpr c11
   have c11b1 : (t468 != 0) = false := bne_eq_false_iff_eq.mpr c11
   clear c11
   replace H := Option.bind_eq_some_iff.mp H
   obtain ⟨t470, A120, H⟩ := H
   replace H : (tillerlaw21_RecvFalse.l0 k a0 t449 a3 t450 t470 (t470.length : Int) 0 t451 t452 t455 t461 t462 t465) = some r := H
   have A12 := am_ A120
   clear A120
   have H' := am_ H
   clear H
   go_enter Try.func9, Try.ntmps9
   go_wp2_with (first | ((with_reducible refine gate_callee (f := 11) rfl ?_); refine goesL_ (some 35) rfl rfl Try.func11 (by kernel_rfl) rfl #[.string a1, .int .i64 300] rfl (by (try simp only [List.map_toArray, List.map_cons, List.map_nil]); first | done | rfl | (simp only [List.length_drop, List.length_take]; rfl)) ?_; (with_reducible refine (tillerlaw14_Cut.calls a1 300 t449 _ A6.out).mono ?_); rintro e w' ⟨rfl, ⟨nd, rfl⟩⟩; refine ⟨_, rfl, ?_⟩) | ((with_reducible refine gate_callee (f := 11) rfl ?_); refine goesL_ (some 37) rfl rfl Try.func11 (by kernel_rfl) rfl #[.string a4, .int .i64 300] rfl (by (try simp only [List.map_toArray, List.map_cons, List.map_nil]); first | done | rfl | (simp only [List.length_drop, List.length_take]; rfl)) ?_; (with_reducible refine (tillerlaw14_Cut.calls a4 300 t450 _ A7.out).mono ?_); rintro e w' ⟨rfl, ⟨nd, rfl⟩⟩; refine ⟨_, rfl, ?_⟩) | ((with_reducible refine gate_callee (f := 14) rfl ?_); refine goesL_ (some 42) rfl rfl Try.func14 (by kernel_rfl) rfl #[.int .i64 a0, .string t449, .int .i64 a2] rfl (by (try simp only [List.map_toArray, List.map_cons, List.map_nil]); first | done | rfl | (simp only [List.length_drop, List.length_take]; rfl)) ?_; (with_reducible refine (send_Begin.calls k a0 t449 a2 t451 t452 t455 t458 _ A8.out).mono ?_); rintro e w13 ⟨v453, v456, rfl, ho0, ho1, hb⟩; refine ⟨_, rfl, ?_⟩; have n0_ := am_ (Kd.R_lower ho0 (below_size (by repeat (first | (with_reducible first | exact HB.out | apply bwA | apply bwN | apply bwD) | exact HB.out)))); have n1_ := am_ (Kd.R_lower ho1 (below_size (by repeat (first | (with_reducible first | exact HB.out | apply bwA | apply bwN | apply bwD) | exact HB.out)))); have n2_ := am_ (below_step (by repeat (first | (with_reducible first | exact HB.out | apply bwA | apply bwN | apply bwD) | exact HB.out)) hb); clear HB; have HO454 := n0_; have HO457 := n1_; have HB := n2_; clear n0_ n1_ n2_; (try clear hb); (try clear hb2); (try clear hk); (try clear hi); (try clear ho0); (try clear ho1)) | ((with_reducible refine gate_dst (N := 11) rfl ?_); (try (refine gate_guard (by rfl) ?_; dsimp only)); refine box_event ?hg (N := 11) ?hd (cs := #[.int .i64 0, .slice none 0 0, .slice none 0 0]) (t := 32) ?hr ?_; (case hd => rfl); (case hg => rfl); (case hr => first | (go_simp; done) | (go_simp; rfl)); intro gb459 hg w14 hbox hb; have n0_ := am_ (Kd.R_below (by (with_reducible repeat first | apply rwA | apply rwN | apply rwD); exact HO454.out) hb); have n1_ := am_ (Kd.R_below (by (with_reducible repeat first | apply rwA | apply rwN | apply rwD); exact HO457.out) hb); have n2_ := am_ (below_step (by repeat (first | (with_reducible first | exact HB.out | apply bwA | apply bwN | apply bwD) | exact HB.out)) hb); have n3_ := am_ (hbox); have n4_ := am_ ((by rw [hg]; exact (below_size (by repeat (first | (with_reducible first | exact HB.out | apply bwA | apply bwN | apply bwD) | exact HB.out))) : w.heap.size ≤ gb459)); have n5_ := am_ ((by rw [hg]; exact (below_size (by repeat (first | (with_reducible first | exact HB.out | apply bwA | apply bwN | apply bwD) | exact HB.out))) : w.heap.size ≤ gb459)); clear HO454; clear HO457; clear HB; have HO454 := n0_; have HO457 := n1_; have HB := n2_; have BK459 := n3_; have GW459 := n4_; have GE459 := n5_; clear n0_ n1_ n2_ n3_ n4_ n5_; clear hb hbox hg; have hcz15_0 : w14.cell? ⟨gb459, 0, none⟩ = some (.int .i64 0) := (blk_cell BK459.out 0).trans rfl; have hcz15_1 : w14.cell? ⟨gb459, 1, none⟩ = some (.slice none 0 0) := (blk_cell BK459.out 1).trans rfl; have hcz15_2 : w14.cell? ⟨gb459, 2, none⟩ = some (.slice none 0 0) := (blk_cell BK459.out 2).trans rfl; have hfz15_0 := blk_frozen BK459.out 0; have hfz15_1 := blk_frozen BK459.out 1; have hfz15_2 := blk_frozen BK459.out 2; obtain ⟨Ao16, co16, eo16⟩ := Kd.R_slice HO454.out; subst eo16; obtain ⟨Ao17, co17, eo17⟩ := Kd.R_slice HO457.out; subst eo17) | ((with_reducible refine gate_callee (f := 23) rfl ?_); refine goesL_ (some 53) rfl rfl Try.func23 (by kernel_rfl) rfl #[.int .i64 a0, .int .i64 (t452.length : Int)] rfl (by (try simp only [List.map_toArray, List.map_cons, List.map_nil]); first | done | rfl | (simp only [List.length_drop, List.length_take]; rfl)) ?_; (with_reducible refine (recv_Begin.calls a0 (t452.length : Int) t461 t462 t465 t468 _ A10.out).mono ?_); rintro e w18 ⟨v463, v466, rfl, ho0, ho1, hb⟩; refine ⟨_, rfl, ?_⟩; have n0_ := am_ (Kd.R_elder' (by (with_reducible repeat first | apply rwA | apply rwN | apply rwD); exact (Kd.R_mono (rF gb459 2 (rF gb459 1 (rF gb459 0 (Kd.R_types HO454.out BK459.out (by decide)) sn_ (.int .i64 t451)) sn_ (.slice Ao16 t452.length co16)) sn_ (.slice Ao17 t455.length co17)) (fun _ h_ => h_.1))) (Kd.R_base ho0) hb); have n1_ := am_ (Kd.R_elder' (by (with_reducible repeat first | apply rwA | apply rwN | apply rwD); exact (Kd.R_mono (rF gb459 2 (rF gb459 1 (rF gb459 0 (Kd.R_types HO457.out BK459.out (by decide)) sn_ (.int .i64 t451)) sn_ (.slice Ao16 t452.length co16)) sn_ (.slice Ao17 t455.length co17)) (fun _ h_ => h_.1))) (Kd.R_base ho1) hb); have n2_ := am_ (Kd.R_lower (Kd.R_new' ho0 (Kd.R_lt (by (with_reducible repeat first | apply rwA | apply rwN | apply rwD); exact (Kd.R_mono (rF gb459 2 (rF gb459 1 (rF gb459 0 (Kd.R_types HO454.out BK459.out (by decide)) sn_ (.int .i64 t451)) sn_ (.slice Ao16 t452.length co16)) sn_ (.slice Ao17 t455.length co17)) (fun _ h_ => h_.1))))) (below_size (by repeat (first | (with_reducible first | exact HB.out | apply bwA | apply bwN | apply bwD | refine bs_ ?_ GE459.out) | exact HB.out)))); have n3_ := am_ (Kd.R_lower (Kd.R_new' ho1 (Kd.R_lt (by (with_reducible repeat first | apply rwA | apply rwN | apply rwD); exact (Kd.R_mono (rF gb459 2 (rF gb459 1 (rF gb459 0 (Kd.R_types HO457.out BK459.out (by decide)) sn_ (.int .i64 t451)) sn_ (.slice Ao16 t452.length co16)) sn_ (.slice Ao17 t455.length co17)) (fun _ h_ => h_.1))))) (below_size (by repeat (first | (with_reducible first | exact HB.out | apply bwA | apply bwN | apply bwD | refine bs_ ?_ GE459.out) | exact HB.out)))); have n4_ := am_ (blk_below (g := gb459) (o := .cells #[.int .i64 t451, .slice Ao16 t452.length co16, .slice Ao17 t455.length co17] 32 (0, 0)) (by (with_reducible repeat first | apply bkN | apply bkD | apply bkA); refine blk_put (cs := #[.int .i64 t451, .slice Ao16 t452.length co16, .slice none 0 0]) ?_ 2 _ rfl; (with_reducible repeat first | apply bkN | apply bkD | apply bkA); refine blk_put (cs := #[.int .i64 t451, .slice none 0 0, .slice none 0 0]) ?_ 1 _ rfl; (with_reducible repeat first | apply bkN | apply bkD | apply bkA); refine blk_put (cs := #[.int .i64 0, .slice none 0 0, .slice none 0 0]) ?_ 0 _ rfl; (with_reducible repeat first | apply bkN | apply bkD | apply bkA); exact BK459.out) hb); have n5_ := am_ (below_step (by repeat (first | (with_reducible first | exact HB.out | apply bwA | apply bwN | apply bwD | refine bs_ ?_ GE459.out) | exact HB.out)) hb); clear HO454; clear HO457; clear BK459; clear HB; have HO454 := n0_; have HO457 := n1_; have HO464 := n2_; have HO467 := n3_; have BK459 := n4_; have HB := n5_; clear n0_ n1_ n2_ n3_ n4_ n5_; (try clear hb); (try clear hb2); (try clear hk); (try clear hi); (try clear ho0); (try clear ho1)) | ((with_reducible refine gate_dst (N := 13) rfl ?_); (try (refine gate_guard (by rfl) ?_; dsimp only)); refine box_event ?hg (N := 13) ?hd (cs := #[.int .i64 0, .slice none 0 0, .slice none 0 0]) (t := 50) ?hr ?_; (case hd => rfl); (case hg => rfl); (case hr => first | (go_simp; done) | (go_simp; rfl)); intro gb469 hg w19 hbox hb; have n0_ := am_ (Kd.R_below (by (with_reducible repeat first | apply rwA | apply rwN | apply rwD); exact HO454.out) hb); have n1_ := am_ (Kd.R_below (by (with_reducible repeat first | apply rwA | apply rwN | apply rwD); exact HO457.out) hb); have n2_ := am_ (Kd.R_below (by (with_reducible repeat first | apply rwA | apply rwN | apply rwD); exact HO464.out) hb); have n3_ := am_ (Kd.R_below (by (with_reducible repeat first | apply rwA | apply rwN | apply rwD); exact HO467.out) hb); have n4_ := am_ (blk_below (g := gb459) (o := .cells #[.int .i64 t451, .slice Ao16 t452.length co16, .slice Ao17 t455.length co17] 32 (0, 0)) (by (with_reducible repeat first | apply bkN | apply bkD | apply bkA); exact BK459.out) hb); have n5_ := am_ (below_step (by repeat (first | (with_reducible first | exact HB.out | apply bwA | apply bwN | apply bwD | refine bs_ ?_ GE459.out) | exact HB.out)) hb); have n6_ := am_ (hbox); have n7_ := am_ ((by rw [hg]; exact (below_size (by repeat (first | (with_reducible first | exact HB.out | apply bwA | apply bwN | apply bwD | refine bs_ ?_ GE459.out) | exact HB.out))) : w.heap.size ≤ gb469)); have n8_ := am_ ((by rw [hg]; exact (below_size (by repeat (first | (with_reducible first | exact HB.out | apply bwA | apply bwN | apply bwD | refine bs_ ?_ GE459.out) | exact HB.out))) : w.heap.size ≤ gb469)); have n9_ := am_ ((by rw [hg]; exact Nat.ne_of_lt (blk_lt (g := gb459) (o := .cells #[.int .i64 t451, .slice Ao16 t452.length co16, .slice Ao17 t455.length co17] 32 (0, 0)) (by (with_reducible repeat first | apply bkN | apply bkD | apply bkA); exact BK459.out)) : gb459 ≠ gb469)); have n10_ := am_ ((by rw [hg]; exact Nat.ne_of_gt (blk_lt (g := gb459) (o := .cells #[.int .i64 t451, .slice Ao16 t452.length co16, .slice Ao17 t455.length co17] 32 (0, 0)) (by (with_reducible repeat first | apply bkN | apply bkD | apply bkA); exact BK459.out)) : gb469 ≠ gb459)); clear HO454; clear HO457; clear HO464; clear HO467; clear BK459; clear HB; have HO454 := n0_; have HO457 := n1_; have HO464 := n2_; have HO467 := n3_; have BK459 := n4_; have HB := n5_; have BK469 := n6_; have GW469 := n7_; have GE469 := n8_; have NB459_469 := n9_; have NB469_459 := n10_; clear n0_ n1_ n2_ n3_ n4_ n5_ n6_ n7_ n8_ n9_ n10_; clear hb hbox hg; have hnb20 := NB469_459.out; have hnc20 := NB459_469.out; have hcz21_0 : w19.cell? ⟨gb469, 0, none⟩ = some (.int .i64 0) := (blk_cell BK469.out 0).trans rfl; have hcz21_1 : w19.cell? ⟨gb469, 1, none⟩ = some (.slice none 0 0) := (blk_cell BK469.out 1).trans rfl; have hcz21_2 : w19.cell? ⟨gb469, 2, none⟩ = some (.slice none 0 0) := (blk_cell BK469.out 2).trans rfl; have hfz21_0 := blk_frozen BK469.out 0; have hfz21_1 := blk_frozen BK469.out 1; have hfz21_2 := blk_frozen BK469.out 2; obtain ⟨Ao22, co22, eo22⟩ := Kd.R_slice HO464.out; subst eo22; obtain ⟨Ao23, co23, eo23⟩ := Kd.R_slice HO467.out; subst eo23; have hcz24_0 : w19.cell? ⟨gb459, 0, none⟩ = some (.int .i64 t451) := (blk_cell BK459.out 0).trans rfl; have hcz24_1 : w19.cell? ⟨gb459, 1, none⟩ = some (.slice Ao16 t452.length co16) := (blk_cell BK459.out 1).trans rfl; have hcz24_2 : w19.cell? ⟨gb459, 2, none⟩ = some (.slice Ao17 t455.length co17) := (blk_cell BK459.out 2).trans rfl; have hfz24_0 := blk_frozen BK459.out 0; have hfz24_1 := blk_frozen BK459.out 1; have hfz24_2 := blk_frozen BK459.out 2) | ((with_reducible refine gate_callee (f := 22) rfl ?_); refine goesL_ (some 59) rfl rfl Try.func22 (by kernel_rfl) rfl #[.agg #[.int .i64 t451, .slice Ao16 t452.length co16, .slice Ao17 t455.length co17], .int .i64 600] rfl (by (try simp only [List.map_toArray, List.map_cons, List.map_nil]); first | done | rfl | (simp only [List.length_drop, List.length_take]; rfl)) ?_; (with_reducible refine (send_Next.calls k t451 _ _ t452 _ _ t455 600 t470 _ ?side1 ?side2 ?side3 ?side4 A12.out).mono ?_); (case side1 => refine (Kd.R_reads' (e := 9) (base := w.heap.size) (ok := fun k_ => (True ∧ some k_ ≠ (.slice Ao22 t462.length co22 : Value).ownBlock)) (n := t452.length) (c := co16) ?_).2.2; exact (by (with_reducible repeat first | apply rwA | apply rwN | apply rwD); exact (Kd.R_mono (rF gb469 2 (rF gb469 1 (rF gb469 0 (Kd.R_types HO454.out BK469.out (by decide)) sn_ (.int .i64 t461)) sn_ (.slice Ao22 t462.length co22)) sn_ (.slice Ao23 t465.length co23)) (fun _ h_ => h_.1)))); (case side2 => exact (Kd.R_reads' HO454.out).2.1); (case side3 => refine (Kd.R_reads' (e := 4) (base := w.heap.size) (ok := fun k_ => (True ∧ some k_ ≠ (.slice Ao23 t465.length co23 : Value).ownBlock)) (n := t455.length) (c := co17) ?_).2.2; exact (by (with_reducible repeat first | apply rwA | apply rwN | apply rwD); exact (Kd.R_mono (rF gb469 2 (rF gb469 1 (rF gb469 0 (Kd.R_types HO457.out BK469.out (by decide)) sn_ (.int .i64 t461)) sn_ (.slice Ao22 t462.length co22)) sn_ (.slice Ao23 t465.length co23)) (fun _ h_ => h_.1)))); (case side4 => exact (Kd.R_reads' HO457.out).2.1); rintro e w25 ⟨v471, rfl, ho0, hb⟩; refine ⟨_, rfl, ?_⟩; have n0_ := am_ (Kd.R_below (by (with_reducible repeat first | apply rwA | apply rwN | apply rwD); exact (Kd.R_mono (rF gb469 2 (rF gb469 1 (rF gb469 0 (Kd.R_types HO454.out BK469.out (by decide)) sn_ (.int .i64 t461)) sn_ (.slice Ao22 t462.length co22)) sn_ (.slice Ao23 t465.length co23)) (fun _ h_ => h_.1))) hb); have n1_ := am_ (Kd.R_below (by (with_reducible repeat first | apply rwA | apply rwN | apply rwD); exact (Kd.R_mono (rF gb469 2 (rF gb469 1 (rF gb469 0 (Kd.R_types HO457.out BK469.out (by decide)) sn_ (.int .i64 t461)) sn_ (.slice Ao22 t462.length co22)) sn_ (.slice Ao23 t465.length co23)) (fun _ h_ => h_.1))) hb); have n2_ := am_ (Kd.R_below (by (with_reducible repeat first | apply rwA | apply rwN | apply rwD); exact (Kd.R_mono (rF gb469 2 (rF gb469 1 (rF gb469 0 (Kd.R_types HO464.out BK469.out (by decide)) sn_ (.int .i64 t461)) sn_ (.slice Ao22 t462.length co22)) sn_ (.slice Ao23 t465.length co23)) (fun _ h_ => h_.1))) hb); have n3_ := am_ (Kd.R_below (by (with_reducible repeat first | apply rwA | apply rwN | apply rwD); exact (Kd.R_mono (rF gb469 2 (rF gb469 1 (rF gb469 0 (Kd.R_types HO467.out BK469.out (by decide)) sn_ (.int .i64 t461)) sn_ (.slice Ao22 t462.length co22)) sn_ (.slice Ao23 t465.length co23)) (fun _ h_ => h_.1))) hb); have n4_ := am_ (Kd.R_lower ho0 (below_size (by repeat (first | (with_reducible first | exact HB.out | apply bwA | apply bwN | apply bwD | refine bs_ ?_ GE459.out | refine bs_ ?_ GE469.out) | exact HB.out)))); have n5_ := am_ (blk_below (g := gb459) (o := .cells #[.int .i64 t451, .slice Ao16 t452.length co16, .slice Ao17 t455.length co17] 32 (0, 0)) (by (with_reducible repeat first | apply bkN | apply bkD | apply bkA); refine blk_far ?_ NB459_469.out _; (with_reducible repeat first | apply bkN | apply bkD | apply bkA); refine blk_far ?_ NB459_469.out _; (with_reducible repeat first | apply bkN | apply bkD | apply bkA); refine blk_far ?_ NB459_469.out _; (with_reducible repeat first | apply bkN | apply bkD | apply bkA); exact BK459.out) hb); have n6_ := am_ (blk_below (g := gb469) (o := .cells #[.int .i64 t461, .slice Ao22 t462.length co22, .slice Ao23 t465.length co23] 50 (0, 0)) (by (with_reducible repeat first | apply bkN | apply bkD | apply bkA); refine blk_put (cs := #[.int .i64 t461, .slice Ao22 t462.length co22, .slice none 0 0]) ?_ 2 _ rfl; (with_reducible repeat first | apply bkN | apply bkD | apply bkA); refine blk_put (cs := #[.int .i64 t461, .slice none 0 0, .slice none 0 0]) ?_ 1 _ rfl; (with_reducible repeat first | apply bkN | apply bkD | apply bkA); refine blk_put (cs := #[.int .i64 0, .slice none 0 0, .slice none 0 0]) ?_ 0 _ rfl; (with_reducible repeat first | apply bkN | apply bkD | apply bkA); exact BK469.out) hb); have n7_ := am_ (below_step (by repeat (first | (with_reducible first | exact HB.out | apply bwA | apply bwN | apply bwD | refine bs_ ?_ GE459.out | refine bs_ ?_ GE469.out) | exact HB.out)) hb); clear HO454; clear HO457; clear HO464; clear HO467; clear BK459; clear BK469; clear HB; have HO454 := n0_; have HO457 := n1_; have HO464 := n2_; have HO467 := n3_; have HO472 := n4_; have BK459 := n5_; have BK469 := n6_; have HB := n7_; clear n0_ n1_ n2_ n3_ n4_ n5_ n6_ n7_; (try clear hb); (try clear hb2); (try clear hk); (try clear hi); (try clear ho0); obtain ⟨Ao26, co26, eo26⟩ := Kd.R_slice HO472.out; subst eo26))
   go_loopg [61] k (fun kq v61 w' => ∃ (x61_1 : Int) (x470000_1 : Int) (x470001_1 : List ByteArray) (x470002_1 : List Bool) (u470001 : Value) (u470002 : Value), v61 = .int .i64 x61_1 ∧ Aside0 (tillerlaw21_RecvFalse.l0 kq a0 t449 a3 t450 t470 (t470.length : Int) x61_1 t451 t452 t455 x470000_1 x470001_1 x470002_1 = some r) ∧ Aside0 (kq ≤ k) ∧ Aside0 (Kd.R k46 46 w' w.heap.size (fun _ => True) (.slice Ao26 t470.length co26) t470) ∧ Aside0 (Kd.R Kd.string 9 w' w.heap.size (fun _ => True) (.slice Ao16 t452.length co16) t452) ∧ Aside0 (Kd.R Kd.bool 4 w' w.heap.size (fun _ => True) (.slice Ao17 t455.length co17) t455) ∧ Aside0 (Kd.V Kd.string 9 w' w.heap.size (fun k_ => some k_ ≠ ((.slice Ao26 t470.length co26) : Value).ownBlock ∧ some k_ ≠ ((.slice Ao16 t452.length co16) : Value).ownBlock ∧ some k_ ≠ ((.slice Ao17 t455.length co17) : Value).ownBlock ∧ k_ ≠ gb459 ∧ k_ ≠ gb469) u470001 x470001_1) ∧ Aside0 (Kd.V Kd.bool 4 w' w.heap.size (fun k_ => some k_ ≠ ((.slice Ao26 t470.length co26) : Value).ownBlock ∧ some k_ ≠ ((.slice Ao16 t452.length co16) : Value).ownBlock ∧ some k_ ≠ ((.slice Ao17 t455.length co17) : Value).ownBlock ∧ k_ ≠ gb459 ∧ k_ ≠ gb469) u470002 x470002_1) ∧ Aside0 (w'.heap[gb459]? = some (.cells #[.int .i64 t451, (.slice Ao16 t452.length co16), (.slice Ao17 t455.length co17)] 32 (0, 0))) ∧ Aside0 (w'.heap[gb469]? = some (.cells #[.int .i64 x470000_1, u470001, u470002] 50 (0, 0))) ∧ Aside0 (Below w.heap.size w w'))
   case atStart => exact ⟨(0), (t461), (t462), (t465), (.slice Ao22 t462.length co22), (.slice Ao23 t465.length co23), (by first | rfl | (simp; done) | (simp [*]; done)), H', ⟨Nat.le_refl _⟩, ⟨by (with_reducible repeat first | apply rwA | apply rwN | apply rwD); exact HO472.out⟩, ⟨by (with_reducible repeat first | apply rwA | apply rwN | apply rwD); exact Kd.R_mono HO454.out (fun _ hk => trivial)⟩, ⟨by (with_reducible repeat first | apply rwA | apply rwN | apply rwD); exact Kd.R_mono HO457.out (fun _ hk => trivial)⟩, ⟨Kd.R_V (by (with_reducible repeat first | apply rwA | apply rwN | apply rwD); exact Kd.R_mono (Kd.R_types (Kd.R_types (Kd.R_apart' (Kd.R_apart' HO464.out (Kd.R_typed HO472.out) (by decide)) (Kd.R_typed HO457.out) (by decide)) BK459.out (by decide)) BK469.out (by decide)) (fun _ hk => ⟨hk.1.1.1.2, ⟨hk.1.1.1.1.2, ⟨hk.1.1.2, ⟨hk.1.2, hk.2⟩⟩⟩⟩))⟩, ⟨Kd.R_V (by (with_reducible repeat first | apply rwA | apply rwN | apply rwD); exact Kd.R_mono (Kd.R_types (Kd.R_types (Kd.R_apart' (Kd.R_apart' HO467.out (Kd.R_typed HO472.out) (by decide)) (Kd.R_typed HO454.out) (by decide)) BK459.out (by decide)) BK469.out (by decide)) (fun _ hk => ⟨hk.1.1.1.2, ⟨hk.1.1.2, ⟨hk.1.1.1.1.2, ⟨hk.1.2, hk.2⟩⟩⟩⟩))⟩, ⟨by (with_reducible repeat first | apply bkN | apply bkD | apply bkA); exact BK459.out⟩, ⟨by (with_reducible repeat first | apply bkN | apply bkD | apply bkA); exact BK469.out⟩, ⟨by repeat (first | (with_reducible first | exact HB.out | apply bwA | apply bwN | apply bwD | refine bs_ ?_ GE459.out | refine bs_ ?_ GE469.out) | exact HB.out)⟩⟩
   case round =>
    clear H'
    try clear c1
    try clear c2
    try clear p2
    try clear c9
    try clear c9b0
    try clear c9b1
    try clear c11
    try clear c11b0
    try clear c11b1
    try clear c14
    try clear c20
    try clear c22
    try clear c23
    try clear hcz15_0
    try clear hcz15_1
    try clear hcz15_2
    try clear hcz21_0
    try clear hcz21_1
    try clear hcz21_2
    try clear hcz24_0
    try clear hcz24_1
    try clear hcz24_2
    try clear hfz15_0
    try clear hfz15_1
    try clear hfz15_2
    try clear hfz21_0
    try clear hfz21_1
    try clear hfz21_2
    try clear hfz24_0
    try clear hfz24_1
    try clear hfz24_2
    obtain ⟨x61_1, x470000_1, x470001_1, x470002_1, u470001, u470002, rfl, HA, HK1, HO_59, HO_460001, HO_460002, HO_470001, HO_470002, BK459, BK469, HB⟩ := hrel
    cases gk with
    | zero => exact absurd HA.out (by simp [tillerlaw21_RecvFalse.l0])
    | succ k1 =>
     have H := HA.out
     clear HA
     simp only [tillerlaw21_RecvFalse.l0] at H
     by_cases c27 : x61_1 < (t470.length : Int)
     ·rw [if_pos c27] at H
      have c27b0 : decide (x61_1 < (t470.length : Int)) = true := decide_eq_true c27
      clear c27
      by_cases c28 : 0 ≤ x61_1
      ·rw [if_pos c28] at H
       have c28b0 : decide (0 ≤ x61_1) = true := decide_eq_true c28
       clear c28
       by_cases c29 : x61_1 < (t470.length : Int)
       ·rw [if_pos c29] at H
        have c29b0 : decide (x61_1 < (t470.length : Int)) = true := decide_eq_true c29
        clear c29
        replace H := Option.bind_eq_some_iff.mp H
        obtain ⟨⟨t475, t476, t479, t482, t483⟩, A300, H⟩ := H
        replace H : (if t482 = true then (if t483 = 0 then (tillerlaw21_RecvFalse.l0 k1 a0 t449 a3 t450 t470 (t470.length : Int) (wrap64 (x61_1 + 1)) t451 t452 t455 t475 t476 t479) else (some false)) else (some false)) = some r := H
        have A30 := am_ A300
        clear A300
        by_cases c31 : t482 = true
        ·subst c31
         have H1 : (if t483 = 0 then (tillerlaw21_RecvFalse.l0 k1 a0 t449 a3 t450 t470 (t470.length : Int) (wrap64 (x61_1 + 1)) t451 t452 t455 t475 t476 t479) else (some false)) = some r := by rw [if_pos rfl] at H; exact H
         clear H
         have H := H1
         clear H1
         by_cases c32 : t483 = 0
         ·rw [if_pos c32] at H
          have c32b0 : (t483 == 0) = true := beq_iff_eq.mpr c32
          have c32b1 : (t483 != 0) = false := bne_eq_false_iff_eq.mpr c32
          clear c32
          have H' := am_ H
          clear H
          have p473 : 0 ≤ (x61_1 : Int) := ofd_
          have q473 : x61_1 < (t470.length : Int) := ofd_
          obtain ⟨ad473, e473, hx473_0, hx473_1, hx473_2, hx473_3⟩ := at_T46 (Kd.R_reads' HO_59.out).2.2 x61_1 p473 q473
          cases e473
          replace p473 := eq_true p473
          replace q473 := eq_true q473
          go_wp2_with (first | ((with_reducible refine gate_dst (N := 16) rfl ?_); (try (refine gate_guard (by rfl) ?_; dsimp only)); refine box_event ?hg (N := 16) ?hd (cs := #[.int .i64 0, .int .i64 0, .int .i64 0, .string (⟨#[]⟩ : ByteArray)]) (t := 46) ?hr ?_; (case hd => rfl); (case hg => rfl); (case hr => first | (go_simp; done) | (go_simp; rfl)); intro gb474 hg w33 hbox hb; have n0_ := am_ (Kd.R_below (Kd.R_elderB (by (with_reducible repeat first | apply rwA | apply rwN | apply rwD); exact HO_59.out) gb474 (Nat.le_of_eq hg.symm)) hb); have n1_ := am_ (Kd.R_below (by (with_reducible repeat first | apply rwA | apply rwN | apply rwD); exact HO_460001.out) hb); have n2_ := am_ (Kd.R_below (by (with_reducible repeat first | apply rwA | apply rwN | apply rwD); exact HO_460002.out) hb); have n3_ := am_ (Kd.V_below (Kd.V_elderB (by (with_reducible repeat (first | apply vA | apply vN | apply vD)); exact HO_470001.out) gb474 (Nat.le_of_eq hg.symm)) hb); have n4_ := am_ (Kd.V_below (Kd.V_elderB (by (with_reducible repeat (first | apply vA | apply vN | apply vD)); exact HO_470002.out) gb474 (Nat.le_of_eq hg.symm)) hb); have n5_ := am_ (blk_below (g := gb459) (o := .cells #[.int .i64 t451, .slice Ao16 t452.length co16, .slice Ao17 t455.length co17] 32 (0, 0)) (by (with_reducible repeat first | apply bkN | apply bkD | apply bkA); exact BK459.out) hb); have n6_ := am_ (blk_below (g := gb469) (o := .cells #[.int .i64 x470000_1, u470001, u470002] 50 (0, 0)) (by (with_reducible repeat first | apply bkN | apply bkD | apply bkA); exact BK469.out) hb); have n7_ := am_ (below_step (by repeat (first | (with_reducible first | exact HB.out | apply bwA | apply bwN | apply bwD | refine bs_ ?_ GE459.out | refine bs_ ?_ GE469.out) | exact HB.out)) hb); have n8_ := am_ (hbox); have n9_ := am_ ((by rw [hg]; exact (below_size (by repeat (first | (with_reducible first | exact HB.out | apply bwA | apply bwN | apply bwD | refine bs_ ?_ GE459.out | refine bs_ ?_ GE469.out) | exact HB.out))) : w.heap.size ≤ gb474)); have n10_ := am_ ((by rw [hg]; exact (below_size (by repeat (first | (with_reducible first | exact HB.out | apply bwA | apply bwN | apply bwD | refine bs_ ?_ GE459.out | refine bs_ ?_ GE469.out) | exact HB.out))) : w.heap.size ≤ gb474)); have n11_ := am_ ((by rw [hg]; exact Nat.ne_of_lt (blk_lt (g := gb459) (o := .cells #[.int .i64 t451, .slice Ao16 t452.length co16, .slice Ao17 t455.length co17] 32 (0, 0)) (by (with_reducible repeat first | apply bkN | apply bkD | apply bkA); exact BK459.out)) : gb459 ≠ gb474)); have n12_ := am_ ((by rw [hg]; exact Nat.ne_of_gt (blk_lt (g := gb459) (o := .cells #[.int .i64 t451, .slice Ao16 t452.length co16, .slice Ao17 t455.length co17] 32 (0, 0)) (by (with_reducible repeat first | apply bkN | apply bkD | apply bkA); exact BK459.out)) : gb474 ≠ gb459)); have n13_ := am_ ((by rw [hg]; exact Nat.ne_of_lt (blk_lt (g := gb469) (o := .cells #[.int .i64 x470000_1, u470001, u470002] 50 (0, 0)) (by (with_reducible repeat first | apply bkN | apply bkD | apply bkA); exact BK469.out)) : gb469 ≠ gb474)); have n14_ := am_ ((by rw [hg]; exact Nat.ne_of_gt (blk_lt (g := gb469) (o := .cells #[.int .i64 x470000_1, u470001, u470002] 50 (0, 0)) (by (with_reducible repeat first | apply bkN | apply bkD | apply bkA); exact BK469.out)) : gb474 ≠ gb469)); clear HO_59; clear HO_460001; clear HO_460002; clear HO_470001; clear HO_470002; clear BK459; clear BK469; clear HB; have HO_59 := n0_; have HO_460001 := n1_; have HO_460002 := n2_; have HO_470001 := n3_; have HO_470002 := n4_; have BK459 := n5_; have BK469 := n6_; have HB := n7_; have BK474 := n8_; have GW474 := n9_; have GE474 := n10_; have NB459_474 := n11_; have NB474_459 := n12_; have NB469_474 := n13_; have NB474_469 := n14_; clear n0_ n1_ n2_ n3_ n4_ n5_ n6_ n7_ n8_ n9_ n10_ n11_ n12_ n13_ n14_; clear hb hbox hg; have hnb34 := NB474_459.out; have hnc34 := NB459_474.out; have hnb35 := NB474_469.out; have hnc35 := NB469_474.out; have hcz36_0 : w33.cell? ⟨gb474, 0, none⟩ = some (.int .i64 0) := (blk_cell BK474.out 0).trans rfl; have hcz36_1 : w33.cell? ⟨gb474, 1, none⟩ = some (.int .i64 0) := (blk_cell BK474.out 1).trans rfl; have hcz36_2 : w33.cell? ⟨gb474, 2, none⟩ = some (.int .i64 0) := (blk_cell BK474.out 2).trans rfl; have hcz36_3 : w33.cell? ⟨gb474, 3, none⟩ = some (.string (⟨#[]⟩ : ByteArray)) := (blk_cell BK474.out 3).trans rfl; have hfz36_0 := blk_frozen BK474.out 0; have hfz36_1 := blk_frozen BK474.out 1; have hfz36_2 := blk_frozen BK474.out 2; have hfz36_3 := blk_frozen BK474.out 3) | ((with_reducible refine gate_store (t := 46) (p := 16) rfl ?_); refine store_event (t := 46) (p := 16) (v := ?vo_w37) (w1 := ((((w33.setCell ⟨gb474, 0, none⟩ (.int .i64 ((rd_T46 t470 x61_1).f0))).setCell ⟨gb474, 1, none⟩ (.int .i64 ((rd_T46 t470 x61_1).f1))).setCell ⟨gb474, 2, none⟩ (.int .i64 ((rd_T46 t470 x61_1).f2))).setCell ⟨gb474, 3, none⟩ (.string ((rd_T46 t470 x61_1).f3)))) ?hg ?ho ?hn ?hr ?_; (case ho => rfl); (case hg => rfl); (case hn => rfl); (case hr => first | (go_simp; done) | (go_simp; rfl)); intro w37 hw; have n0_ : Aside0 (Kd.R k46 46 w37 w.heap.size (fun k_ => k_ ≠ gb474) (.slice (some ad473) t470.length co26) t470) := ⟨(by rw [hw]; exact (by (with_reducible repeat first | apply rwA | apply rwN | apply rwD); exact Kd.R_mono (rF gb474 3 (rF gb474 2 (rF gb474 1 (rF gb474 0 (Kd.R_mono HO_59.out (fun k_ hk => (⟨hk, hk.2⟩ : _ ∧ k_ ≠ gb474))) sn_ (.int .i64 ((rd_T46 t470 x61_1).f0))) sn_ (.int .i64 ((rd_T46 t470 x61_1).f1))) sn_ (.int .i64 ((rd_T46 t470 x61_1).f2))) sn_ (.string ((rd_T46 t470 x61_1).f3))) (fun _ hk => hk.1.2)))⟩; have n1_ : Aside0 (Kd.R Kd.string 9 w37 w.heap.size (fun _ => True) (.slice Ao16 t452.length co16) t452) := ⟨(by rw [hw]; exact (by (with_reducible repeat first | apply rwA | apply rwN | apply rwD); exact Kd.R_mono (rF gb474 3 (rF gb474 2 (rF gb474 1 (rF gb474 0 (Kd.R_types HO_460001.out BK474.out (by decide)) sn_ (.int .i64 ((rd_T46 t470 x61_1).f0))) sn_ (.int .i64 ((rd_T46 t470 x61_1).f1))) sn_ (.int .i64 ((rd_T46 t470 x61_1).f2))) sn_ (.string ((rd_T46 t470 x61_1).f3))) (fun _ hk => trivial)))⟩; have n2_ : Aside0 (Kd.R Kd.bool 4 w37 w.heap.size (fun _ => True) (.slice Ao17 t455.length co17) t455) := ⟨(by rw [hw]; exact (by (with_reducible repeat first | apply rwA | apply rwN | apply rwD); exact Kd.R_mono (rF gb474 3 (rF gb474 2 (rF gb474 1 (rF gb474 0 (Kd.R_types HO_460002.out BK474.out (by decide)) sn_ (.int .i64 ((rd_T46 t470 x61_1).f0))) sn_ (.int .i64 ((rd_T46 t470 x61_1).f1))) sn_ (.int .i64 ((rd_T46 t470 x61_1).f2))) sn_ (.string ((rd_T46 t470 x61_1).f3))) (fun _ hk => trivial)))⟩; have n3_ : Aside0 (Kd.V Kd.string 9 w37 w.heap.size (fun k_ => some k_ ≠ (.slice (some ad473) t470.length co26 : Value).ownBlock ∧ some k_ ≠ (.slice Ao16 t452.length co16 : Value).ownBlock ∧ some k_ ≠ (.slice Ao17 t455.length co17 : Value).ownBlock ∧ k_ ≠ gb459 ∧ k_ ≠ gb469 ∧ k_ ≠ gb474) u470001 x470001_1) := ⟨(by rw [hw]; exact (by (with_reducible repeat (first | apply vA | apply vN | apply vD)); exact Kd.V_mono (vF gb474 3 (vF gb474 2 (vF gb474 1 (vF gb474 0 (Kd.V_mono HO_470001.out (fun k_ hk => (⟨hk, hk.2⟩ : _ ∧ k_ ≠ gb474))) sn_ (.int .i64 ((rd_T46 t470 x61_1).f0))) sn_ (.int .i64 ((rd_T46 t470 x61_1).f1))) sn_ (.int .i64 ((rd_T46 t470 x61_1).f2))) sn_ (.string ((rd_T46 t470 x61_1).f3))) (fun _ hk => ⟨hk.1.1.1, ⟨hk.1.1.2.1, ⟨hk.1.1.2.2.1, ⟨hk.1.1.2.2.2.1, ⟨hk.1.1.2.2.2.2, hk.1.2⟩⟩⟩⟩⟩)))⟩; have n4_ : Aside0 (Kd.V Kd.bool 4 w37 w.heap.size (fun k_ => some k_ ≠ (.slice (some ad473) t470.length co26 : Value).ownBlock ∧ some k_ ≠ (.slice Ao16 t452.length co16 : Value).ownBlock ∧ some k_ ≠ (.slice Ao17 t455.length co17 : Value).ownBlock ∧ k_ ≠ gb459 ∧ k_ ≠ gb469 ∧ k_ ≠ gb474) u470002 x470002_1) := ⟨(by rw [hw]; exact (by (with_reducible repeat (first | apply vA | apply vN | apply vD)); exact Kd.V_mono (vF gb474 3 (vF gb474 2 (vF gb474 1 (vF gb474 0 (Kd.V_mono HO_470002.out (fun k_ hk => (⟨hk, hk.2⟩ : _ ∧ k_ ≠ gb474))) sn_ (.int .i64 ((rd_T46 t470 x61_1).f0))) sn_ (.int .i64 ((rd_T46 t470 x61_1).f1))) sn_ (.int .i64 ((rd_T46 t470 x61_1).f2))) sn_ (.string ((rd_T46 t470 x61_1).f3))) (fun _ hk => ⟨hk.1.1.1, ⟨hk.1.1.2.1, ⟨hk.1.1.2.2.1, ⟨hk.1.1.2.2.2.1, ⟨hk.1.1.2.2.2.2, hk.1.2⟩⟩⟩⟩⟩)))⟩; have n5_ : Aside0 (w37.heap[gb459]? = some (.cells #[.int .i64 t451, .slice Ao16 t452.length co16, .slice Ao17 t455.length co17] 32 (0, 0))) := ⟨(by rw [hw]; exact (by (with_reducible repeat first | apply bkN | apply bkD | apply bkA); refine blk_far ?_ NB459_474.out _; (with_reducible repeat first | apply bkN | apply bkD | apply bkA); refine blk_far ?_ NB459_474.out _; (with_reducible repeat first | apply bkN | apply bkD | apply bkA); refine blk_far ?_ NB459_474.out _; (with_reducible repeat first | apply bkN | apply bkD | apply bkA); refine blk_far ?_ NB459_474.out _; (with_reducible repeat first | apply bkN | apply bkD | apply bkA); exact BK459.out))⟩; have n6_ : Aside0 (w37.heap[gb469]? = some (.cells #[.int .i64 x470000_1, u470001, u470002] 50 (0, 0))) := ⟨(by rw [hw]; exact (by (with_reducible repeat first | apply bkN | apply bkD | apply bkA); refine blk_far ?_ NB469_474.out _; (with_reducible repeat first | apply bkN | apply bkD | apply bkA); refine blk_far ?_ NB469_474.out _; (with_reducible repeat first | apply bkN | apply bkD | apply bkA); refine blk_far ?_ NB469_474.out _; (with_reducible repeat first | apply bkN | apply bkD | apply bkA); refine blk_far ?_ NB469_474.out _; (with_reducible repeat first | apply bkN | apply bkD | apply bkA); exact BK469.out))⟩; have n7_ : Aside0 (w37.heap[gb474]? = some (.cells #[.int .i64 ((rd_T46 t470 x61_1).f0), .int .i64 ((rd_T46 t470 x61_1).f1), .int .i64 ((rd_T46 t470 x61_1).f2), .string ((rd_T46 t470 x61_1).f3)] 46 (0, 0))) := ⟨(by rw [hw]; exact (by (with_reducible repeat first | apply bkN | apply bkD | apply bkA); refine blk_put (cs := #[.int .i64 ((rd_T46 t470 x61_1).f0), .int .i64 ((rd_T46 t470 x61_1).f1), .int .i64 ((rd_T46 t470 x61_1).f2), .string (⟨#[]⟩ : ByteArray)]) ?_ 3 _ rfl; (with_reducible repeat first | apply bkN | apply bkD | apply bkA); refine blk_put (cs := #[.int .i64 ((rd_T46 t470 x61_1).f0), .int .i64 ((rd_T46 t470 x61_1).f1), .int .i64 0, .string (⟨#[]⟩ : ByteArray)]) ?_ 2 _ rfl; (with_reducible repeat first | apply bkN | apply bkD | apply bkA); refine blk_put (cs := #[.int .i64 ((rd_T46 t470 x61_1).f0), .int .i64 0, .int .i64 0, .string (⟨#[]⟩ : ByteArray)]) ?_ 1 _ rfl; (with_reducible repeat first | apply bkN | apply bkD | apply bkA); refine blk_put (cs := #[.int .i64 0, .int .i64 0, .int .i64 0, .string (⟨#[]⟩ : ByteArray)]) ?_ 0 _ rfl; (with_reducible repeat first | apply bkN | apply bkD | apply bkA); exact BK474.out))⟩; have n8_ : Aside0 (Below w.heap.size w w37) := ⟨(by rw [hw]; exact (by repeat (first | (with_reducible first | exact HB.out | apply bwA | apply bwN | apply bwD | refine bs_ ?_ GE459.out | refine bs_ ?_ GE469.out | refine bs_ ?_ GE474.out) | exact HB.out)))⟩; clear hw; clear HO_59; clear HO_460001; clear HO_460002; clear HO_470001; clear HO_470002; clear BK459; clear BK469; clear BK474; clear HB; have HO_59 := n0_; have HO_460001 := n1_; have HO_460002 := n2_; have HO_470001 := n3_; have HO_470002 := n4_; have BK459 := n5_; have BK469 := n6_; have BK474 := n7_; have HB := n8_; clear n0_ n1_ n2_ n3_ n4_ n5_ n6_ n7_ n8_; have hnb38 := NB469_459.out; have hnc38 := NB459_469.out; have hcz39_0 : w37.cell? ⟨gb469, 0, none⟩ = some (.int .i64 x470000_1) := (blk_cell BK469.out 0).trans rfl; have hcz39_1 : w37.cell? ⟨gb469, 1, none⟩ = some (u470001) := (blk_cell BK469.out 1).trans rfl; have hcz39_2 : w37.cell? ⟨gb469, 2, none⟩ = some (u470002) := (blk_cell BK469.out 2).trans rfl; have hfz39_0 := blk_frozen BK469.out 0; have hfz39_1 := blk_frozen BK469.out 1; have hfz39_2 := blk_frozen BK469.out 2; have hcz40_0 : w37.cell? ⟨gb474, 0, none⟩ = some (.int .i64 ((rd_T46 t470 x61_1).f0)) := (blk_cell BK474.out 0).trans rfl; have hcz40_1 : w37.cell? ⟨gb474, 1, none⟩ = some (.int .i64 ((rd_T46 t470 x61_1).f1)) := (blk_cell BK474.out 1).trans rfl; have hcz40_2 : w37.cell? ⟨gb474, 2, none⟩ = some (.int .i64 ((rd_T46 t470 x61_1).f2)) := (blk_cell BK474.out 2).trans rfl; have hcz40_3 : w37.cell? ⟨gb474, 3, none⟩ = some (.string ((rd_T46 t470 x61_1).f3)) := (blk_cell BK474.out 3).trans rfl; have hfz40_0 := blk_frozen BK474.out 0; have hfz40_1 := blk_frozen BK474.out 1; have hfz40_2 := blk_frozen BK474.out 2; have hfz40_3 := blk_frozen BK474.out 3; obtain ⟨Ao41, co41, eo41⟩ := Kd.V_slice HO_470001.out; subst eo41; obtain ⟨Ao42, co42, eo42⟩ := Kd.V_slice HO_470002.out; subst eo42) | ((with_reducible refine gate_callee (f := 25) rfl ?_); refine goesL_ (some 68) rfl rfl Try.func25 (by kernel_rfl) rfl #[.agg #[.int .i64 x470000_1, .slice Ao41 x470001_1.length co41, .slice Ao42 x470002_1.length co42], .agg #[.int .i64 ((rd_T46 t470 x61_1).f0), .int .i64 ((rd_T46 t470 x61_1).f1), .int .i64 ((rd_T46 t470 x61_1).f2), .string ((rd_T46 t470 x61_1).f3)]] rfl (by (try simp only [List.map_toArray, List.map_cons, List.map_nil]); first | done | rfl | (simp only [List.length_drop, List.length_take]; rfl)) ?_; (with_reducible refine (recv_Take.calls k1 x470000_1 (fun k_ => (some k_ ≠ (.slice (some ad473) t470.length co26 : Value).ownBlock ∧ (some k_ ≠ (.slice Ao16 t452.length co16 : Value).ownBlock ∧ (some k_ ≠ (.slice Ao17 t455.length co17 : Value).ownBlock ∧ (k_ ≠ gb459 ∧ (k_ ≠ gb469 ∧ k_ ≠ gb474)))))) _ _ x470001_1 (fun k_ => (some k_ ≠ (.slice (some ad473) t470.length co26 : Value).ownBlock ∧ (some k_ ≠ (.slice Ao16 t452.length co16 : Value).ownBlock ∧ (some k_ ≠ (.slice Ao17 t455.length co17 : Value).ownBlock ∧ (k_ ≠ gb459 ∧ (k_ ≠ gb469 ∧ k_ ≠ gb474)))))) _ _ x470002_1 ((rd_T46 t470 x61_1).f0) ((rd_T46 t470 x61_1).f1) ((rd_T46 t470 x61_1).f2) ((rd_T46 t470 x61_1).f3) t475 t476 t479 true t483 _ ?side1 ?side2 A30.out).mono ?_); (case side1 => exact HO_470001.out); (case side2 => exact HO_470002.out); rintro e w43 ⟨v477, v480, rfl, ho0, ho1, hb⟩; refine ⟨_, rfl, ?_⟩; have n0_ := am_ (Kd.R_below (by (with_reducible repeat first | apply rwA | apply rwN | apply rwD); exact HO_59.out) hb); have n1_ := am_ (Kd.R_below (by (with_reducible repeat first | apply rwA | apply rwN | apply rwD); exact HO_460001.out) hb); have n2_ := am_ (Kd.R_below (by (with_reducible repeat first | apply rwA | apply rwN | apply rwD); exact HO_460002.out) hb); have n3_ := am_ (Kd.V_below (by (with_reducible repeat (first | apply vA | apply vN | apply vD)); exact HO_470001.out) hb); have n4_ := am_ (Kd.V_below (by (with_reducible repeat (first | apply vA | apply vN | apply vD)); exact HO_470002.out) hb); have n5_ := am_ (Kd.V_lower (Kd.V_mono (ok' := fun k_ => some k_ ≠ (.slice (some ad473) t470.length co26 : Value).ownBlock ∧ some k_ ≠ (.slice Ao16 t452.length co16 : Value).ownBlock ∧ some k_ ≠ (.slice Ao17 t455.length co17 : Value).ownBlock ∧ k_ ≠ gb459 ∧ k_ ≠ gb469 ∧ k_ ≠ gb474) ho0 (fun k_ hk_ => ⟨Or.elim hk_ (fun hs_ => Or.elim hs_ (fun hs_ => hs_.1) (fun hs_ => hs_.1)) (fun hn_ => (Kd.fresh' (Kd.R_lt (by (with_reducible repeat first | apply rwA | apply rwN | apply rwD); exact HO_59.out)) k_ hn_)), Or.elim hk_ (fun hs_ => Or.elim hs_ (fun hs_ => hs_.2.1) (fun hs_ => hs_.2.1)) (fun hn_ => (Kd.fresh' (Kd.R_lt (by (with_reducible repeat first | apply rwA | apply rwN | apply rwD); exact HO_460001.out)) k_ hn_)), Or.elim hk_ (fun hs_ => Or.elim hs_ (fun hs_ => hs_.2.2.1) (fun hs_ => hs_.2.2.1)) (fun hn_ => (Kd.fresh' (Kd.R_lt (by (with_reducible repeat first | apply rwA | apply rwN | apply rwD); exact HO_460002.out)) k_ hn_)), Or.elim hk_ (fun hs_ => Or.elim hs_ (fun hs_ => hs_.2.2.2.1) (fun hs_ => hs_.2.2.2.1)) (fun hn_ => (Kd.freshB (g := gb459) (o := .cells #[.int .i64 t451, .slice Ao16 t452.length co16, .slice Ao17 t455.length co17] 32 (0, 0)) (by (with_reducible repeat first | apply bkN | apply bkD | apply bkA); exact BK459.out) k_ hn_)), Or.elim hk_ (fun hs_ => Or.elim hs_ (fun hs_ => hs_.2.2.2.2.1) (fun hs_ => hs_.2.2.2.2.1)) (fun hn_ => (Kd.freshB (g := gb469) (o := .cells #[.int .i64 x470000_1, .slice Ao41 x470001_1.length co41, .slice Ao42 x470002_1.length co42] 50 (0, 0)) (by (with_reducible repeat first | apply bkN | apply bkD | apply bkA); exact BK469.out) k_ hn_)), Or.elim hk_ (fun hs_ => Or.elim hs_ (fun hs_ => hs_.2.2.2.2.2) (fun hs_ => hs_.2.2.2.2.2)) (fun hn_ => (Kd.freshB (g := gb474) (o := .cells #[.int .i64 ((rd_T46 t470 x61_1).f0), .int .i64 ((rd_T46 t470 x61_1).f1), .int .i64 ((rd_T46 t470 x61_1).f2), .string ((rd_T46 t470 x61_1).f3)] 46 (0, 0)) (by (with_reducible repeat first | apply bkN | apply bkD | apply bkA); exact BK474.out) k_ hn_))⟩)) (below_size (by repeat (first | (with_reducible first | exact HB.out | apply bwA | apply bwN | apply bwD | refine bs_ ?_ GE459.out | refine bs_ ?_ GE469.out | refine bs_ ?_ GE474.out) | exact HB.out)))); have n6_ := am_ (Kd.V_lower (Kd.V_mono (ok' := fun k_ => some k_ ≠ (.slice (some ad473) t470.length co26 : Value).ownBlock ∧ some k_ ≠ (.slice Ao16 t452.length co16 : Value).ownBlock ∧ some k_ ≠ (.slice Ao17 t455.length co17 : Value).ownBlock ∧ k_ ≠ gb459 ∧ k_ ≠ gb469 ∧ k_ ≠ gb474) ho1 (fun k_ hk_ => ⟨Or.elim hk_ (fun hs_ => Or.elim hs_ (fun hs_ => hs_.1) (fun hs_ => hs_.1)) (fun hn_ => (Kd.fresh' (Kd.R_lt (by (with_reducible repeat first | apply rwA | apply rwN | apply rwD); exact HO_59.out)) k_ hn_)), Or.elim hk_ (fun hs_ => Or.elim hs_ (fun hs_ => hs_.2.1) (fun hs_ => hs_.2.1)) (fun hn_ => (Kd.fresh' (Kd.R_lt (by (with_reducible repeat first | apply rwA | apply rwN | apply rwD); exact HO_460001.out)) k_ hn_)), Or.elim hk_ (fun hs_ => Or.elim hs_ (fun hs_ => hs_.2.2.1) (fun hs_ => hs_.2.2.1)) (fun hn_ => (Kd.fresh' (Kd.R_lt (by (with_reducible repeat first | apply rwA | apply rwN | apply rwD); exact HO_460002.out)) k_ hn_)), Or.elim hk_ (fun hs_ => Or.elim hs_ (fun hs_ => hs_.2.2.2.1) (fun hs_ => hs_.2.2.2.1)) (fun hn_ => (Kd.freshB (g := gb459) (o := .cells #[.int .i64 t451, .slice Ao16 t452.length co16, .slice Ao17 t455.length co17] 32 (0, 0)) (by (with_reducible repeat first | apply bkN | apply bkD | apply bkA); exact BK459.out) k_ hn_)), Or.elim hk_ (fun hs_ => Or.elim hs_ (fun hs_ => hs_.2.2.2.2.1) (fun hs_ => hs_.2.2.2.2.1)) (fun hn_ => (Kd.freshB (g := gb469) (o := .cells #[.int .i64 x470000_1, .slice Ao41 x470001_1.length co41, .slice Ao42 x470002_1.length co42] 50 (0, 0)) (by (with_reducible repeat first | apply bkN | apply bkD | apply bkA); exact BK469.out) k_ hn_)), Or.elim hk_ (fun hs_ => Or.elim hs_ (fun hs_ => hs_.2.2.2.2.2) (fun hs_ => hs_.2.2.2.2.2)) (fun hn_ => (Kd.freshB (g := gb474) (o := .cells #[.int .i64 ((rd_T46 t470 x61_1).f0), .int .i64 ((rd_T46 t470 x61_1).f1), .int .i64 ((rd_T46 t470 x61_1).f2), .string ((rd_T46 t470 x61_1).f3)] 46 (0, 0)) (by (with_reducible repeat first | apply bkN | apply bkD | apply bkA); exact BK474.out) k_ hn_))⟩)) (below_size (by repeat (first | (with_reducible first | exact HB.out | apply bwA | apply bwN | apply bwD | refine bs_ ?_ GE459.out | refine bs_ ?_ GE469.out | refine bs_ ?_ GE474.out) | exact HB.out)))); have n7_ := am_ (blk_below (g := gb459) (o := .cells #[.int .i64 t451, .slice Ao16 t452.length co16, .slice Ao17 t455.length co17] 32 (0, 0)) (by (with_reducible repeat first | apply bkN | apply bkD | apply bkA); exact BK459.out) hb); have n8_ := am_ (blk_below (g := gb469) (o := .cells #[.int .i64 x470000_1, .slice Ao41 x470001_1.length co41, .slice Ao42 x470002_1.length co42] 50 (0, 0)) (by (with_reducible repeat first | apply bkN | apply bkD | apply bkA); exact BK469.out) hb); have n9_ := am_ (blk_below (g := gb474) (o := .cells #[.int .i64 ((rd_T46 t470 x61_1).f0), .int .i64 ((rd_T46 t470 x61_1).f1), .int .i64 ((rd_T46 t470 x61_1).f2), .string ((rd_T46 t470 x61_1).f3)] 46 (0, 0)) (by (with_reducible repeat first | apply bkN | apply bkD | apply bkA); exact BK474.out) hb); have n10_ := am_ (below_step (by repeat (first | (with_reducible first | exact HB.out | apply bwA | apply bwN | apply bwD | refine bs_ ?_ GE459.out | refine bs_ ?_ GE469.out | refine bs_ ?_ GE474.out) | exact HB.out)) hb); clear HO_59; clear HO_460001; clear HO_460002; clear HO_470001; clear HO_470002; clear BK459; clear BK469; clear BK474; clear HB; have HO_59 := n0_; have HO_460001 := n1_; have HO_460002 := n2_; have HO_470001 := n3_; have HO_470002 := n4_; have HO478 := n5_; have HO481 := n6_; have BK459 := n7_; have BK469 := n8_; have BK474 := n9_; have HB := n10_; clear n0_ n1_ n2_ n3_ n4_ n5_ n6_ n7_ n8_ n9_ n10_; (try clear hb); (try clear hb2); (try clear hk); (try clear hi); (try clear ho0); (try clear ho1)) | ((with_reducible refine gate_dst (N := 17) rfl ?_); (try (refine gate_guard (by rfl) ?_; dsimp only)); refine box_event ?hg (N := 17) ?hd (cs := #[.int .i64 0, .slice none 0 0, .slice none 0 0]) (t := 50) ?hr ?_; (case hd => rfl); (case hg => rfl); (case hr => first | (go_simp; done) | (go_simp; rfl)); intro gb484 hg w44 hbox hb; have n0_ := am_ (Kd.R_below (by (with_reducible repeat first | apply rwA | apply rwN | apply rwD); exact HO_59.out) hb); have n1_ := am_ (Kd.R_below (by (with_reducible repeat first | apply rwA | apply rwN | apply rwD); exact HO_460001.out) hb); have n2_ := am_ (Kd.R_below (by (with_reducible repeat first | apply rwA | apply rwN | apply rwD); exact HO_460002.out) hb); have n3_ := am_ (Kd.V_below (Kd.V_elderB (by (with_reducible repeat (first | apply vA | apply vN | apply vD)); exact HO_470001.out) gb484 (Nat.le_of_eq hg.symm)) hb); have n4_ := am_ (Kd.V_below (Kd.V_elderB (by (with_reducible repeat (first | apply vA | apply vN | apply vD)); exact HO_470002.out) gb484 (Nat.le_of_eq hg.symm)) hb); have n5_ := am_ (Kd.V_below (Kd.V_elderB (by (with_reducible repeat (first | apply vA | apply vN | apply vD)); exact HO478.out) gb484 (Nat.le_of_eq hg.symm)) hb); have n6_ := am_ (Kd.V_below (Kd.V_elderB (by (with_reducible repeat (first | apply vA | apply vN | apply vD)); exact HO481.out) gb484 (Nat.le_of_eq hg.symm)) hb); have n7_ := am_ (blk_below (g := gb459) (o := .cells #[.int .i64 t451, .slice Ao16 t452.length co16, .slice Ao17 t455.length co17] 32 (0, 0)) (by (with_reducible repeat first | apply bkN | apply bkD | apply bkA); exact BK459.out) hb); have n8_ := am_ (blk_below (g := gb469) (o := .cells #[.int .i64 x470000_1, .slice Ao41 x470001_1.length co41, .slice Ao42 x470002_1.length co42] 50 (0, 0)) (by (with_reducible repeat first | apply bkN | apply bkD | apply bkA); exact BK469.out) hb); have n9_ := am_ (blk_below (g := gb474) (o := .cells #[.int .i64 ((rd_T46 t470 x61_1).f0), .int .i64 ((rd_T46 t470 x61_1).f1), .int .i64 ((rd_T46 t470 x61_1).f2), .string ((rd_T46 t470 x61_1).f3)] 46 (0, 0)) (by (with_reducible repeat first | apply bkN | apply bkD | apply bkA); exact BK474.out) hb); have n10_ := am_ (below_step (by repeat (first | (with_reducible first | exact HB.out | apply bwA | apply bwN | apply bwD | refine bs_ ?_ GE459.out | refine bs_ ?_ GE469.out | refine bs_ ?_ GE474.out) | exact HB.out)) hb); have n11_ := am_ (hbox); have n12_ := am_ ((by rw [hg]; exact (below_size (by repeat (first | (with_reducible first | exact HB.out | apply bwA | apply bwN | apply bwD | refine bs_ ?_ GE459.out | refine bs_ ?_ GE469.out | refine bs_ ?_ GE474.out) | exact HB.out))) : w.heap.size ≤ gb484)); have n13_ := am_ ((by rw [hg]; exact (below_size (by repeat (first | (with_reducible first | exact HB.out | apply bwA | apply bwN | apply bwD | refine bs_ ?_ GE459.out | refine bs_ ?_ GE469.out | refine bs_ ?_ GE474.out) | exact HB.out))) : w.heap.size ≤ gb484)); have n14_ := am_ ((by rw [hg]; exact Nat.ne_of_lt (blk_lt (g := gb459) (o := .cells #[.int .i64 t451, .slice Ao16 t452.length co16, .slice Ao17 t455.length co17] 32 (0, 0)) (by (with_reducible repeat first | apply bkN | apply bkD | apply bkA); exact BK459.out)) : gb459 ≠ gb484)); have n15_ := am_ ((by rw [hg]; exact Nat.ne_of_gt (blk_lt (g := gb459) (o := .cells #[.int .i64 t451, .slice Ao16 t452.length co16, .slice Ao17 t455.length co17] 32 (0, 0)) (by (with_reducible repeat first | apply bkN | apply bkD | apply bkA); exact BK459.out)) : gb484 ≠ gb459)); have n16_ := am_ ((by rw [hg]; exact Nat.ne_of_lt (blk_lt (g := gb469) (o := .cells #[.int .i64 x470000_1, .slice Ao41 x470001_1.length co41, .slice Ao42 x470002_1.length co42] 50 (0, 0)) (by (with_reducible repeat first | apply bkN | apply bkD | apply bkA); exact BK469.out)) : gb469 ≠ gb484)); have n17_ := am_ ((by rw [hg]; exact Nat.ne_of_gt (blk_lt (g := gb469) (o := .cells #[.int .i64 x470000_1, .slice Ao41 x470001_1.length co41, .slice Ao42 x470002_1.length co42] 50 (0, 0)) (by (with_reducible repeat first | apply bkN | apply bkD | apply bkA); exact BK469.out)) : gb484 ≠ gb469)); have n18_ := am_ ((by rw [hg]; exact Nat.ne_of_lt (blk_lt (g := gb474) (o := .cells #[.int .i64 ((rd_T46 t470 x61_1).f0), .int .i64 ((rd_T46 t470 x61_1).f1), .int .i64 ((rd_T46 t470 x61_1).f2), .string ((rd_T46 t470 x61_1).f3)] 46 (0, 0)) (by (with_reducible repeat first | apply bkN | apply bkD | apply bkA); exact BK474.out)) : gb474 ≠ gb484)); have n19_ := am_ ((by rw [hg]; exact Nat.ne_of_gt (blk_lt (g := gb474) (o := .cells #[.int .i64 ((rd_T46 t470 x61_1).f0), .int .i64 ((rd_T46 t470 x61_1).f1), .int .i64 ((rd_T46 t470 x61_1).f2), .string ((rd_T46 t470 x61_1).f3)] 46 (0, 0)) (by (with_reducible repeat first | apply bkN | apply bkD | apply bkA); exact BK474.out)) : gb484 ≠ gb474)); clear HO_59; clear HO_460001; clear HO_460002; clear HO_470001; clear HO_470002; clear HO478; clear HO481; clear BK459; clear BK469; clear BK474; clear HB; have HO_59 := n0_; have HO_460001 := n1_; have HO_460002 := n2_; have HO_470001 := n3_; have HO_470002 := n4_; have HO478 := n5_; have HO481 := n6_; have BK459 := n7_; have BK469 := n8_; have BK474 := n9_; have HB := n10_; have BK484 := n11_; have GW484 := n12_; have GE484 := n13_; have NB459_484 := n14_; have NB484_459 := n15_; have NB469_484 := n16_; have NB484_469 := n17_; have NB474_484 := n18_; have NB484_474 := n19_; clear n0_ n1_ n2_ n3_ n4_ n5_ n6_ n7_ n8_ n9_ n10_ n11_ n12_ n13_ n14_ n15_ n16_ n17_ n18_ n19_; clear hb hbox hg; have hnb45 := NB484_459.out; have hnc45 := NB459_484.out; have hnb46 := NB484_469.out; have hnc46 := NB469_484.out; have hnb47 := NB484_474.out; have hnc47 := NB474_484.out; have hcz48_0 : w44.cell? ⟨gb484, 0, none⟩ = some (.int .i64 0) := (blk_cell BK484.out 0).trans rfl; have hcz48_1 : w44.cell? ⟨gb484, 1, none⟩ = some (.slice none 0 0) := (blk_cell BK484.out 1).trans rfl; have hcz48_2 : w44.cell? ⟨gb484, 2, none⟩ = some (.slice none 0 0) := (blk_cell BK484.out 2).trans rfl; have hfz48_0 := blk_frozen BK484.out 0; have hfz48_1 := blk_frozen BK484.out 1; have hfz48_2 := blk_frozen BK484.out 2; obtain ⟨Ao49, co49, eo49⟩ := Kd.V_slice HO478.out; subst eo49; obtain ⟨Ao50, co50, eo50⟩ := Kd.V_slice HO481.out; subst eo50; have hcz51_0 : w44.cell? ⟨gb469, 0, none⟩ = some (.int .i64 x470000_1) := (blk_cell BK469.out 0).trans rfl; have hcz51_1 : w44.cell? ⟨gb469, 1, none⟩ = some (.slice Ao41 x470001_1.length co41) := (blk_cell BK469.out 1).trans rfl; have hcz51_2 : w44.cell? ⟨gb469, 2, none⟩ = some (.slice Ao42 x470002_1.length co42) := (blk_cell BK469.out 2).trans rfl; have hfz51_0 := blk_frozen BK469.out 0; have hfz51_1 := blk_frozen BK469.out 1; have hfz51_2 := blk_frozen BK469.out 2))
          go_roundg k1
          case measure => have := HK1.out; omega
          case rel => exact ⟨(wrap64 (x61_1 + 1)), (t475), (t476), (t479), (.slice Ao49 t476.length co49), (.slice Ao50 t479.length co50), (by first | rfl | (simp; done) | (simp [*]; done)), H', ⟨by have := HK1.out; omega⟩, ⟨by (with_reducible repeat first | apply rwA | apply rwN | apply rwD); exact Kd.R_mono (rF gb469 2 (rF gb469 1 (rF gb469 0 (rF gb484 2 (rF gb484 1 (rF gb484 0 (Kd.R_types (Kd.R_types HO_59.out BK484.out (by decide)) BK469.out (by decide)) (fun _ hk => hk.1.2) (.int .i64 t475)) (fun _ hk => hk.1.2) (.slice Ao49 t476.length co49)) (fun _ hk => hk.1.2) (.slice Ao50 t479.length co50)) sn_ (.int .i64 t475)) sn_ (.slice Ao49 t476.length co49)) sn_ (.slice Ao50 t479.length co50)) (fun _ hk => trivial)⟩, ⟨by (with_reducible repeat first | apply rwA | apply rwN | apply rwD); exact Kd.R_mono (rF gb469 2 (rF gb469 1 (rF gb469 0 (rF gb484 2 (rF gb484 1 (rF gb484 0 (Kd.R_types (Kd.R_types HO_460001.out BK484.out (by decide)) BK469.out (by decide)) (fun _ hk => hk.1.2) (.int .i64 t475)) (fun _ hk => hk.1.2) (.slice Ao49 t476.length co49)) (fun _ hk => hk.1.2) (.slice Ao50 t479.length co50)) sn_ (.int .i64 t475)) sn_ (.slice Ao49 t476.length co49)) sn_ (.slice Ao50 t479.length co50)) (fun _ hk => trivial)⟩, ⟨by (with_reducible repeat first | apply rwA | apply rwN | apply rwD); exact Kd.R_mono (rF gb469 2 (rF gb469 1 (rF gb469 0 (rF gb484 2 (rF gb484 1 (rF gb484 0 (Kd.R_types (Kd.R_types HO_460002.out BK484.out (by decide)) BK469.out (by decide)) (fun _ hk => hk.1.2) (.int .i64 t475)) (fun _ hk => hk.1.2) (.slice Ao49 t476.length co49)) (fun _ hk => hk.1.2) (.slice Ao50 t479.length co50)) sn_ (.int .i64 t475)) sn_ (.slice Ao49 t476.length co49)) sn_ (.slice Ao50 t479.length co50)) (fun _ hk => trivial)⟩, ⟨by (with_reducible repeat (first | apply vA | apply vN | apply vD)); exact Kd.V_mono (vF gb469 2 (vF gb469 1 (vF gb469 0 (vF gb484 2 (vF gb484 1 (vF gb484 0 (Kd.V_mono (Kd.V_mono HO478.out (fun k_ hk => (⟨hk, hk.2⟩ : _ ∧ k_ ≠ gb484))) (fun k_ hk => (⟨hk, hk.1.1.2.2.2.2.1⟩ : _ ∧ k_ ≠ gb469))) (fun _ hk => hk.1.2) (.int .i64 t475)) (fun _ hk => hk.1.2) (.slice Ao49 t476.length co49)) (fun _ hk => hk.1.2) (.slice Ao50 t479.length co50)) sn_ (.int .i64 t475)) sn_ (.slice Ao49 t476.length co49)) sn_ (.slice Ao50 t479.length co50)) (fun _ hk => ⟨hk.1.1.1.1, ⟨hk.1.1.1.2.1, ⟨hk.1.1.1.2.2.1, ⟨hk.1.1.1.2.2.2.1, hk.1.1.1.2.2.2.2.1⟩⟩⟩⟩)⟩, ⟨by (with_reducible repeat (first | apply vA | apply vN | apply vD)); exact Kd.V_mono (vF gb469 2 (vF gb469 1 (vF gb469 0 (vF gb484 2 (vF gb484 1 (vF gb484 0 (Kd.V_mono (Kd.V_mono HO481.out (fun k_ hk => (⟨hk, hk.2⟩ : _ ∧ k_ ≠ gb484))) (fun k_ hk => (⟨hk, hk.1.1.2.2.2.2.1⟩ : _ ∧ k_ ≠ gb469))) (fun _ hk => hk.1.2) (.int .i64 t475)) (fun _ hk => hk.1.2) (.slice Ao49 t476.length co49)) (fun _ hk => hk.1.2) (.slice Ao50 t479.length co50)) sn_ (.int .i64 t475)) sn_ (.slice Ao49 t476.length co49)) sn_ (.slice Ao50 t479.length co50)) (fun _ hk => ⟨hk.1.1.1.1, ⟨hk.1.1.1.2.1, ⟨hk.1.1.1.2.2.1, ⟨hk.1.1.1.2.2.2.1, hk.1.1.1.2.2.2.2.1⟩⟩⟩⟩)⟩, ⟨by (with_reducible repeat first | apply bkN | apply bkD | apply bkA); refine blk_far ?_ NB459_469.out _; (with_reducible repeat first | apply bkN | apply bkD | apply bkA); refine blk_far ?_ NB459_469.out _; (with_reducible repeat first | apply bkN | apply bkD | apply bkA); refine blk_far ?_ NB459_469.out _; (with_reducible repeat first | apply bkN | apply bkD | apply bkA); refine blk_far ?_ NB459_484.out _; (with_reducible repeat first | apply bkN | apply bkD | apply bkA); refine blk_far ?_ NB459_484.out _; (with_reducible repeat first | apply bkN | apply bkD | apply bkA); refine blk_far ?_ NB459_484.out _; (with_reducible repeat first | apply bkN | apply bkD | apply bkA); exact BK459.out⟩, ⟨by (with_reducible repeat first | apply bkN | apply bkD | apply bkA); refine blk_put (cs := #[.int .i64 t475, .slice Ao49 t476.length co49, .slice Ao42 x470002_1.length co42]) ?_ 2 _ rfl; (with_reducible repeat first | apply bkN | apply bkD | apply bkA); refine blk_put (cs := #[.int .i64 t475, .slice Ao41 x470001_1.length co41, .slice Ao42 x470002_1.length co42]) ?_ 1 _ rfl; (with_reducible repeat first | apply bkN | apply bkD | apply bkA); refine blk_put (cs := #[.int .i64 x470000_1, .slice Ao41 x470001_1.length co41, .slice Ao42 x470002_1.length co42]) ?_ 0 _ rfl; (with_reducible repeat first | apply bkN | apply bkD | apply bkA); refine blk_far ?_ NB469_484.out _; (with_reducible repeat first | apply bkN | apply bkD | apply bkA); refine blk_far ?_ NB469_484.out _; (with_reducible repeat first | apply bkN | apply bkD | apply bkA); refine blk_far ?_ NB469_484.out _; (with_reducible repeat first | apply bkN | apply bkD | apply bkA); exact BK469.out⟩, ⟨by repeat (first | (with_reducible first | exact HB.out | apply bwA | apply bwN | apply bwD | refine bs_ ?_ GE459.out | refine bs_ ?_ GE469.out | refine bs_ ?_ GE474.out | refine bs_ ?_ GE484.out) | exact HB.out)⟩⟩
         ·rw [if_neg c32] at H
          exact absurd (Option.some.inj H) (by rw [hr_.out]; decide)
        ·replace c31 := Bool.eq_false_iff.mpr c31
         subst c31
         have H1 : (some false) = some r := by rw [if_neg (show ¬ (false = true) by decide)] at H; exact H
         clear H
         have H := H1
         clear H1
         exact absurd (Option.some.inj H) (by rw [hr_.out]; decide)
       ·rw [if_neg c29] at H
        exact absurd H (by simp)
      ·rw [if_neg c28] at H
       exact absurd H (by simp)
     ·rw [if_neg c27] at H
      have c27b0 : decide (x61_1 < (t470.length : Int)) = false := decide_eq_false c27
      clear c27
      have HC52 := am_ H
      clear H
      go_upto_region 16 with (fail)
      go_cut [88] (fun v88 wc => ∃ (kq : Nat) (x88_51 : Bool), v88 = .bool x88_51 ∧ Aside0 (tillerlaw21_RecvFalse.j1 kq a0 t449 a3 t450 x88_51 t451 t452 t455 x470000_1 x470001_1 x470002_1 = some r) ∧ Aside0 (kq ≤ k1) ∧ Aside0 (Kd.R Kd.string 9 wc w.heap.size (fun _ => True) (.slice Ao16 t452.length co16) t452) ∧ Aside0 (Kd.R Kd.bool 4 wc w.heap.size (fun _ => True) (.slice Ao17 t455.length co17) t455) ∧ Aside0 (Kd.V Kd.string 9 wc w.heap.size (fun k_ => some k_ ≠ ((.slice Ao16 t452.length co16) : Value).ownBlock ∧ some k_ ≠ ((.slice Ao17 t455.length co17) : Value).ownBlock ∧ k_ ≠ gb459 ∧ k_ ≠ gb469) u470001 x470001_1) ∧ Aside0 (Kd.V Kd.bool 4 wc w.heap.size (fun k_ => some k_ ≠ ((.slice Ao16 t452.length co16) : Value).ownBlock ∧ some k_ ≠ ((.slice Ao17 t455.length co17) : Value).ownBlock ∧ k_ ≠ gb459 ∧ k_ ≠ gb469) u470002 x470002_1) ∧ Aside0 (wc.heap[gb459]? = some (.cells #[.int .i64 t451, (.slice Ao16 t452.length co16), (.slice Ao17 t455.length co17)] 32 (0, 0))) ∧ Aside0 (wc.heap[gb469]? = some (.cells #[.int .i64 x470000_1, u470001, u470002] 50 (0, 0))) ∧ Aside0 (Below w.heap.size w wc))
      case first =>
       have H := HC52.out
       clear HC52
       by_cases c53 : a3 < 0
       ·rw [if_pos c53] at H
        have c53b0 : decide (a3 < 0) = true := decide_eq_true c53
        clear c53
        (first | rw [c53b0] | (simp only [i64_w, i32_w]; rw [c53b0]) | skip)
        have H' := am_ H
        clear H
        go_wp2
        go_meet
        case rel => exact ⟨_, (true), (by first | rfl | (simp; done) | (simp [*]; done)), H', ⟨by have := HK1.out; first | omega | exact Nat.le_refl _⟩, ⟨by (with_reducible repeat first | apply rwA | apply rwN | apply rwD); exact HO_460001.out⟩, ⟨by (with_reducible repeat first | apply rwA | apply rwN | apply rwD); exact HO_460002.out⟩, ⟨by (with_reducible repeat (first | apply vA | apply vN | apply vD)); exact Kd.V_mono HO_470001.out (fun _ hk => ⟨hk.2.1, ⟨hk.2.2.1, ⟨hk.2.2.2.1, hk.2.2.2.2⟩⟩⟩)⟩, ⟨by (with_reducible repeat (first | apply vA | apply vN | apply vD)); exact Kd.V_mono HO_470002.out (fun _ hk => ⟨hk.2.1, ⟨hk.2.2.1, ⟨hk.2.2.2.1, hk.2.2.2.2⟩⟩⟩)⟩, ⟨by (with_reducible repeat first | apply bkN | apply bkD | apply bkA); exact BK459.out⟩, ⟨by (with_reducible repeat first | apply bkN | apply bkD | apply bkA); exact BK469.out⟩, ⟨by repeat (first | (with_reducible first | exact HB.out | apply bwA | apply bwN | apply bwD | refine bs_ ?_ GE459.out | refine bs_ ?_ GE469.out) | exact HB.out)⟩⟩
       ·rw [if_neg c53] at H
        have c53b0 : decide (a3 < 0) = false := decide_eq_false c53
        clear c53
        (first | rw [c53b0] | (simp only [i64_w, i32_w]; rw [c53b0]) | skip)
        have H' := am_ H
        clear H
        have hnb54 := NB459_469.out
        have hnc54 := NB469_459.out
        have hcz55_0 : wr.cell? ⟨gb459, 0, none⟩ = some (.int .i64 t451) := (blk_cell BK459.out 0).trans rfl
        have hcz55_1 : wr.cell? ⟨gb459, 1, none⟩ = some (.slice Ao16 t452.length co16) := (blk_cell BK459.out 1).trans rfl
        have hcz55_2 : wr.cell? ⟨gb459, 2, none⟩ = some (.slice Ao17 t455.length co17) := (blk_cell BK459.out 2).trans rfl
        have hfz55_0 := blk_frozen BK459.out 0
        have hfz55_1 := blk_frozen BK459.out 1
        have hfz55_2 := blk_frozen BK459.out 2
        go_wp2
        go_meet
        case rel => exact ⟨_, (decide (a3 ≥ (t452.length : Int))), (by first | rfl | (simp; done) | (simp [*]; done)), H', ⟨by have := HK1.out; first | omega | exact Nat.le_refl _⟩, ⟨by (with_reducible repeat first | apply rwA | apply rwN | apply rwD); exact HO_460001.out⟩, ⟨by (with_reducible repeat first | apply rwA | apply rwN | apply rwD); exact HO_460002.out⟩, ⟨by (with_reducible repeat (first | apply vA | apply vN | apply vD)); exact Kd.V_mono HO_470001.out (fun _ hk => ⟨hk.2.1, ⟨hk.2.2.1, ⟨hk.2.2.2.1, hk.2.2.2.2⟩⟩⟩)⟩, ⟨by (with_reducible repeat (first | apply vA | apply vN | apply vD)); exact Kd.V_mono HO_470002.out (fun _ hk => ⟨hk.2.1, ⟨hk.2.2.1, ⟨hk.2.2.2.1, hk.2.2.2.2⟩⟩⟩)⟩, ⟨by (with_reducible repeat first | apply bkN | apply bkD | apply bkA); exact BK459.out⟩, ⟨by (with_reducible repeat first | apply bkN | apply bkD | apply bkA); exact BK469.out⟩, ⟨by repeat (first | (with_reducible first | exact HB.out | apply bwA | apply bwN | apply bwD | refine bs_ ?_ GE459.out | refine bs_ ?_ GE469.out) | exact HB.out)⟩⟩
      case rest =>
       clear HC52
       try clear c1
       try clear c2
       try clear p2
       try clear c3
       try clear c4
       try clear p4
       try clear q4
       try clear hx4
       try clear c5
       try clear p6
       try clear c9
       try clear c9b0
       try clear c9b1
       try clear c11
       try clear c11b0
       try clear c11b1
       try clear c14
       try clear c20
       try clear c22
       try clear c23
       try clear c25
       try clear c27
       try clear c27b0
       try clear c28
       try clear c28b0
       try clear c29
       try clear c29b0
       try clear c31
       try clear c32
       try clear c32b0
       try clear c32b1
       try clear c34
       try clear c35
       try clear c38
       try clear c45
       try clear c46
       try clear c47
       try clear p47
       try clear q47
       try clear hx47
       try clear c53
       try clear c53b0
       try clear c54
       try clear hcz15_0
       try clear hcz15_1
       try clear hcz15_2
       try clear hcz21_0
       try clear hcz21_1
       try clear hcz21_2
       try clear hcz24_0
       try clear hcz24_1
       try clear hcz24_2
       try clear hcz36_0
       try clear hcz36_1
       try clear hcz36_2
       try clear hcz36_3
       try clear hcz39_0
       try clear hcz39_1
       try clear hcz39_2
       try clear hcz40_0
       try clear hcz40_1
       try clear hcz40_2
       try clear hcz40_3
       try clear hcz48_0
       try clear hcz48_1
       try clear hcz48_2
       try clear hcz51_0
       try clear hcz51_1
       try clear hcz51_2
       try clear hcz55_0
       try clear hcz55_1
       try clear hcz55_2
       try clear hfz15_0
       try clear hfz15_1
       try clear hfz15_2
       try clear hfz21_0
       try clear hfz21_1
       try clear hfz21_2
       try clear hfz24_0
       try clear hfz24_1
       try clear hfz24_2
       try clear hfz36_0
       try clear hfz36_1
       try clear hfz36_2
       try clear hfz36_3
       try clear hfz39_0
       try clear hfz39_1
       try clear hfz39_2
       try clear hfz40_0
       try clear hfz40_1
       try clear hfz40_2
       try clear hfz40_3
       try clear hfz48_0
       try clear hfz48_1
       try clear hfz48_2
       try clear hfz51_0
       try clear hfz51_1
       try clear hfz51_2
       try clear hfz55_0
       try clear hfz55_1
       try clear hfz55_2
       try clear hx473_0
       try clear hx473_1
       try clear hx473_2
       try clear hx473_3
       try clear p2
       try clear p473
       try clear q473
       obtain ⟨kq, x88_51, rfl, HA, HJ51, HO_460001, HO_460002, HO_470001, HO_470002, BK459, BK469, HB⟩ := hcut
       cases kq with
       | zero => exact absurd HA.out (by simp [tillerlaw21_RecvFalse.j1])
       | succ kj51 =>
        have H := HA.out
        clear HA
        simp only [tillerlaw21_RecvFalse.j1] at H
        by_cases c56 : x88_51 = true
        ·subst c56
         have H1 : ((tillerlaw21_awake.f kj51).bind fun t485 => (some t485)) = some r := by rw [if_pos rfl] at H; exact H
         clear H
         have H := H1
         clear H1
         replace H := Option.bind_eq_some_iff.mp H
         obtain ⟨t485, A570, H⟩ := H
         replace H : (some t485) = some r := H
         have A57 := am_ A570
         clear A570
         obtain rfl := Option.some.inj H
         go_wp2_with (first | ((with_reducible refine gate_callee (f := 24) rfl ?_); refine goesL_ (some 89) rfl rfl Try.func24 (by kernel_rfl) rfl #[] rfl (by (try simp only [List.map_toArray, List.map_cons, List.map_nil]); first | done | rfl | (simp only [List.length_drop, List.length_take]; rfl)) ?_; (with_reducible refine (tillerlaw21_awake.calls kj51  t485 _ A57.out).mono ?_); rintro e w58 ⟨rfl, hb⟩; refine ⟨_, rfl, ?_⟩; have n0_ := am_ (Kd.R_below (by (with_reducible repeat first | apply rwA | apply rwN | apply rwD); exact HO_460001.out) hb); have n1_ := am_ (Kd.R_below (by (with_reducible repeat first | apply rwA | apply rwN | apply rwD); exact HO_460002.out) hb); have n2_ := am_ (Kd.V_below (by (with_reducible repeat (first | apply vA | apply vN | apply vD)); exact HO_470001.out) hb); have n3_ := am_ (Kd.V_below (by (with_reducible repeat (first | apply vA | apply vN | apply vD)); exact HO_470002.out) hb); have n4_ := am_ (blk_below (g := gb459) (o := .cells #[.int .i64 t451, .slice Ao16 t452.length co16, .slice Ao17 t455.length co17] 32 (0, 0)) (by (with_reducible repeat first | apply bkN | apply bkD | apply bkA); exact BK459.out) hb); have n5_ := am_ (blk_below (g := gb469) (o := .cells #[.int .i64 x470000_1, u470001, u470002] 50 (0, 0)) (by (with_reducible repeat first | apply bkN | apply bkD | apply bkA); exact BK469.out) hb); have n6_ := am_ (below_step (by repeat (first | (with_reducible first | exact HB.out | apply bwA | apply bwN | apply bwD | refine bs_ ?_ GE459.out | refine bs_ ?_ GE469.out) | exact HB.out)) hb); clear HO_460001; clear HO_460002; clear HO_470001; clear HO_470002; clear BK459; clear BK469; clear HB; have HO_460001 := n0_; have HO_460002 := n1_; have HO_470001 := n2_; have HO_470002 := n3_; have BK459 := n4_; have BK469 := n5_; have HB := n6_; clear n0_ n1_ n2_ n3_ n4_ n5_ n6_; (try clear hb); (try clear hb2); (try clear hk); (try clear hi)))
         go_ret
         exact ⟨by first | rfl | (simp [errW_none, errW_some] <;> rfl) | (simp [*, errW_none, errW_some] <;> rfl), by repeat (first | (with_reducible first | exact HB.out | apply bwA | apply bwN | apply bwD | refine bs_ ?_ GE459.out | refine bs_ ?_ GE469.out) | exact HB.out)⟩
        ·replace c56 := Bool.eq_false_iff.mpr c56
         subst c56
         have H1 : ((recv_Take.f kj51 x470000_1 x470001_1 x470002_1 a0 a3 (t452.length : Int) t450).bind fun bt486 => ((recv_Take.f kj51 x470000_1 x470001_1 x470002_1 (Go.bits .xor .i64 a0 1) a3 (t452.length : Int) t450).bind fun bt496 => ((recv_Take.f kj51 x470000_1 x470001_1 x470002_1 a0 a3 (wrap64 ((t452.length : Int) + 1)) t450).bind fun bt506 => (if 0 ≤ a3 then (if a3 < (t452.length : Int) then (if ((bt486.2.2.2.2 == 0) != (t450.toList == (rdOf ByteArray.empty t452 a3).toList)) = true then (tillerlaw21_RecvFalse.j2 kj51 t449 true x470000_1 x470001_1 x470002_1 bt486.1 bt486.2.1 bt486.2.2.1 bt496.1 bt496.2.1 bt496.2.2.1 bt506.1 bt506.2.1 bt506.2.2.1) else (if bt486.2.2.2.2 = 0 then (if bt496.2.2.2.2 = 14 then (tillerlaw21_RecvFalse.j2 kj51 t449 (bt506.2.2.2.2 != 1) x470000_1 x470001_1 x470002_1 bt486.1 bt486.2.1 bt486.2.2.1 bt496.1 bt496.2.1 bt496.2.2.1 bt506.1 bt506.2.1 bt506.2.2.1) else (tillerlaw21_RecvFalse.j2 kj51 t449 true x470000_1 x470001_1 x470002_1 bt486.1 bt486.2.1 bt486.2.2.1 bt496.1 bt496.2.1 bt496.2.2.1 bt506.1 bt506.2.1 bt506.2.2.1)) else (if bt486.2.2.2.2 = 9 then (if bt496.2.2.2.2 = 14 then (tillerlaw21_RecvFalse.j2 kj51 t449 (bt506.2.2.2.2 != 1) x470000_1 x470001_1 x470002_1 bt486.1 bt486.2.1 bt486.2.2.1 bt496.1 bt496.2.1 bt496.2.2.1 bt506.1 bt506.2.1 bt506.2.2.1) else (tillerlaw21_RecvFalse.j2 kj51 t449 true x470000_1 x470001_1 x470002_1 bt486.1 bt486.2.1 bt486.2.2.1 bt496.1 bt496.2.1 bt496.2.2.1 bt506.1 bt506.2.1 bt506.2.2.1)) else (tillerlaw21_RecvFalse.j2 kj51 t449 true x470000_1 x470001_1 x470002_1 bt486.1 bt486.2.1 bt486.2.2.1 bt496.1 bt496.2.1 bt496.2.2.1 bt506.1 bt506.2.1 bt506.2.2.1)))) else (none)) else (none))))) = some r := by rw [if_neg (show ¬ (false = true) by decide)] at H; exact H
         clear H
         have H := H1
         clear H1
         replace H := Option.bind_eq_some_iff.mp H
         obtain ⟨⟨t486, t487, t490, t493, t494⟩, A590, H⟩ := H
         replace H : ((recv_Take.f kj51 x470000_1 x470001_1 x470002_1 (Go.bits .xor .i64 a0 1) a3 (t452.length : Int) t450).bind fun bt496 => ((recv_Take.f kj51 x470000_1 x470001_1 x470002_1 a0 a3 (wrap64 ((t452.length : Int) + 1)) t450).bind fun bt506 => (if 0 ≤ a3 then (if a3 < (t452.length : Int) then (if ((t494 == 0) != (t450.toList == (rdOf ByteArray.empty t452 a3).toList)) = true then (tillerlaw21_RecvFalse.j2 kj51 t449 true x470000_1 x470001_1 x470002_1 t486 t487 t490 bt496.1 bt496.2.1 bt496.2.2.1 bt506.1 bt506.2.1 bt506.2.2.1) else (if t494 = 0 then (if bt496.2.2.2.2 = 14 then (tillerlaw21_RecvFalse.j2 kj51 t449 (bt506.2.2.2.2 != 1) x470000_1 x470001_1 x470002_1 t486 t487 t490 bt496.1 bt496.2.1 bt496.2.2.1 bt506.1 bt506.2.1 bt506.2.2.1) else (tillerlaw21_RecvFalse.j2 kj51 t449 true x470000_1 x470001_1 x470002_1 t486 t487 t490 bt496.1 bt496.2.1 bt496.2.2.1 bt506.1 bt506.2.1 bt506.2.2.1)) else (if t494 = 9 then (if bt496.2.2.2.2 = 14 then (tillerlaw21_RecvFalse.j2 kj51 t449 (bt506.2.2.2.2 != 1) x470000_1 x470001_1 x470002_1 t486 t487 t490 bt496.1 bt496.2.1 bt496.2.2.1 bt506.1 bt506.2.1 bt506.2.2.1) else (tillerlaw21_RecvFalse.j2 kj51 t449 true x470000_1 x470001_1 x470002_1 t486 t487 t490 bt496.1 bt496.2.1 bt496.2.2.1 bt506.1 bt506.2.1 bt506.2.2.1)) else (tillerlaw21_RecvFalse.j2 kj51 t449 true x470000_1 x470001_1 x470002_1 t486 t487 t490 bt496.1 bt496.2.1 bt496.2.2.1 bt506.1 bt506.2.1 bt506.2.2.1)))) else (none)) else (none)))) = some r := H
         have A59 := am_ A590
         clear A590
         replace H := Option.bind_eq_some_iff.mp H
         obtain ⟨⟨t496, t497, t500, t503, t504⟩, A600, H⟩ := H
         replace H : ((recv_Take.f kj51 x470000_1 x470001_1 x470002_1 a0 a3 (wrap64 ((t452.length : Int) + 1)) t450).bind fun bt506 => (if 0 ≤ a3 then (if a3 < (t452.length : Int) then (if ((t494 == 0) != (t450.toList == (rdOf ByteArray.empty t452 a3).toList)) = true then (tillerlaw21_RecvFalse.j2 kj51 t449 true x470000_1 x470001_1 x470002_1 t486 t487 t490 t496 t497 t500 bt506.1 bt506.2.1 bt506.2.2.1) else (if t494 = 0 then (if t504 = 14 then (tillerlaw21_RecvFalse.j2 kj51 t449 (bt506.2.2.2.2 != 1) x470000_1 x470001_1 x470002_1 t486 t487 t490 t496 t497 t500 bt506.1 bt506.2.1 bt506.2.2.1) else (tillerlaw21_RecvFalse.j2 kj51 t449 true x470000_1 x470001_1 x470002_1 t486 t487 t490 t496 t497 t500 bt506.1 bt506.2.1 bt506.2.2.1)) else (if t494 = 9 then (if t504 = 14 then (tillerlaw21_RecvFalse.j2 kj51 t449 (bt506.2.2.2.2 != 1) x470000_1 x470001_1 x470002_1 t486 t487 t490 t496 t497 t500 bt506.1 bt506.2.1 bt506.2.2.1) else (tillerlaw21_RecvFalse.j2 kj51 t449 true x470000_1 x470001_1 x470002_1 t486 t487 t490 t496 t497 t500 bt506.1 bt506.2.1 bt506.2.2.1)) else (tillerlaw21_RecvFalse.j2 kj51 t449 true x470000_1 x470001_1 x470002_1 t486 t487 t490 t496 t497 t500 bt506.1 bt506.2.1 bt506.2.2.1)))) else (none)) else (none))) = some r := H
         have A60 := am_ A600
         clear A600
         replace H := Option.bind_eq_some_iff.mp H
         obtain ⟨⟨t506, t507, t510, t513, t514⟩, A610, H⟩ := H
         replace H : (if 0 ≤ a3 then (if a3 < (t452.length : Int) then (if ((t494 == 0) != (t450.toList == (rdOf ByteArray.empty t452 a3).toList)) = true then (tillerlaw21_RecvFalse.j2 kj51 t449 true x470000_1 x470001_1 x470002_1 t486 t487 t490 t496 t497 t500 t506 t507 t510) else (if t494 = 0 then (if t504 = 14 then (tillerlaw21_RecvFalse.j2 kj51 t449 (t514 != 1) x470000_1 x470001_1 x470002_1 t486 t487 t490 t496 t497 t500 t506 t507 t510) else (tillerlaw21_RecvFalse.j2 kj51 t449 true x470000_1 x470001_1 x470002_1 t486 t487 t490 t496 t497 t500 t506 t507 t510)) else (if t494 = 9 then (if t504 = 14 then (tillerlaw21_RecvFalse.j2 kj51 t449 (t514 != 1) x470000_1 x470001_1 x470002_1 t486 t487 t490 t496 t497 t500 t506 t507 t510) else (tillerlaw21_RecvFalse.j2 kj51 t449 true x470000_1 x470001_1 x470002_1 t486 t487 t490 t496 t497 t500 t506 t507 t510)) else (tillerlaw21_RecvFalse.j2 kj51 t449 true x470000_1 x470001_1 x470002_1 t486 t487 t490 t496 t497 t500 t506 t507 t510)))) else (none)) else (none)) = some r := H
         have A61 := am_ A610
         clear A610
         have HC62 := am_ H
         clear H
         have hnb63 := NB459_469.out
         have hnc63 := NB469_459.out
         have hcz64_0 : wc.cell? ⟨gb459, 0, none⟩ = some (.int .i64 t451) := (blk_cell BK459.out 0).trans rfl
         have hcz64_1 : wc.cell? ⟨gb459, 1, none⟩ = some (.slice Ao16 t452.length co16) := (blk_cell BK459.out 1).trans rfl
         have hcz64_2 : wc.cell? ⟨gb459, 2, none⟩ = some (.slice Ao17 t455.length co17) := (blk_cell BK459.out 2).trans rfl
         have hfz64_0 := blk_frozen BK459.out 0
         have hfz64_1 := blk_frozen BK459.out 1
         have hfz64_2 := blk_frozen BK459.out 2
         have hcz65_0 : wc.cell? ⟨gb469, 0, none⟩ = some (.int .i64 x470000_1) := (blk_cell BK469.out 0).trans rfl
         have hcz65_1 : wc.cell? ⟨gb469, 1, none⟩ = some (u470001) := (blk_cell BK469.out 1).trans rfl
         have hcz65_2 : wc.cell? ⟨gb469, 2, none⟩ = some (u470002) := (blk_cell BK469.out 2).trans rfl
         have hfz65_0 := blk_frozen BK469.out 0
         have hfz65_1 := blk_frozen BK469.out 1
         have hfz65_2 := blk_frozen BK469.out 2
         obtain ⟨Ao66, co66, eo66⟩ := Kd.V_slice HO_470001.out
         subst eo66
         obtain ⟨Ao67, co67, eo67⟩ := Kd.V_slice HO_470002.out
         subst eo67
         go_upto_region 22 with (first | ((with_reducible refine gate_callee (f := 25) rfl ?_); refine goesL_ (some 100) rfl rfl Try.func25 (by kernel_rfl) rfl #[.agg #[.int .i64 x470000_1, .slice Ao66 x470001_1.length co66, .slice Ao67 x470002_1.length co67], .agg #[.int .i64 a0, .int .i64 a3, .int .i64 (t452.length : Int), .string t450]] rfl (by (try simp only [List.map_toArray, List.map_cons, List.map_nil]); first | done | rfl | (simp only [List.length_drop, List.length_take]; rfl)) ?_; (with_reducible refine (recv_Take.calls kj51 x470000_1 (fun k_ => (some k_ ≠ (.slice Ao16 t452.length co16 : Value).ownBlock ∧ (some k_ ≠ (.slice Ao17 t455.length co17 : Value).ownBlock ∧ (k_ ≠ gb459 ∧ k_ ≠ gb469)))) _ _ x470001_1 (fun k_ => (some k_ ≠ (.slice Ao16 t452.length co16 : Value).ownBlock ∧ (some k_ ≠ (.slice Ao17 t455.length co17 : Value).ownBlock ∧ (k_ ≠ gb459 ∧ k_ ≠ gb469)))) _ _ x470002_1 a0 a3 (t452.length : Int) t450 t486 t487 t490 t493 t494 _ ?side1 ?side2 A59.out).mono ?_); (case side1 => exact HO_470001.out); (case side2 => exact HO_470002.out); rintro e w68 ⟨v488, v491, rfl, ho0, ho1, hb⟩; refine ⟨_, rfl, ?_⟩; have n0_ := am_ (Kd.R_below (by (with_reducible repeat first | apply rwA | apply rwN | apply rwD); exact HO_460001.out) hb); have n1_ := am_ (Kd.R_below (by (with_reducible repeat first | apply rwA | apply rwN | apply rwD); exact HO_460002.out) hb); have n2_ := am_ (Kd.V_below (by (with_reducible repeat (first | apply vA | apply vN | apply vD)); exact HO_470001.out) hb); have n3_ := am_ (Kd.V_below (by (with_reducible repeat (first | apply vA | apply vN | apply vD)); exact HO_470002.out) hb); have n4_ := am_ (Kd.V_lower (Kd.V_mono (ok' := fun k_ => some k_ ≠ (.slice Ao16 t452.length co16 : Value).ownBlock ∧ some k_ ≠ (.slice Ao17 t455.length co17 : Value).ownBlock ∧ k_ ≠ gb459 ∧ k_ ≠ gb469) ho0 (fun k_ hk_ => ⟨Or.elim hk_ (fun hs_ => Or.elim hs_ (fun hs_ => hs_.1) (fun hs_ => hs_.1)) (fun hn_ => (Kd.fresh' (Kd.R_lt (by (with_reducible repeat first | apply rwA | apply rwN | apply rwD); exact HO_460001.out)) k_ hn_)), Or.elim hk_ (fun hs_ => Or.elim hs_ (fun hs_ => hs_.2.1) (fun hs_ => hs_.2.1)) (fun hn_ => (Kd.fresh' (Kd.R_lt (by (with_reducible repeat first | apply rwA | apply rwN | apply rwD); exact HO_460002.out)) k_ hn_)), Or.elim hk_ (fun hs_ => Or.elim hs_ (fun hs_ => hs_.2.2.1) (fun hs_ => hs_.2.2.1)) (fun hn_ => (Kd.freshB (g := gb459) (o := .cells #[.int .i64 t451, .slice Ao16 t452.length co16, .slice Ao17 t455.length co17] 32 (0, 0)) (by (with_reducible repeat first | apply bkN | apply bkD | apply bkA); exact BK459.out) k_ hn_)), Or.elim hk_ (fun hs_ => Or.elim hs_ (fun hs_ => hs_.2.2.2) (fun hs_ => hs_.2.2.2)) (fun hn_ => (Kd.freshB (g := gb469) (o := .cells #[.int .i64 x470000_1, .slice Ao66 x470001_1.length co66, .slice Ao67 x470002_1.length co67] 50 (0, 0)) (by (with_reducible repeat first | apply bkN | apply bkD | apply bkA); exact BK469.out) k_ hn_))⟩)) (below_size (by repeat (first | (with_reducible first | exact HB.out | apply bwA | apply bwN | apply bwD | refine bs_ ?_ GE459.out | refine bs_ ?_ GE469.out) | exact HB.out)))); have n5_ := am_ (Kd.V_lower (Kd.V_mono (ok' := fun k_ => some k_ ≠ (.slice Ao16 t452.length co16 : Value).ownBlock ∧ some k_ ≠ (.slice Ao17 t455.length co17 : Value).ownBlock ∧ k_ ≠ gb459 ∧ k_ ≠ gb469) ho1 (fun k_ hk_ => ⟨Or.elim hk_ (fun hs_ => Or.elim hs_ (fun hs_ => hs_.1) (fun hs_ => hs_.1)) (fun hn_ => (Kd.fresh' (Kd.R_lt (by (with_reducible repeat first | apply rwA | apply rwN | apply rwD); exact HO_460001.out)) k_ hn_)), Or.elim hk_ (fun hs_ => Or.elim hs_ (fun hs_ => hs_.2.1) (fun hs_ => hs_.2.1)) (fun hn_ => (Kd.fresh' (Kd.R_lt (by (with_reducible repeat first | apply rwA | apply rwN | apply rwD); exact HO_460002.out)) k_ hn_)), Or.elim hk_ (fun hs_ => Or.elim hs_ (fun hs_ => hs_.2.2.1) (fun hs_ => hs_.2.2.1)) (fun hn_ => (Kd.freshB (g := gb459) (o := .cells #[.int .i64 t451, .slice Ao16 t452.length co16, .slice Ao17 t455.length co17] 32 (0, 0)) (by (with_reducible repeat first | apply bkN | apply bkD | apply bkA); exact BK459.out) k_ hn_)), Or.elim hk_ (fun hs_ => Or.elim hs_ (fun hs_ => hs_.2.2.2) (fun hs_ => hs_.2.2.2)) (fun hn_ => (Kd.freshB (g := gb469) (o := .cells #[.int .i64 x470000_1, .slice Ao66 x470001_1.length co66, .slice Ao67 x470002_1.length co67] 50 (0, 0)) (by (with_reducible repeat first | apply bkN | apply bkD | apply bkA); exact BK469.out) k_ hn_))⟩)) (below_size (by repeat (first | (with_reducible first | exact HB.out | apply bwA | apply bwN | apply bwD | refine bs_ ?_ GE459.out | refine bs_ ?_ GE469.out) | exact HB.out)))); have n6_ := am_ (blk_below (g := gb459) (o := .cells #[.int .i64 t451, .slice Ao16 t452.length co16, .slice Ao17 t455.length co17] 32 (0, 0)) (by (with_reducible repeat first | apply bkN | apply bkD | apply bkA); exact BK459.out) hb); have n7_ := am_ (blk_below (g := gb469) (o := .cells #[.int .i64 x470000_1, .slice Ao66 x470001_1.length co66, .slice Ao67 x470002_1.length co67] 50 (0, 0)) (by (with_reducible repeat first | apply bkN | apply bkD | apply bkA); exact BK469.out) hb); have n8_ := am_ (below_step (by repeat (first | (with_reducible first | exact HB.out | apply bwA | apply bwN | apply bwD | refine bs_ ?_ GE459.out | refine bs_ ?_ GE469.out) | exact HB.out)) hb); clear HO_460001; clear HO_460002; clear HO_470001; clear HO_470002; clear BK459; clear BK469; clear HB; have HO_460001 := n0_; have HO_460002 := n1_; have HO_470001 := n2_; have HO_470002 := n3_; have HO489 := n4_; have HO492 := n5_; have BK459 := n6_; have BK469 := n7_; have HB := n8_; clear n0_ n1_ n2_ n3_ n4_ n5_ n6_ n7_ n8_; (try clear hb); (try clear hb2); (try clear hk); (try clear hi); (try clear ho0); (try clear ho1)) | ((with_reducible refine gate_dst (N := 21) rfl ?_); (try (refine gate_guard (by rfl) ?_; dsimp only)); refine box_event ?hg (N := 21) ?hd (cs := #[.int .i64 0, .slice none 0 0, .slice none 0 0]) (t := 50) ?hr ?_; (case hd => rfl); (case hg => rfl); (case hr => first | (go_simp; done) | (go_simp; rfl)); intro gb495 hg w69 hbox hb; have n0_ := am_ (Kd.R_below (by (with_reducible repeat first | apply rwA | apply rwN | apply rwD); exact HO_460001.out) hb); have n1_ := am_ (Kd.R_below (by (with_reducible repeat first | apply rwA | apply rwN | apply rwD); exact HO_460002.out) hb); have n2_ := am_ (Kd.V_below (Kd.V_elderB (by (with_reducible repeat (first | apply vA | apply vN | apply vD)); exact HO_470001.out) gb495 (Nat.le_of_eq hg.symm)) hb); have n3_ := am_ (Kd.V_below (Kd.V_elderB (by (with_reducible repeat (first | apply vA | apply vN | apply vD)); exact HO_470002.out) gb495 (Nat.le_of_eq hg.symm)) hb); have n4_ := am_ (Kd.V_below (Kd.V_elderB (by (with_reducible repeat (first | apply vA | apply vN | apply vD)); exact HO489.out) gb495 (Nat.le_of_eq hg.symm)) hb); have n5_ := am_ (Kd.V_below (Kd.V_elderB (by (with_reducible repeat (first | apply vA | apply vN | apply vD)); exact HO492.out) gb495 (Nat.le_of_eq hg.symm)) hb); have n6_ := am_ (blk_below (g := gb459) (o := .cells #[.int .i64 t451, .slice Ao16 t452.length co16, .slice Ao17 t455.length co17] 32 (0, 0)) (by (with_reducible repeat first | apply bkN | apply bkD | apply bkA); exact BK459.out) hb); have n7_ := am_ (blk_below (g := gb469) (o := .cells #[.int .i64 x470000_1, .slice Ao66 x470001_1.length co66, .slice Ao67 x470002_1.length co67] 50 (0, 0)) (by (with_reducible repeat first | apply bkN | apply bkD | apply bkA); exact BK469.out) hb); have n8_ := am_ (below_step (by repeat (first | (with_reducible first | exact HB.out | apply bwA | apply bwN | apply bwD | refine bs_ ?_ GE459.out | refine bs_ ?_ GE469.out) | exact HB.out)) hb); have n9_ := am_ (hbox); have n10_ := am_ ((by rw [hg]; exact (below_size (by repeat (first | (with_reducible first | exact HB.out | apply bwA | apply bwN | apply bwD | refine bs_ ?_ GE459.out | refine bs_ ?_ GE469.out) | exact HB.out))) : w.heap.size ≤ gb495)); have n11_ := am_ ((by rw [hg]; exact (below_size (by repeat (first | (with_reducible first | exact HB.out | apply bwA | apply bwN | apply bwD | refine bs_ ?_ GE459.out | refine bs_ ?_ GE469.out) | exact HB.out))) : w.heap.size ≤ gb495)); have n12_ := am_ ((by rw [hg]; exact Nat.ne_of_lt (blk_lt (g := gb459) (o := .cells #[.int .i64 t451, .slice Ao16 t452.length co16, .slice Ao17 t455.length co17] 32 (0, 0)) (by (with_reducible repeat first | apply bkN | apply bkD | apply bkA); exact BK459.out)) : gb459 ≠ gb495)); have n13_ := am_ ((by rw [hg]; exact Nat.ne_of_gt (blk_lt (g := gb459) (o := .cells #[.int .i64 t451, .slice Ao16 t452.length co16, .slice Ao17 t455.length co17] 32 (0, 0)) (by (with_reducible repeat first | apply bkN | apply bkD | apply bkA); exact BK459.out)) : gb495 ≠ gb459)); have n14_ := am_ ((by rw [hg]; exact Nat.ne_of_lt (blk_lt (g := gb469) (o := .cells #[.int .i64 x470000_1, .slice Ao66 x470001_1.length co66, .slice Ao67 x470002_1.length co67] 50 (0, 0)) (by (with_reducible repeat first | apply bkN | apply bkD | apply bkA); exact BK469.out)) : gb469 ≠ gb495)); have n15_ := am_ ((by rw [hg]; exact Nat.ne_of_gt (blk_lt (g := gb469) (o := .cells #[.int .i64 x470000_1, .slice Ao66 x470001_1.length co66, .slice Ao67 x470002_1.length co67] 50 (0, 0)) (by (with_reducible repeat first | apply bkN | apply bkD | apply bkA); exact BK469.out)) : gb495 ≠ gb469)); clear HO_460001; clear HO_460002; clear HO_470001; clear HO_470002; clear HO489; clear HO492; clear BK459; clear BK469; clear HB; have HO_460001 := n0_; have HO_460002 := n1_; have HO_470001 := n2_; have HO_470002 := n3_; have HO489 := n4_; have HO492 := n5_; have BK459 := n6_; have BK469 := n7_; have HB := n8_; have BK495 := n9_; have GW495 := n10_; have GE495 := n11_; have NB459_495 := n12_; have NB495_459 := n13_; have NB469_495 := n14_; have NB495_469 := n15_; clear n0_ n1_ n2_ n3_ n4_ n5_ n6_ n7_ n8_ n9_ n10_ n11_ n12_ n13_ n14_ n15_; clear hb hbox hg; have hnb70 := NB495_459.out; have hnc70 := NB459_495.out; have hnb71 := NB495_469.out; have hnc71 := NB469_495.out; have hcz72_0 : w69.cell? ⟨gb495, 0, none⟩ = some (.int .i64 0) := (blk_cell BK495.out 0).trans rfl; have hcz72_1 : w69.cell? ⟨gb495, 1, none⟩ = some (.slice none 0 0) := (blk_cell BK495.out 1).trans rfl; have hcz72_2 : w69.cell? ⟨gb495, 2, none⟩ = some (.slice none 0 0) := (blk_cell BK495.out 2).trans rfl; have hfz72_0 := blk_frozen BK495.out 0; have hfz72_1 := blk_frozen BK495.out 1; have hfz72_2 := blk_frozen BK495.out 2; obtain ⟨Ao73, co73, eo73⟩ := Kd.V_slice HO489.out; subst eo73; obtain ⟨Ao74, co74, eo74⟩ := Kd.V_slice HO492.out; subst eo74) | ((with_reducible refine gate_store (t := 50) (p := 21) rfl ?_); refine store_event (t := 50) (p := 21) (v := ?vo_w75) (w1 := (((w69.setCell ⟨gb495, 0, none⟩ (.int .i64 t486)).setCell ⟨gb495, 1, none⟩ (.slice Ao73 t487.length co73)).setCell ⟨gb495, 2, none⟩ (.slice Ao74 t490.length co74))) ?hg ?ho ?hn ?hr ?_; (case ho => rfl); (case hg => rfl); (case hn => rfl); (case hr => first | (go_simp; done) | (go_simp; rfl)); intro w75 hw; have n0_ : Aside0 (Kd.R Kd.string 9 w75 w.heap.size (fun _ => True) (.slice Ao16 t452.length co16) t452) := ⟨(by rw [hw]; exact (by (with_reducible repeat first | apply rwA | apply rwN | apply rwD); exact Kd.R_mono (rF gb495 2 (rF gb495 1 (rF gb495 0 (Kd.R_types HO_460001.out BK495.out (by decide)) sn_ (.int .i64 t486)) sn_ (.slice Ao73 t487.length co73)) sn_ (.slice Ao74 t490.length co74)) (fun _ hk => trivial)))⟩; have n1_ : Aside0 (Kd.R Kd.bool 4 w75 w.heap.size (fun _ => True) (.slice Ao17 t455.length co17) t455) := ⟨(by rw [hw]; exact (by (with_reducible repeat first | apply rwA | apply rwN | apply rwD); exact Kd.R_mono (rF gb495 2 (rF gb495 1 (rF gb495 0 (Kd.R_types HO_460002.out BK495.out (by decide)) sn_ (.int .i64 t486)) sn_ (.slice Ao73 t487.length co73)) sn_ (.slice Ao74 t490.length co74)) (fun _ hk => trivial)))⟩; have n2_ : Aside0 (Kd.V Kd.string 9 w75 w.heap.size (fun k_ => some k_ ≠ (.slice Ao16 t452.length co16 : Value).ownBlock ∧ some k_ ≠ (.slice Ao17 t455.length co17 : Value).ownBlock ∧ k_ ≠ gb459 ∧ k_ ≠ gb469 ∧ k_ ≠ gb495) (.slice Ao66 x470001_1.length co66) x470001_1) := ⟨(by rw [hw]; exact (by (with_reducible repeat (first | apply vA | apply vN | apply vD)); exact Kd.V_mono (vF gb495 2 (vF gb495 1 (vF gb495 0 (Kd.V_mono HO_470001.out (fun k_ hk => (⟨hk, hk.2⟩ : _ ∧ k_ ≠ gb495))) sn_ (.int .i64 t486)) sn_ (.slice Ao73 t487.length co73)) sn_ (.slice Ao74 t490.length co74)) (fun _ hk => ⟨hk.1.1.1, ⟨hk.1.1.2.1, ⟨hk.1.1.2.2.1, ⟨hk.1.1.2.2.2, hk.1.2⟩⟩⟩⟩)))⟩; have n3_ : Aside0 (Kd.V Kd.bool 4 w75 w.heap.size (fun k_ => some k_ ≠ (.slice Ao16 t452.length co16 : Value).ownBlock ∧ some k_ ≠ (.slice Ao17 t455.length co17 : Value).ownBlock ∧ k_ ≠ gb459 ∧ k_ ≠ gb469 ∧ k_ ≠ gb495) (.slice Ao67 x470002_1.length co67) x470002_1) := ⟨(by rw [hw]; exact (by (with_reducible repeat (first | apply vA | apply vN | apply vD)); exact Kd.V_mono (vF gb495 2 (vF gb495 1 (vF gb495 0 (Kd.V_mono HO_470002.out (fun k_ hk => (⟨hk, hk.2⟩ : _ ∧ k_ ≠ gb495))) sn_ (.int .i64 t486)) sn_ (.slice Ao73 t487.length co73)) sn_ (.slice Ao74 t490.length co74)) (fun _ hk => ⟨hk.1.1.1, ⟨hk.1.1.2.1, ⟨hk.1.1.2.2.1, ⟨hk.1.1.2.2.2, hk.1.2⟩⟩⟩⟩)))⟩; have n4_ : Aside0 (Kd.V Kd.string 9 w75 w.heap.size (fun k_ => some k_ ≠ (.slice Ao16 t452.length co16 : Value).ownBlock ∧ some k_ ≠ (.slice Ao17 t455.length co17 : Value).ownBlock ∧ k_ ≠ gb459 ∧ k_ ≠ gb469 ∧ k_ ≠ gb495) (.slice Ao73 t487.length co73) t487) := ⟨(by rw [hw]; exact (by (with_reducible repeat (first | apply vA | apply vN | apply vD)); exact Kd.V_mono (vF gb495 2 (vF gb495 1 (vF gb495 0 (Kd.V_mono HO489.out (fun k_ hk => (⟨hk, hk.2⟩ : _ ∧ k_ ≠ gb495))) sn_ (.int .i64 t486)) sn_ (.slice Ao73 t487.length co73)) sn_ (.slice Ao74 t490.length co74)) (fun _ hk => ⟨hk.1.1.1, ⟨hk.1.1.2.1, ⟨hk.1.1.2.2.1, ⟨hk.1.1.2.2.2, hk.1.2⟩⟩⟩⟩)))⟩; have n5_ : Aside0 (Kd.V Kd.bool 4 w75 w.heap.size (fun k_ => some k_ ≠ (.slice Ao16 t452.length co16 : Value).ownBlock ∧ some k_ ≠ (.slice Ao17 t455.length co17 : Value).ownBlock ∧ k_ ≠ gb459 ∧ k_ ≠ gb469 ∧ k_ ≠ gb495) (.slice Ao74 t490.length co74) t490) := ⟨(by rw [hw]; exact (by (with_reducible repeat (first | apply vA | apply vN | apply vD)); exact Kd.V_mono (vF gb495 2 (vF gb495 1 (vF gb495 0 (Kd.V_mono HO492.out (fun k_ hk => (⟨hk, hk.2⟩ : _ ∧ k_ ≠ gb495))) sn_ (.int .i64 t486)) sn_ (.slice Ao73 t487.length co73)) sn_ (.slice Ao74 t490.length co74)) (fun _ hk => ⟨hk.1.1.1, ⟨hk.1.1.2.1, ⟨hk.1.1.2.2.1, ⟨hk.1.1.2.2.2, hk.1.2⟩⟩⟩⟩)))⟩; have n6_ : Aside0 (w75.heap[gb459]? = some (.cells #[.int .i64 t451, .slice Ao16 t452.length co16, .slice Ao17 t455.length co17] 32 (0, 0))) := ⟨(by rw [hw]; exact (by (with_reducible repeat first | apply bkN | apply bkD | apply bkA); refine blk_far ?_ NB459_495.out _; (with_reducible repeat first | apply bkN | apply bkD | apply bkA); refine blk_far ?_ NB459_495.out _; (with_reducible repeat first | apply bkN | apply bkD | apply bkA); refine blk_far ?_ NB459_495.out _; (with_reducible repeat first | apply bkN | apply bkD | apply bkA); exact BK459.out))⟩; have n7_ : Aside0 (w75.heap[gb469]? = some (.cells #[.int .i64 x470000_1, .slice Ao66 x470001_1.length co66, .slice Ao67 x470002_1.length co67] 50 (0, 0))) := ⟨(by rw [hw]; exact (by (with_reducible repeat first | apply bkN | apply bkD | apply bkA); refine blk_far ?_ NB469_495.out _; (with_reducible repeat first | apply bkN | apply bkD | apply bkA); refine blk_far ?_ NB469_495.out _; (with_reducible repeat first | apply bkN | apply bkD | apply bkA); refine blk_far ?_ NB469_495.out _; (with_reducible repeat first | apply bkN | apply bkD | apply bkA); exact BK469.out))⟩; have n8_ : Aside0 (w75.heap[gb495]? = some (.cells #[.int .i64 t486, .slice Ao73 t487.length co73, .slice Ao74 t490.length co74] 50 (0, 0))) := ⟨(by rw [hw]; exact (by (with_reducible repeat first | apply bkN | apply bkD | apply bkA); refine blk_put (cs := #[.int .i64 t486, .slice Ao73 t487.length co73, .slice none 0 0]) ?_ 2 _ rfl; (with_reducible repeat first | apply bkN | apply bkD | apply bkA); refine blk_put (cs := #[.int .i64 t486, .slice none 0 0, .slice none 0 0]) ?_ 1 _ rfl; (with_reducible repeat first | apply bkN | apply bkD | apply bkA); refine blk_put (cs := #[.int .i64 0, .slice none 0 0, .slice none 0 0]) ?_ 0 _ rfl; (with_reducible repeat first | apply bkN | apply bkD | apply bkA); exact BK495.out))⟩; have n9_ : Aside0 (Below w.heap.size w w75) := ⟨(by rw [hw]; exact (by repeat (first | (with_reducible first | exact HB.out | apply bwA | apply bwN | apply bwD | refine bs_ ?_ GE459.out | refine bs_ ?_ GE469.out | refine bs_ ?_ GE495.out) | exact HB.out)))⟩; clear hw; clear HO_460001; clear HO_460002; clear HO_470001; clear HO_470002; clear HO489; clear HO492; clear BK459; clear BK469; clear BK495; clear HB; have HO_460001 := n0_; have HO_460002 := n1_; have HO_470001 := n2_; have HO_470002 := n3_; have HO489 := n4_; have HO492 := n5_; have BK459 := n6_; have BK469 := n7_; have BK495 := n8_; have HB := n9_; clear n0_ n1_ n2_ n3_ n4_ n5_ n6_ n7_ n8_ n9_; have hcz76_0 : w75.cell? ⟨gb469, 0, none⟩ = some (.int .i64 x470000_1) := (blk_cell BK469.out 0).trans rfl; have hcz76_1 : w75.cell? ⟨gb469, 1, none⟩ = some (.slice Ao66 x470001_1.length co66) := (blk_cell BK469.out 1).trans rfl; have hcz76_2 : w75.cell? ⟨gb469, 2, none⟩ = some (.slice Ao67 x470002_1.length co67) := (blk_cell BK469.out 2).trans rfl; have hfz76_0 := blk_frozen BK469.out 0; have hfz76_1 := blk_frozen BK469.out 1; have hfz76_2 := blk_frozen BK469.out 2) | ((with_reducible refine gate_callee (f := 25) rfl ?_); refine goesL_ (some 112) rfl rfl Try.func25 (by kernel_rfl) rfl #[.agg #[.int .i64 x470000_1, .slice Ao66 x470001_1.length co66, .slice Ao67 x470002_1.length co67], .agg #[.int .i64 (Go.bits .xor .i64 a0 1), .int .i64 a3, .int .i64 (t452.length : Int), .string t450]] rfl (by (try simp only [List.map_toArray, List.map_cons, List.map_nil]); first | done | rfl | (simp only [List.length_drop, List.length_take]; rfl)) ?_; (with_reducible refine (recv_Take.calls kj51 x470000_1 (fun k_ => (some k_ ≠ (.slice Ao16 t452.length co16 : Value).ownBlock ∧ (some k_ ≠ (.slice Ao17 t455.length co17 : Value).ownBlock ∧ (k_ ≠ gb459 ∧ (k_ ≠ gb469 ∧ k_ ≠ gb495))))) _ _ x470001_1 (fun k_ => (some k_ ≠ (.slice Ao16 t452.length co16 : Value).ownBlock ∧ (some k_ ≠ (.slice Ao17 t455.length co17 : Value).ownBlock ∧ (k_ ≠ gb459 ∧ (k_ ≠ gb469 ∧ k_ ≠ gb495))))) _ _ x470002_1 (Go.bits .xor .i64 a0 1) a3 (t452.length : Int) t450 t496 t497 t500 t503 t504 _ ?side1 ?side2 A60.out).mono ?_); (case side1 => exact HO_470001.out); (case side2 => exact HO_470002.out); rintro e w77 ⟨v498, v501, rfl, ho0, ho1, hb⟩; refine ⟨_, rfl, ?_⟩; have n0_ := am_ (Kd.R_below (by (with_reducible repeat first | apply rwA | apply rwN | apply rwD); exact HO_460001.out) hb); have n1_ := am_ (Kd.R_below (by (with_reducible repeat first | apply rwA | apply rwN | apply rwD); exact HO_460002.out) hb); have n2_ := am_ (Kd.V_below (by (with_reducible repeat (first | apply vA | apply vN | apply vD)); exact HO_470001.out) hb); have n3_ := am_ (Kd.V_below (by (with_reducible repeat (first | apply vA | apply vN | apply vD)); exact HO_470002.out) hb); have n4_ := am_ (Kd.V_below (by (with_reducible repeat (first | apply vA | apply vN | apply vD)); exact HO489.out) hb); have n5_ := am_ (Kd.V_below (by (with_reducible repeat (first | apply vA | apply vN | apply vD)); exact HO492.out) hb); have n6_ := am_ (Kd.V_lower (Kd.V_mono (ok' := fun k_ => some k_ ≠ (.slice Ao16 t452.length co16 : Value).ownBlock ∧ some k_ ≠ (.slice Ao17 t455.length co17 : Value).ownBlock ∧ k_ ≠ gb459 ∧ k_ ≠ gb469 ∧ k_ ≠ gb495) ho0 (fun k_ hk_ => ⟨Or.elim hk_ (fun hs_ => Or.elim hs_ (fun hs_ => hs_.1) (fun hs_ => hs_.1)) (fun hn_ => (Kd.fresh' (Kd.R_lt (by (with_reducible repeat first | apply rwA | apply rwN | apply rwD); exact HO_460001.out)) k_ hn_)), Or.elim hk_ (fun hs_ => Or.elim hs_ (fun hs_ => hs_.2.1) (fun hs_ => hs_.2.1)) (fun hn_ => (Kd.fresh' (Kd.R_lt (by (with_reducible repeat first | apply rwA | apply rwN | apply rwD); exact HO_460002.out)) k_ hn_)), Or.elim hk_ (fun hs_ => Or.elim hs_ (fun hs_ => hs_.2.2.1) (fun hs_ => hs_.2.2.1)) (fun hn_ => (Kd.freshB (g := gb459) (o := .cells #[.int .i64 t451, .slice Ao16 t452.length co16, .slice Ao17 t455.length co17] 32 (0, 0)) (by (with_reducible repeat first | apply bkN | apply bkD | apply bkA); exact BK459.out) k_ hn_)), Or.elim hk_ (fun hs_ => Or.elim hs_ (fun hs_ => hs_.2.2.2.1) (fun hs_ => hs_.2.2.2.1)) (fun hn_ => (Kd.freshB (g := gb469) (o := .cells #[.int .i64 x470000_1, .slice Ao66 x470001_1.length co66, .slice Ao67 x470002_1.length co67] 50 (0, 0)) (by (with_reducible repeat first | apply bkN | apply bkD | apply bkA); exact BK469.out) k_ hn_)), Or.elim hk_ (fun hs_ => Or.elim hs_ (fun hs_ => hs_.2.2.2.2) (fun hs_ => hs_.2.2.2.2)) (fun hn_ => (Kd.freshB (g := gb495) (o := .cells #[.int .i64 t486, .slice Ao73 t487.length co73, .slice Ao74 t490.length co74] 50 (0, 0)) (by (with_reducible repeat first | apply bkN | apply bkD | apply bkA); exact BK495.out) k_ hn_))⟩)) (below_size (by repeat (first | (with_reducible first | exact HB.out | apply bwA | apply bwN | apply bwD | refine bs_ ?_ GE459.out | refine bs_ ?_ GE469.out | refine bs_ ?_ GE495.out) | exact HB.out)))); have n7_ := am_ (Kd.V_lower (Kd.V_mono (ok' := fun k_ => some k_ ≠ (.slice Ao16 t452.length co16 : Value).ownBlock ∧ some k_ ≠ (.slice Ao17 t455.length co17 : Value).ownBlock ∧ k_ ≠ gb459 ∧ k_ ≠ gb469 ∧ k_ ≠ gb495) ho1 (fun k_ hk_ => ⟨Or.elim hk_ (fun hs_ => Or.elim hs_ (fun hs_ => hs_.1) (fun hs_ => hs_.1)) (fun hn_ => (Kd.fresh' (Kd.R_lt (by (with_reducible repeat first | apply rwA | apply rwN | apply rwD); exact HO_460001.out)) k_ hn_)), Or.elim hk_ (fun hs_ => Or.elim hs_ (fun hs_ => hs_.2.1) (fun hs_ => hs_.2.1)) (fun hn_ => (Kd.fresh' (Kd.R_lt (by (with_reducible repeat first | apply rwA | apply rwN | apply rwD); exact HO_460002.out)) k_ hn_)), Or.elim hk_ (fun hs_ => Or.elim hs_ (fun hs_ => hs_.2.2.1) (fun hs_ => hs_.2.2.1)) (fun hn_ => (Kd.freshB (g := gb459) (o := .cells #[.int .i64 t451, .slice Ao16 t452.length co16, .slice Ao17 t455.length co17] 32 (0, 0)) (by (with_reducible repeat first | apply bkN | apply bkD | apply bkA); exact BK459.out) k_ hn_)), Or.elim hk_ (fun hs_ => Or.elim hs_ (fun hs_ => hs_.2.2.2.1) (fun hs_ => hs_.2.2.2.1)) (fun hn_ => (Kd.freshB (g := gb469) (o := .cells #[.int .i64 x470000_1, .slice Ao66 x470001_1.length co66, .slice Ao67 x470002_1.length co67] 50 (0, 0)) (by (with_reducible repeat first | apply bkN | apply bkD | apply bkA); exact BK469.out) k_ hn_)), Or.elim hk_ (fun hs_ => Or.elim hs_ (fun hs_ => hs_.2.2.2.2) (fun hs_ => hs_.2.2.2.2)) (fun hn_ => (Kd.freshB (g := gb495) (o := .cells #[.int .i64 t486, .slice Ao73 t487.length co73, .slice Ao74 t490.length co74] 50 (0, 0)) (by (with_reducible repeat first | apply bkN | apply bkD | apply bkA); exact BK495.out) k_ hn_))⟩)) (below_size (by repeat (first | (with_reducible first | exact HB.out | apply bwA | apply bwN | apply bwD | refine bs_ ?_ GE459.out | refine bs_ ?_ GE469.out | refine bs_ ?_ GE495.out) | exact HB.out)))); have n8_ := am_ (blk_below (g := gb459) (o := .cells #[.int .i64 t451, .slice Ao16 t452.length co16, .slice Ao17 t455.length co17] 32 (0, 0)) (by (with_reducible repeat first | apply bkN | apply bkD | apply bkA); exact BK459.out) hb); have n9_ := am_ (blk_below (g := gb469) (o := .cells #[.int .i64 x470000_1, .slice Ao66 x470001_1.length co66, .slice Ao67 x470002_1.length co67] 50 (0, 0)) (by (with_reducible repeat first | apply bkN | apply bkD | apply bkA); exact BK469.out) hb); have n10_ := am_ (blk_below (g := gb495) (o := .cells #[.int .i64 t486, .slice Ao73 t487.length co73, .slice Ao74 t490.length co74] 50 (0, 0)) (by (with_reducible repeat first | apply bkN | apply bkD | apply bkA); exact BK495.out) hb); have n11_ := am_ (below_step (by repeat (first | (with_reducible first | exact HB.out | apply bwA | apply bwN | apply bwD | refine bs_ ?_ GE459.out | refine bs_ ?_ GE469.out | refine bs_ ?_ GE495.out) | exact HB.out)) hb); clear HO_460001; clear HO_460002; clear HO_470001; clear HO_470002; clear HO489; clear HO492; clear BK459; clear BK469; clear BK495; clear HB; have HO_460001 := n0_; have HO_460002 := n1_; have HO_470001 := n2_; have HO_470002 := n3_; have HO489 := n4_; have HO492 := n5_; have HO499 := n6_; have HO502 := n7_; have BK459 := n8_; have BK469 := n9_; have BK495 := n10_; have HB := n11_; clear n0_ n1_ n2_ n3_ n4_ n5_ n6_ n7_ n8_ n9_ n10_ n11_; (try clear hb); (try clear hb2); (try clear hk); (try clear hi); (try clear ho0); (try clear ho1)) | ((with_reducible refine gate_dst (N := 24) rfl ?_); (try (refine gate_guard (by rfl) ?_; dsimp only)); refine box_event ?hg (N := 24) ?hd (cs := #[.int .i64 0, .slice none 0 0, .slice none 0 0]) (t := 50) ?hr ?_; (case hd => rfl); (case hg => rfl); (case hr => first | (go_simp; done) | (go_simp; rfl)); intro gb505 hg w78 hbox hb; have n0_ := am_ (Kd.R_below (by (with_reducible repeat first | apply rwA | apply rwN | apply rwD); exact HO_460001.out) hb); have n1_ := am_ (Kd.R_below (by (with_reducible repeat first | apply rwA | apply rwN | apply rwD); exact HO_460002.out) hb); have n2_ := am_ (Kd.V_below (Kd.V_elderB (by (with_reducible repeat (first | apply vA | apply vN | apply vD)); exact HO_470001.out) gb505 (Nat.le_of_eq hg.symm)) hb); have n3_ := am_ (Kd.V_below (Kd.V_elderB (by (with_reducible repeat (first | apply vA | apply vN | apply vD)); exact HO_470002.out) gb505 (Nat.le_of_eq hg.symm)) hb); have n4_ := am_ (Kd.V_below (Kd.V_elderB (by (with_reducible repeat (first | apply vA | apply vN | apply vD)); exact HO489.out) gb505 (Nat.le_of_eq hg.symm)) hb); have n5_ := am_ (Kd.V_below (Kd.V_elderB (by (with_reducible repeat (first | apply vA | apply vN | apply vD)); exact HO492.out) gb505 (Nat.le_of_eq hg.symm)) hb); have n6_ := am_ (Kd.V_below (Kd.V_elderB (by (with_reducible repeat (first | apply vA | apply vN | apply vD)); exact HO499.out) gb505 (Nat.le_of_eq hg.symm)) hb); have n7_ := am_ (Kd.V_below (Kd.V_elderB (by (with_reducible repeat (first | apply vA | apply vN | apply vD)); exact HO502.out) gb505 (Nat.le_of_eq hg.symm)) hb); have n8_ := am_ (blk_below (g := gb459) (o := .cells #[.int .i64 t451, .slice Ao16 t452.length co16, .slice Ao17 t455.length co17] 32 (0, 0)) (by (with_reducible repeat first | apply bkN | apply bkD | apply bkA); exact BK459.out) hb); have n9_ := am_ (blk_below (g := gb469) (o := .cells #[.int .i64 x470000_1, .slice Ao66 x470001_1.length co66, .slice Ao67 x470002_1.length co67] 50 (0, 0)) (by (with_reducible repeat first | apply bkN | apply bkD | apply bkA); exact BK469.out) hb); have n10_ := am_ (blk_below (g := gb495) (o := .cells #[.int .i64 t486, .slice Ao73 t487.length co73, .slice Ao74 t490.length co74] 50 (0, 0)) (by (with_reducible repeat first | apply bkN | apply bkD | apply bkA); exact BK495.out) hb); have n11_ := am_ (below_step (by repeat (first | (with_reducible first | exact HB.out | apply bwA | apply bwN | apply bwD | refine bs_ ?_ GE459.out | refine bs_ ?_ GE469.out | refine bs_ ?_ GE495.out) | exact HB.out)) hb); have n12_ := am_ (hbox); have n13_ := am_ ((by rw [hg]; exact (below_size (by repeat (first | (with_reducible first | exact HB.out | apply bwA | apply bwN | apply bwD | refine bs_ ?_ GE459.out | refine bs_ ?_ GE469.out | refine bs_ ?_ GE495.out) | exact HB.out))) : w.heap.size ≤ gb505)); have n14_ := am_ ((by rw [hg]; exact (below_size (by repeat (first | (with_reducible first | exact HB.out | apply bwA | apply bwN | apply bwD | refine bs_ ?_ GE459.out | refine bs_ ?_ GE469.out | refine bs_ ?_ GE495.out) | exact HB.out))) : w.heap.size ≤ gb505)); have n15_ := am_ ((by rw [hg]; exact Nat.ne_of_lt (blk_lt (g := gb459) (o := .cells #[.int .i64 t451, .slice Ao16 t452.length co16, .slice Ao17 t455.length co17] 32 (0, 0)) (by (with_reducible repeat first | apply bkN | apply bkD | apply bkA); exact BK459.out)) : gb459 ≠ gb505)); have n16_ := am_ ((by rw [hg]; exact Nat.ne_of_gt (blk_lt (g := gb459) (o := .cells #[.int .i64 t451, .slice Ao16 t452.length co16, .slice Ao17 t455.length co17] 32 (0, 0)) (by (with_reducible repeat first | apply bkN | apply bkD | apply bkA); exact BK459.out)) : gb505 ≠ gb459)); have n17_ := am_ ((by rw [hg]; exact Nat.ne_of_lt (blk_lt (g := gb469) (o := .cells #[.int .i64 x470000_1, .slice Ao66 x470001_1.length co66, .slice Ao67 x470002_1.length co67] 50 (0, 0)) (by (with_reducible repeat first | apply bkN | apply bkD | apply bkA); exact BK469.out)) : gb469 ≠ gb505)); have n18_ := am_ ((by rw [hg]; exact Nat.ne_of_gt (blk_lt (g := gb469) (o := .cells #[.int .i64 x470000_1, .slice Ao66 x470001_1.length co66, .slice Ao67 x470002_1.length co67] 50 (0, 0)) (by (with_reducible repeat first | apply bkN | apply bkD | apply bkA); exact BK469.out)) : gb505 ≠ gb469)); have n19_ := am_ ((by rw [hg]; exact Nat.ne_of_lt (blk_lt (g := gb495) (o := .cells #[.int .i64 t486, .slice Ao73 t487.length co73, .slice Ao74 t490.length co74] 50 (0, 0)) (by (with_reducible repeat first | apply bkN | apply bkD | apply bkA); exact BK495.out)) : gb495 ≠ gb505)); have n20_ := am_ ((by rw [hg]; exact Nat.ne_of_gt (blk_lt (g := gb495) (o := .cells #[.int .i64 t486, .slice Ao73 t487.length co73, .slice Ao74 t490.length co74] 50 (0, 0)) (by (with_reducible repeat first | apply bkN | apply bkD | apply bkA); exact BK495.out)) : gb505 ≠ gb495)); clear HO_460001; clear HO_460002; clear HO_470001; clear HO_470002; clear HO489; clear HO492; clear HO499; clear HO502; clear BK459; clear BK469; clear BK495; clear HB; have HO_460001 := n0_; have HO_460002 := n1_; have HO_470001 := n2_; have HO_470002 := n3_; have HO489 := n4_; have HO492 := n5_; have HO499 := n6_; have HO502 := n7_; have BK459 := n8_; have BK469 := n9_; have BK495 := n10_; have HB := n11_; have BK505 := n12_; have GW505 := n13_; have GE505 := n14_; have NB459_505 := n15_; have NB505_459 := n16_; have NB469_505 := n17_; have NB505_469 := n18_; have NB495_505 := n19_; have NB505_495 := n20_; clear n0_ n1_ n2_ n3_ n4_ n5_ n6_ n7_ n8_ n9_ n10_ n11_ n12_ n13_ n14_ n15_ n16_ n17_ n18_ n19_ n20_; clear hb hbox hg; have hnb79 := NB505_459.out; have hnc79 := NB459_505.out; have hnb80 := NB505_469.out; have hnc80 := NB469_505.out; have hnb81 := NB505_495.out; have hnc81 := NB495_505.out; have hcz82_0 : w78.cell? ⟨gb505, 0, none⟩ = some (.int .i64 0) := (blk_cell BK505.out 0).trans rfl; have hcz82_1 : w78.cell? ⟨gb505, 1, none⟩ = some (.slice none 0 0) := (blk_cell BK505.out 1).trans rfl; have hcz82_2 : w78.cell? ⟨gb505, 2, none⟩ = some (.slice none 0 0) := (blk_cell BK505.out 2).trans rfl; have hfz82_0 := blk_frozen BK505.out 0; have hfz82_1 := blk_frozen BK505.out 1; have hfz82_2 := blk_frozen BK505.out 2; obtain ⟨Ao83, co83, eo83⟩ := Kd.V_slice HO499.out; subst eo83; obtain ⟨Ao84, co84, eo84⟩ := Kd.V_slice HO502.out; subst eo84) | ((with_reducible refine gate_store (t := 50) (p := 24) rfl ?_); refine store_event (t := 50) (p := 24) (v := ?vo_w85) (w1 := (((w78.setCell ⟨gb505, 0, none⟩ (.int .i64 t496)).setCell ⟨gb505, 1, none⟩ (.slice Ao83 t497.length co83)).setCell ⟨gb505, 2, none⟩ (.slice Ao84 t500.length co84))) ?hg ?ho ?hn ?hr ?_; (case ho => rfl); (case hg => rfl); (case hn => rfl); (case hr => first | (go_simp; done) | (go_simp; rfl)); intro w85 hw; have n0_ : Aside0 (Kd.R Kd.string 9 w85 w.heap.size (fun _ => True) (.slice Ao16 t452.length co16) t452) := ⟨(by rw [hw]; exact (by (with_reducible repeat first | apply rwA | apply rwN | apply rwD); exact Kd.R_mono (rF gb505 2 (rF gb505 1 (rF gb505 0 (Kd.R_types HO_460001.out BK505.out (by decide)) sn_ (.int .i64 t496)) sn_ (.slice Ao83 t497.length co83)) sn_ (.slice Ao84 t500.length co84)) (fun _ hk => trivial)))⟩; have n1_ : Aside0 (Kd.R Kd.bool 4 w85 w.heap.size (fun _ => True) (.slice Ao17 t455.length co17) t455) := ⟨(by rw [hw]; exact (by (with_reducible repeat first | apply rwA | apply rwN | apply rwD); exact Kd.R_mono (rF gb505 2 (rF gb505 1 (rF gb505 0 (Kd.R_types HO_460002.out BK505.out (by decide)) sn_ (.int .i64 t496)) sn_ (.slice Ao83 t497.length co83)) sn_ (.slice Ao84 t500.length co84)) (fun _ hk => trivial)))⟩; have n2_ : Aside0 (Kd.V Kd.string 9 w85 w.heap.size (fun k_ => some k_ ≠ (.slice Ao16 t452.length co16 : Value).ownBlock ∧ some k_ ≠ (.slice Ao17 t455.length co17 : Value).ownBlock ∧ k_ ≠ gb459 ∧ k_ ≠ gb469 ∧ k_ ≠ gb495 ∧ k_ ≠ gb505) (.slice Ao66 x470001_1.length co66) x470001_1) := ⟨(by rw [hw]; exact (by (with_reducible repeat (first | apply vA | apply vN | apply vD)); exact Kd.V_mono (vF gb505 2 (vF gb505 1 (vF gb505 0 (Kd.V_mono HO_470001.out (fun k_ hk => (⟨hk, hk.2⟩ : _ ∧ k_ ≠ gb505))) sn_ (.int .i64 t496)) sn_ (.slice Ao83 t497.length co83)) sn_ (.slice Ao84 t500.length co84)) (fun _ hk => ⟨hk.1.1.1, ⟨hk.1.1.2.1, ⟨hk.1.1.2.2.1, ⟨hk.1.1.2.2.2.1, ⟨hk.1.1.2.2.2.2, hk.1.2⟩⟩⟩⟩⟩)))⟩; have n3_ : Aside0 (Kd.V Kd.bool 4 w85 w.heap.size (fun k_ => some k_ ≠ (.slice Ao16 t452.length co16 : Value).ownBlock ∧ some k_ ≠ (.slice Ao17 t455.length co17 : Value).ownBlock ∧ k_ ≠ gb459 ∧ k_ ≠ gb469 ∧ k_ ≠ gb495 ∧ k_ ≠ gb505) (.slice Ao67 x470002_1.length co67) x470002_1) := ⟨(by rw [hw]; exact (by (with_reducible repeat (first | apply vA | apply vN | apply vD)); exact Kd.V_mono (vF gb505 2 (vF gb505 1 (vF gb505 0 (Kd.V_mono HO_470002.out (fun k_ hk => (⟨hk, hk.2⟩ : _ ∧ k_ ≠ gb505))) sn_ (.int .i64 t496)) sn_ (.slice Ao83 t497.length co83)) sn_ (.slice Ao84 t500.length co84)) (fun _ hk => ⟨hk.1.1.1, ⟨hk.1.1.2.1, ⟨hk.1.1.2.2.1, ⟨hk.1.1.2.2.2.1, ⟨hk.1.1.2.2.2.2, hk.1.2⟩⟩⟩⟩⟩)))⟩; have n4_ : Aside0 (Kd.V Kd.string 9 w85 w.heap.size (fun k_ => some k_ ≠ (.slice Ao16 t452.length co16 : Value).ownBlock ∧ some k_ ≠ (.slice Ao17 t455.length co17 : Value).ownBlock ∧ k_ ≠ gb459 ∧ k_ ≠ gb469 ∧ k_ ≠ gb495 ∧ k_ ≠ gb505) (.slice Ao73 t487.length co73) t487) := ⟨(by rw [hw]; exact (by (with_reducible repeat (first | apply vA | apply vN | apply vD)); exact Kd.V_mono (vF gb505 2 (vF gb505 1 (vF gb505 0 (Kd.V_mono HO489.out (fun k_ hk => (⟨hk, hk.2⟩ : _ ∧ k_ ≠ gb505))) sn_ (.int .i64 t496)) sn_ (.slice Ao83 t497.length co83)) sn_ (.slice Ao84 t500.length co84)) (fun _ hk => ⟨hk.1.1.1, ⟨hk.1.1.2.1, ⟨hk.1.1.2.2.1, ⟨hk.1.1.2.2.2.1, ⟨hk.1.1.2.2.2.2, hk.1.2⟩⟩⟩⟩⟩)))⟩; have n5_ : Aside0 (Kd.V Kd.bool 4 w85 w.heap.size (fun k_ => some k_ ≠ (.slice Ao16 t452.length co16 : Value).ownBlock ∧ some k_ ≠ (.slice Ao17 t455.length co17 : Value).ownBlock ∧ k_ ≠ gb459 ∧ k_ ≠ gb469 ∧ k_ ≠ gb495 ∧ k_ ≠ gb505) (.slice Ao74 t490.length co74) t490) := ⟨(by rw [hw]; exact (by (with_reducible repeat (first | apply vA | apply vN | apply vD)); exact Kd.V_mono (vF gb505 2 (vF gb505 1 (vF gb505 0 (Kd.V_mono HO492.out (fun k_ hk => (⟨hk, hk.2⟩ : _ ∧ k_ ≠ gb505))) sn_ (.int .i64 t496)) sn_ (.slice Ao83 t497.length co83)) sn_ (.slice Ao84 t500.length co84)) (fun _ hk => ⟨hk.1.1.1, ⟨hk.1.1.2.1, ⟨hk.1.1.2.2.1, ⟨hk.1.1.2.2.2.1, ⟨hk.1.1.2.2.2.2, hk.1.2⟩⟩⟩⟩⟩)))⟩; have n6_ : Aside0 (Kd.V Kd.string 9 w85 w.heap.size (fun k_ => some k_ ≠ (.slice Ao16 t452.length co16 : Value).ownBlock ∧ some k_ ≠ (.slice Ao17 t455.length co17 : Value).ownBlock ∧ k_ ≠ gb459 ∧ k_ ≠ gb469 ∧ k_ ≠ gb495 ∧ k_ ≠ gb505) (.slice Ao83 t497.length co83) t497) := ⟨(by rw [hw]; exact (by (with_reducible repeat (first | apply vA | apply vN | apply vD)); exact Kd.V_mono (vF gb505 2 (vF gb505 1 (vF gb505 0 (Kd.V_mono HO499.out (fun k_ hk => (⟨hk, hk.2⟩ : _ ∧ k_ ≠ gb505))) sn_ (.int .i64 t496)) sn_ (.slice Ao83 t497.length co83)) sn_ (.slice Ao84 t500.length co84)) (fun _ hk => ⟨hk.1.1.1, ⟨hk.1.1.2.1, ⟨hk.1.1.2.2.1, ⟨hk.1.1.2.2.2.1, ⟨hk.1.1.2.2.2.2, hk.1.2⟩⟩⟩⟩⟩)))⟩; have n7_ : Aside0 (Kd.V Kd.bool 4 w85 w.heap.size (fun k_ => some k_ ≠ (.slice Ao16 t452.length co16 : Value).ownBlock ∧ some k_ ≠ (.slice Ao17 t455.length co17 : Value).ownBlock ∧ k_ ≠ gb459 ∧ k_ ≠ gb469 ∧ k_ ≠ gb495 ∧ k_ ≠ gb505) (.slice Ao84 t500.length co84) t500) := ⟨(by rw [hw]; exact (by (with_reducible repeat (first | apply vA | apply vN | apply vD)); exact Kd.V_mono (vF gb505 2 (vF gb505 1 (vF gb505 0 (Kd.V_mono HO502.out (fun k_ hk => (⟨hk, hk.2⟩ : _ ∧ k_ ≠ gb505))) sn_ (.int .i64 t496)) sn_ (.slice Ao83 t497.length co83)) sn_ (.slice Ao84 t500.length co84)) (fun _ hk => ⟨hk.1.1.1, ⟨hk.1.1.2.1, ⟨hk.1.1.2.2.1, ⟨hk.1.1.2.2.2.1, ⟨hk.1.1.2.2.2.2, hk.1.2⟩⟩⟩⟩⟩)))⟩; have n8_ : Aside0 (w85.heap[gb459]? = some (.cells #[.int .i64 t451, .slice Ao16 t452.length co16, .slice Ao17 t455.length co17] 32 (0, 0))) := ⟨(by rw [hw]; exact (by (with_reducible repeat first | apply bkN | apply bkD | apply bkA); refine blk_far ?_ NB459_505.out _; (with_reducible repeat first | apply bkN | apply bkD | apply bkA); refine blk_far ?_ NB459_505.out _; (with_reducible repeat first | apply bkN | apply bkD | apply bkA); refine blk_far ?_ NB459_505.out _; (with_reducible repeat first | apply bkN | apply bkD | apply bkA); exact BK459.out))⟩; have n9_ : Aside0 (w85.heap[gb469]? = some (.cells #[.int .i64 x470000_1, .slice Ao66 x470001_1.length co66, .slice Ao67 x470002_1.length co67] 50 (0, 0))) := ⟨(by rw [hw]; exact (by (with_reducible repeat first | apply bkN | apply bkD | apply bkA); refine blk_far ?_ NB469_505.out _; (with_reducible repeat first | apply bkN | apply bkD | apply bkA); refine blk_far ?_ NB469_505.out _; (with_reducible repeat first | apply bkN | apply bkD | apply bkA); refine blk_far ?_ NB469_505.out _; (with_reducible repeat first | apply bkN | apply bkD | apply bkA); exact BK469.out))⟩; have n10_ : Aside0 (w85.heap[gb495]? = some (.cells #[.int .i64 t486, .slice Ao73 t487.length co73, .slice Ao74 t490.length co74] 50 (0, 0))) := ⟨(by rw [hw]; exact (by (with_reducible repeat first | apply bkN | apply bkD | apply bkA); refine blk_far ?_ NB495_505.out _; (with_reducible repeat first | apply bkN | apply bkD | apply bkA); refine blk_far ?_ NB495_505.out _; (with_reducible repeat first | apply bkN | apply bkD | apply bkA); refine blk_far ?_ NB495_505.out _; (with_reducible repeat first | apply bkN | apply bkD | apply bkA); exact BK495.out))⟩; have n11_ : Aside0 (w85.heap[gb505]? = some (.cells #[.int .i64 t496, .slice Ao83 t497.length co83, .slice Ao84 t500.length co84] 50 (0, 0))) := ⟨(by rw [hw]; exact (by (with_reducible repeat first | apply bkN | apply bkD | apply bkA); refine blk_put (cs := #[.int .i64 t496, .slice Ao83 t497.length co83, .slice none 0 0]) ?_ 2 _ rfl; (with_reducible repeat first | apply bkN | apply bkD | apply bkA); refine blk_put (cs := #[.int .i64 t496, .slice none 0 0, .slice none 0 0]) ?_ 1 _ rfl; (with_reducible repeat first | apply bkN | apply bkD | apply bkA); refine blk_put (cs := #[.int .i64 0, .slice none 0 0, .slice none 0 0]) ?_ 0 _ rfl; (with_reducible repeat first | apply bkN | apply bkD | apply bkA); exact BK505.out))⟩; have n12_ : Aside0 (Below w.heap.size w w85) := ⟨(by rw [hw]; exact (by repeat (first | (with_reducible first | exact HB.out | apply bwA | apply bwN | apply bwD | refine bs_ ?_ GE459.out | refine bs_ ?_ GE469.out | refine bs_ ?_ GE495.out | refine bs_ ?_ GE505.out) | exact HB.out)))⟩; clear hw; clear HO_460001; clear HO_460002; clear HO_470001; clear HO_470002; clear HO489; clear HO492; clear HO499; clear HO502; clear BK459; clear BK469; clear BK495; clear BK505; clear HB; have HO_460001 := n0_; have HO_460002 := n1_; have HO_470001 := n2_; have HO_470002 := n3_; have HO489 := n4_; have HO492 := n5_; have HO499 := n6_; have HO502 := n7_; have BK459 := n8_; have BK469 := n9_; have BK495 := n10_; have BK505 := n11_; have HB := n12_; clear n0_ n1_ n2_ n3_ n4_ n5_ n6_ n7_ n8_ n9_ n10_ n11_ n12_; have hcz86_0 : w85.cell? ⟨gb469, 0, none⟩ = some (.int .i64 x470000_1) := (blk_cell BK469.out 0).trans rfl; have hcz86_1 : w85.cell? ⟨gb469, 1, none⟩ = some (.slice Ao66 x470001_1.length co66) := (blk_cell BK469.out 1).trans rfl; have hcz86_2 : w85.cell? ⟨gb469, 2, none⟩ = some (.slice Ao67 x470002_1.length co67) := (blk_cell BK469.out 2).trans rfl; have hfz86_0 := blk_frozen BK469.out 0; have hfz86_1 := blk_frozen BK469.out 1; have hfz86_2 := blk_frozen BK469.out 2) | ((with_reducible refine gate_callee (f := 25) rfl ?_); refine goesL_ (some 124) rfl rfl Try.func25 (by kernel_rfl) rfl #[.agg #[.int .i64 x470000_1, .slice Ao66 x470001_1.length co66, .slice Ao67 x470002_1.length co67], .agg #[.int .i64 a0, .int .i64 a3, .int .i64 (wrap64 ((t452.length : Int) + 1)), .string t450]] rfl (by (try simp only [List.map_toArray, List.map_cons, List.map_nil]); first | done | rfl | (simp only [List.length_drop, List.length_take]; rfl)) ?_; (with_reducible refine (recv_Take.calls kj51 x470000_1 (fun k_ => (some k_ ≠ (.slice Ao16 t452.length co16 : Value).ownBlock ∧ (some k_ ≠ (.slice Ao17 t455.length co17 : Value).ownBlock ∧ (k_ ≠ gb459 ∧ (k_ ≠ gb469 ∧ (k_ ≠ gb495 ∧ k_ ≠ gb505)))))) _ _ x470001_1 (fun k_ => (some k_ ≠ (.slice Ao16 t452.length co16 : Value).ownBlock ∧ (some k_ ≠ (.slice Ao17 t455.length co17 : Value).ownBlock ∧ (k_ ≠ gb459 ∧ (k_ ≠ gb469 ∧ (k_ ≠ gb495 ∧ k_ ≠ gb505)))))) _ _ x470002_1 a0 a3 (wrap64 ((t452.length : Int) + 1)) t450 t506 t507 t510 t513 t514 _ ?side1 ?side2 A61.out).mono ?_); (case side1 => exact HO_470001.out); (case side2 => exact HO_470002.out); rintro e w87 ⟨v508, v511, rfl, ho0, ho1, hb⟩; refine ⟨_, rfl, ?_⟩; have n0_ := am_ (Kd.R_below (by (with_reducible repeat first | apply rwA | apply rwN | apply rwD); exact HO_460001.out) hb); have n1_ := am_ (Kd.R_below (by (with_reducible repeat first | apply rwA | apply rwN | apply rwD); exact HO_460002.out) hb); have n2_ := am_ (Kd.V_below (by (with_reducible repeat (first | apply vA | apply vN | apply vD)); exact HO_470001.out) hb); have n3_ := am_ (Kd.V_below (by (with_reducible repeat (first | apply vA | apply vN | apply vD)); exact HO_470002.out) hb); have n4_ := am_ (Kd.V_below (by (with_reducible repeat (first | apply vA | apply vN | apply vD)); exact HO489.out) hb); have n5_ := am_ (Kd.V_below (by (with_reducible repeat (first | apply vA | apply vN | apply vD)); exact HO492.out) hb); have n6_ := am_ (Kd.V_below (by (with_reducible repeat (first | apply vA | apply vN | apply vD)); exact HO499.out) hb); have n7_ := am_ (Kd.V_below (by (with_reducible repeat (first | apply vA | apply vN | apply vD)); exact HO502.out) hb); have n8_ := am_ (Kd.V_lower (Kd.V_mono (ok' := fun k_ => some k_ ≠ (.slice Ao16 t452.length co16 : Value).ownBlock ∧ some k_ ≠ (.slice Ao17 t455.length co17 : Value).ownBlock ∧ k_ ≠ gb459 ∧ k_ ≠ gb469 ∧ k_ ≠ gb495 ∧ k_ ≠ gb505) ho0 (fun k_ hk_ => ⟨Or.elim hk_ (fun hs_ => Or.elim hs_ (fun hs_ => hs_.1) (fun hs_ => hs_.1)) (fun hn_ => (Kd.fresh' (Kd.R_lt (by (with_reducible repeat first | apply rwA | apply rwN | apply rwD); exact HO_460001.out)) k_ hn_)), Or.elim hk_ (fun hs_ => Or.elim hs_ (fun hs_ => hs_.2.1) (fun hs_ => hs_.2.1)) (fun hn_ => (Kd.fresh' (Kd.R_lt (by (with_reducible repeat first | apply rwA | apply rwN | apply rwD); exact HO_460002.out)) k_ hn_)), Or.elim hk_ (fun hs_ => Or.elim hs_ (fun hs_ => hs_.2.2.1) (fun hs_ => hs_.2.2.1)) (fun hn_ => (Kd.freshB (g := gb459) (o := .cells #[.int .i64 t451, .slice Ao16 t452.length co16, .slice Ao17 t455.length co17] 32 (0, 0)) (by (with_reducible repeat first | apply bkN | apply bkD | apply bkA); exact BK459.out) k_ hn_)), Or.elim hk_ (fun hs_ => Or.elim hs_ (fun hs_ => hs_.2.2.2.1) (fun hs_ => hs_.2.2.2.1)) (fun hn_ => (Kd.freshB (g := gb469) (o := .cells #[.int .i64 x470000_1, .slice Ao66 x470001_1.length co66, .slice Ao67 x470002_1.length co67] 50 (0, 0)) (by (with_reducible repeat first | apply bkN | apply bkD | apply bkA); exact BK469.out) k_ hn_)), Or.elim hk_ (fun hs_ => Or.elim hs_ (fun hs_ => hs_.2.2.2.2.1) (fun hs_ => hs_.2.2.2.2.1)) (fun hn_ => (Kd.freshB (g := gb495) (o := .cells #[.int .i64 t486, .slice Ao73 t487.length co73, .slice Ao74 t490.length co74] 50 (0, 0)) (by (with_reducible repeat first | apply bkN | apply bkD | apply bkA); exact BK495.out) k_ hn_)), Or.elim hk_ (fun hs_ => Or.elim hs_ (fun hs_ => hs_.2.2.2.2.2) (fun hs_ => hs_.2.2.2.2.2)) (fun hn_ => (Kd.freshB (g := gb505) (o := .cells #[.int .i64 t496, .slice Ao83 t497.length co83, .slice Ao84 t500.length co84] 50 (0, 0)) (by (with_reducible repeat first | apply bkN | apply bkD | apply bkA); exact BK505.out) k_ hn_))⟩)) (below_size (by repeat (first | (with_reducible first | exact HB.out | apply bwA | apply bwN | apply bwD | refine bs_ ?_ GE459.out | refine bs_ ?_ GE469.out | refine bs_ ?_ GE495.out | refine bs_ ?_ GE505.out) | exact HB.out)))); have n9_ := am_ (Kd.V_lower (Kd.V_mono (ok' := fun k_ => some k_ ≠ (.slice Ao16 t452.length co16 : Value).ownBlock ∧ some k_ ≠ (.slice Ao17 t455.length co17 : Value).ownBlock ∧ k_ ≠ gb459 ∧ k_ ≠ gb469 ∧ k_ ≠ gb495 ∧ k_ ≠ gb505) ho1 (fun k_ hk_ => ⟨Or.elim hk_ (fun hs_ => Or.elim hs_ (fun hs_ => hs_.1) (fun hs_ => hs_.1)) (fun hn_ => (Kd.fresh' (Kd.R_lt (by (with_reducible repeat first | apply rwA | apply rwN | apply rwD); exact HO_460001.out)) k_ hn_)), Or.elim hk_ (fun hs_ => Or.elim hs_ (fun hs_ => hs_.2.1) (fun hs_ => hs_.2.1)) (fun hn_ => (Kd.fresh' (Kd.R_lt (by (with_reducible repeat first | apply rwA | apply rwN | apply rwD); exact HO_460002.out)) k_ hn_)), Or.elim hk_ (fun hs_ => Or.elim hs_ (fun hs_ => hs_.2.2.1) (fun hs_ => hs_.2.2.1)) (fun hn_ => (Kd.freshB (g := gb459) (o := .cells #[.int .i64 t451, .slice Ao16 t452.length co16, .slice Ao17 t455.length co17] 32 (0, 0)) (by (with_reducible repeat first | apply bkN | apply bkD | apply bkA); exact BK459.out) k_ hn_)), Or.elim hk_ (fun hs_ => Or.elim hs_ (fun hs_ => hs_.2.2.2.1) (fun hs_ => hs_.2.2.2.1)) (fun hn_ => (Kd.freshB (g := gb469) (o := .cells #[.int .i64 x470000_1, .slice Ao66 x470001_1.length co66, .slice Ao67 x470002_1.length co67] 50 (0, 0)) (by (with_reducible repeat first | apply bkN | apply bkD | apply bkA); exact BK469.out) k_ hn_)), Or.elim hk_ (fun hs_ => Or.elim hs_ (fun hs_ => hs_.2.2.2.2.1) (fun hs_ => hs_.2.2.2.2.1)) (fun hn_ => (Kd.freshB (g := gb495) (o := .cells #[.int .i64 t486, .slice Ao73 t487.length co73, .slice Ao74 t490.length co74] 50 (0, 0)) (by (with_reducible repeat first | apply bkN | apply bkD | apply bkA); exact BK495.out) k_ hn_)), Or.elim hk_ (fun hs_ => Or.elim hs_ (fun hs_ => hs_.2.2.2.2.2) (fun hs_ => hs_.2.2.2.2.2)) (fun hn_ => (Kd.freshB (g := gb505) (o := .cells #[.int .i64 t496, .slice Ao83 t497.length co83, .slice Ao84 t500.length co84] 50 (0, 0)) (by (with_reducible repeat first | apply bkN | apply bkD | apply bkA); exact BK505.out) k_ hn_))⟩)) (below_size (by repeat (first | (with_reducible first | exact HB.out | apply bwA | apply bwN | apply bwD | refine bs_ ?_ GE459.out | refine bs_ ?_ GE469.out | refine bs_ ?_ GE495.out | refine bs_ ?_ GE505.out) | exact HB.out)))); have n10_ := am_ (blk_below (g := gb459) (o := .cells #[.int .i64 t451, .slice Ao16 t452.length co16, .slice Ao17 t455.length co17] 32 (0, 0)) (by (with_reducible repeat first | apply bkN | apply bkD | apply bkA); exact BK459.out) hb); have n11_ := am_ (blk_below (g := gb469) (o := .cells #[.int .i64 x470000_1, .slice Ao66 x470001_1.length co66, .slice Ao67 x470002_1.length co67] 50 (0, 0)) (by (with_reducible repeat first | apply bkN | apply bkD | apply bkA); exact BK469.out) hb); have n12_ := am_ (blk_below (g := gb495) (o := .cells #[.int .i64 t486, .slice Ao73 t487.length co73, .slice Ao74 t490.length co74] 50 (0, 0)) (by (with_reducible repeat first | apply bkN | apply bkD | apply bkA); exact BK495.out) hb); have n13_ := am_ (blk_below (g := gb505) (o := .cells #[.int .i64 t496, .slice Ao83 t497.length co83, .slice Ao84 t500.length co84] 50 (0, 0)) (by (with_reducible repeat first | apply bkN | apply bkD | apply bkA); exact BK505.out) hb); have n14_ := am_ (below_step (by repeat (first | (with_reducible first | exact HB.out | apply bwA | apply bwN | apply bwD | refine bs_ ?_ GE459.out | refine bs_ ?_ GE469.out | refine bs_ ?_ GE495.out | refine bs_ ?_ GE505.out) | exact HB.out)) hb); clear HO_460001; clear HO_460002; clear HO_470001; clear HO_470002; clear HO489; clear HO492; clear HO499; clear HO502; clear BK459; clear BK469; clear BK495; clear BK505; clear HB; have HO_460001 := n0_; have HO_460002 := n1_; have HO_470001 := n2_; have HO_470002 := n3_; have HO489 := n4_; have HO492 := n5_; have HO499 := n6_; have HO502 := n7_; have HO509 := n8_; have HO512 := n9_; have BK459 := n10_; have BK469 := n11_; have BK495 := n12_; have BK505 := n13_; have HB := n14_; clear n0_ n1_ n2_ n3_ n4_ n5_ n6_ n7_ n8_ n9_ n10_ n11_ n12_ n13_ n14_; (try clear hb); (try clear hb2); (try clear hk); (try clear hi); (try clear ho0); (try clear ho1)) | ((with_reducible refine gate_dst (N := 27) rfl ?_); (try (refine gate_guard (by rfl) ?_; dsimp only)); refine box_event ?hg (N := 27) ?hd (cs := #[.int .i64 0, .slice none 0 0, .slice none 0 0]) (t := 50) ?hr ?_; (case hd => rfl); (case hg => rfl); (case hr => first | (go_simp; done) | (go_simp; rfl)); intro gb515 hg w88 hbox hb; have n0_ := am_ (Kd.R_below (by (with_reducible repeat first | apply rwA | apply rwN | apply rwD); exact HO_460001.out) hb); have n1_ := am_ (Kd.R_below (by (with_reducible repeat first | apply rwA | apply rwN | apply rwD); exact HO_460002.out) hb); have n2_ := am_ (Kd.V_below (Kd.V_elderB (by (with_reducible repeat (first | apply vA | apply vN | apply vD)); exact HO_470001.out) gb515 (Nat.le_of_eq hg.symm)) hb); have n3_ := am_ (Kd.V_below (Kd.V_elderB (by (with_reducible repeat (first | apply vA | apply vN | apply vD)); exact HO_470002.out) gb515 (Nat.le_of_eq hg.symm)) hb); have n4_ := am_ (Kd.V_below (Kd.V_elderB (by (with_reducible repeat (first | apply vA | apply vN | apply vD)); exact HO489.out) gb515 (Nat.le_of_eq hg.symm)) hb); have n5_ := am_ (Kd.V_below (Kd.V_elderB (by (with_reducible repeat (first | apply vA | apply vN | apply vD)); exact HO492.out) gb515 (Nat.le_of_eq hg.symm)) hb); have n6_ := am_ (Kd.V_below (Kd.V_elderB (by (with_reducible repeat (first | apply vA | apply vN | apply vD)); exact HO499.out) gb515 (Nat.le_of_eq hg.symm)) hb); have n7_ := am_ (Kd.V_below (Kd.V_elderB (by (with_reducible repeat (first | apply vA | apply vN | apply vD)); exact HO502.out) gb515 (Nat.le_of_eq hg.symm)) hb); have n8_ := am_ (Kd.V_below (Kd.V_elderB (by (with_reducible repeat (first | apply vA | apply vN | apply vD)); exact HO509.out) gb515 (Nat.le_of_eq hg.symm)) hb); have n9_ := am_ (Kd.V_below (Kd.V_elderB (by (with_reducible repeat (first | apply vA | apply vN | apply vD)); exact HO512.out) gb515 (Nat.le_of_eq hg.symm)) hb); have n10_ := am_ (blk_below (g := gb459) (o := .cells #[.int .i64 t451, .slice Ao16 t452.length co16, .slice Ao17 t455.length co17] 32 (0, 0)) (by (with_reducible repeat first | apply bkN | apply bkD | apply bkA); exact BK459.out) hb); have n11_ := am_ (blk_below (g := gb469) (o := .cells #[.int .i64 x470000_1, .slice Ao66 x470001_1.length co66, .slice Ao67 x470002_1.length co67] 50 (0, 0)) (by (with_reducible repeat first | apply bkN | apply bkD | apply bkA); exact BK469.out) hb); have n12_ := am_ (blk_below (g := gb495) (o := .cells #[.int .i64 t486, .slice Ao73 t487.length co73, .slice Ao74 t490.length co74] 50 (0, 0)) (by (with_reducible repeat first | apply bkN | apply bkD | apply bkA); exact BK495.out) hb); have n13_ := am_ (blk_below (g := gb505) (o := .cells #[.int .i64 t496, .slice Ao83 t497.length co83, .slice Ao84 t500.length co84] 50 (0, 0)) (by (with_reducible repeat first | apply bkN | apply bkD | apply bkA); exact BK505.out) hb); have n14_ := am_ (below_step (by repeat (first | (with_reducible first | exact HB.out | apply bwA | apply bwN | apply bwD | refine bs_ ?_ GE459.out | refine bs_ ?_ GE469.out | refine bs_ ?_ GE495.out | refine bs_ ?_ GE505.out) | exact HB.out)) hb); have n15_ := am_ (hbox); have n16_ := am_ ((by rw [hg]; exact (below_size (by repeat (first | (with_reducible first | exact HB.out | apply bwA | apply bwN | apply bwD | refine bs_ ?_ GE459.out | refine bs_ ?_ GE469.out | refine bs_ ?_ GE495.out | refine bs_ ?_ GE505.out) | exact HB.out))) : w.heap.size ≤ gb515)); have n17_ := am_ ((by rw [hg]; exact (below_size (by repeat (first | (with_reducible first | exact HB.out | apply bwA | apply bwN | apply bwD | refine bs_ ?_ GE459.out | refine bs_ ?_ GE469.out | refine bs_ ?_ GE495.out | refine bs_ ?_ GE505.out) | exact HB.out))) : w.heap.size ≤ gb515)); have n18_ := am_ ((by rw [hg]; exact Nat.ne_of_lt (blk_lt (g := gb459) (o := .cells #[.int .i64 t451, .slice Ao16 t452.length co16, .slice Ao17 t455.length co17] 32 (0, 0)) (by (with_reducible repeat first | apply bkN | apply bkD | apply bkA); exact BK459.out)) : gb459 ≠ gb515)); have n19_ := am_ ((by rw [hg]; exact Nat.ne_of_gt (blk_lt (g := gb459) (o := .cells #[.int .i64 t451, .slice Ao16 t452.length co16, .slice Ao17 t455.length co17] 32 (0, 0)) (by (with_reducible repeat first | apply bkN | apply bkD | apply bkA); exact BK459.out)) : gb515 ≠ gb459)); have n20_ := am_ ((by rw [hg]; exact Nat.ne_of_lt (blk_lt (g := gb469) (o := .cells #[.int .i64 x470000_1, .slice Ao66 x470001_1.length co66, .slice Ao67 x470002_1.length co67] 50 (0, 0)) (by (with_reducible repeat first | apply bkN | apply bkD | apply bkA); exact BK469.out)) : gb469 ≠ gb515)); have n21_ := am_ ((by rw [hg]; exact Nat.ne_of_gt (blk_lt (g := gb469) (o := .cells #[.int .i64 x470000_1, .slice Ao66 x470001_1.length co66, .slice Ao67 x470002_1.length co67] 50 (0, 0)) (by (with_reducible repeat first | apply bkN | apply bkD | apply bkA); exact BK469.out)) : gb515 ≠ gb469)); have n22_ := am_ ((by rw [hg]; exact Nat.ne_of_lt (blk_lt (g := gb495) (o := .cells #[.int .i64 t486, .slice Ao73 t487.length co73, .slice Ao74 t490.length co74] 50 (0, 0)) (by (with_reducible repeat first | apply bkN | apply bkD | apply bkA); exact BK495.out)) : gb495 ≠ gb515)); have n23_ := am_ ((by rw [hg]; exact Nat.ne_of_gt (blk_lt (g := gb495) (o := .cells #[.int .i64 t486, .slice Ao73 t487.length co73, .slice Ao74 t490.length co74] 50 (0, 0)) (by (with_reducible repeat first | apply bkN | apply bkD | apply bkA); exact BK495.out)) : gb515 ≠ gb495)); have n24_ := am_ ((by rw [hg]; exact Nat.ne_of_lt (blk_lt (g := gb505) (o := .cells #[.int .i64 t496, .slice Ao83 t497.length co83, .slice Ao84 t500.length co84] 50 (0, 0)) (by (with_reducible repeat first | apply bkN | apply bkD | apply bkA); exact BK505.out)) : gb505 ≠ gb515)); have n25_ := am_ ((by rw [hg]; exact Nat.ne_of_gt (blk_lt (g := gb505) (o := .cells #[.int .i64 t496, .slice Ao83 t497.length co83, .slice Ao84 t500.length co84] 50 (0, 0)) (by (with_reducible repeat first | apply bkN | apply bkD | apply bkA); exact BK505.out)) : gb515 ≠ gb505)); clear HO_460001; clear HO_460002; clear HO_470001; clear HO_470002; clear HO489; clear HO492; clear HO499; clear HO502; clear HO509; clear HO512; clear BK459; clear BK469; clear BK495; clear BK505; clear HB; have HO_460001 := n0_; have HO_460002 := n1_; have HO_470001 := n2_; have HO_470002 := n3_; have HO489 := n4_; have HO492 := n5_; have HO499 := n6_; have HO502 := n7_; have HO509 := n8_; have HO512 := n9_; have BK459 := n10_; have BK469 := n11_; have BK495 := n12_; have BK505 := n13_; have HB := n14_; have BK515 := n15_; have GW515 := n16_; have GE515 := n17_; have NB459_515 := n18_; have NB515_459 := n19_; have NB469_515 := n20_; have NB515_469 := n21_; have NB495_515 := n22_; have NB515_495 := n23_; have NB505_515 := n24_; have NB515_505 := n25_; clear n0_ n1_ n2_ n3_ n4_ n5_ n6_ n7_ n8_ n9_ n10_ n11_ n12_ n13_ n14_ n15_ n16_ n17_ n18_ n19_ n20_ n21_ n22_ n23_ n24_ n25_; clear hb hbox hg; have hnb89 := NB515_459.out; have hnc89 := NB459_515.out; have hnb90 := NB515_469.out; have hnc90 := NB469_515.out; have hnb91 := NB515_495.out; have hnc91 := NB495_515.out; have hnb92 := NB515_505.out; have hnc92 := NB505_515.out; have hcz93_0 : w88.cell? ⟨gb515, 0, none⟩ = some (.int .i64 0) := (blk_cell BK515.out 0).trans rfl; have hcz93_1 : w88.cell? ⟨gb515, 1, none⟩ = some (.slice none 0 0) := (blk_cell BK515.out 1).trans rfl; have hcz93_2 : w88.cell? ⟨gb515, 2, none⟩ = some (.slice none 0 0) := (blk_cell BK515.out 2).trans rfl; have hfz93_0 := blk_frozen BK515.out 0; have hfz93_1 := blk_frozen BK515.out 1; have hfz93_2 := blk_frozen BK515.out 2; obtain ⟨Ao94, co94, eo94⟩ := Kd.V_slice HO509.out; subst eo94; obtain ⟨Ao95, co95, eo95⟩ := Kd.V_slice HO512.out; subst eo95))
         (try simp only [Act.put, List.setIfInBounds_toArray, List.set_cons_zero, List.set_cons_succ])
         go_cut [153] (fun v153 wc => ∃ (kq : Nat) (x153_61 : Bool), v153 = .bool x153_61 ∧ Aside0 (tillerlaw21_RecvFalse.j2 kq t449 x153_61 x470000_1 x470001_1 x470002_1 t486 t487 t490 t496 t497 t500 t506 t507 t510 = some r) ∧ Aside0 (kq ≤ kj51) ∧ Aside0 (Kd.R Kd.string 9 wc w.heap.size (fun _ => True) (.slice Ao16 t452.length co16) t452) ∧ Aside0 (Kd.R Kd.bool 4 wc w.heap.size (fun _ => True) (.slice Ao17 t455.length co17) t455) ∧ Aside0 (Kd.V Kd.string 9 wc w.heap.size (fun k_ => some k_ ≠ ((.slice Ao16 t452.length co16) : Value).ownBlock ∧ some k_ ≠ ((.slice Ao17 t455.length co17) : Value).ownBlock ∧ k_ ≠ gb459 ∧ k_ ≠ gb469 ∧ k_ ≠ gb495 ∧ k_ ≠ gb505 ∧ k_ ≠ gb515) (.slice Ao66 x470001_1.length co66) x470001_1) ∧ Aside0 (Kd.V Kd.bool 4 wc w.heap.size (fun k_ => some k_ ≠ ((.slice Ao16 t452.length co16) : Value).ownBlock ∧ some k_ ≠ ((.slice Ao17 t455.length co17) : Value).ownBlock ∧ k_ ≠ gb459 ∧ k_ ≠ gb469 ∧ k_ ≠ gb495 ∧ k_ ≠ gb505 ∧ k_ ≠ gb515) (.slice Ao67 x470002_1.length co67) x470002_1) ∧ Aside0 (Kd.V Kd.string 9 wc w.heap.size (fun k_ => some k_ ≠ ((.slice Ao16 t452.length co16) : Value).ownBlock ∧ some k_ ≠ ((.slice Ao17 t455.length co17) : Value).ownBlock ∧ k_ ≠ gb459 ∧ k_ ≠ gb469 ∧ k_ ≠ gb495 ∧ k_ ≠ gb505 ∧ k_ ≠ gb515) (.slice Ao73 t487.length co73) t487) ∧ Aside0 (Kd.V Kd.bool 4 wc w.heap.size (fun k_ => some k_ ≠ ((.slice Ao16 t452.length co16) : Value).ownBlock ∧ some k_ ≠ ((.slice Ao17 t455.length co17) : Value).ownBlock ∧ k_ ≠ gb459 ∧ k_ ≠ gb469 ∧ k_ ≠ gb495 ∧ k_ ≠ gb505 ∧ k_ ≠ gb515) (.slice Ao74 t490.length co74) t490) ∧ Aside0 (Kd.V Kd.string 9 wc w.heap.size (fun k_ => some k_ ≠ ((.slice Ao16 t452.length co16) : Value).ownBlock ∧ some k_ ≠ ((.slice Ao17 t455.length co17) : Value).ownBlock ∧ k_ ≠ gb459 ∧ k_ ≠ gb469 ∧ k_ ≠ gb495 ∧ k_ ≠ gb505 ∧ k_ ≠ gb515) (.slice Ao83 t497.length co83) t497) ∧ Aside0 (Kd.V Kd.bool 4 wc w.heap.size (fun k_ => some k_ ≠ ((.slice Ao16 t452.length co16) : Value).ownBlock ∧ some k_ ≠ ((.slice Ao17 t455.length co17) : Value).ownBlock ∧ k_ ≠ gb459 ∧ k_ ≠ gb469 ∧ k_ ≠ gb495 ∧ k_ ≠ gb505 ∧ k_ ≠ gb515) (.slice Ao84 t500.length co84) t500) ∧ Aside0 (Kd.V Kd.string 9 wc w.heap.size (fun k_ => some k_ ≠ ((.slice Ao16 t452.length co16) : Value).ownBlock ∧ some k_ ≠ ((.slice Ao17 t455.length co17) : Value).ownBlock ∧ k_ ≠ gb459 ∧ k_ ≠ gb469 ∧ k_ ≠ gb495 ∧ k_ ≠ gb505 ∧ k_ ≠ gb515) (.slice Ao94 t507.length co94) t507) ∧ Aside0 (Kd.V Kd.bool 4 wc w.heap.size (fun k_ => some k_ ≠ ((.slice Ao16 t452.length co16) : Value).ownBlock ∧ some k_ ≠ ((.slice Ao17 t455.length co17) : Value).ownBlock ∧ k_ ≠ gb459 ∧ k_ ≠ gb469 ∧ k_ ≠ gb495 ∧ k_ ≠ gb505 ∧ k_ ≠ gb515) (.slice Ao95 t510.length co95) t510) ∧ Aside0 (wc.heap[gb459]? = some (.cells #[.int .i64 t451, (.slice Ao16 t452.length co16), (.slice Ao17 t455.length co17)] 32 (0, 0))) ∧ Aside0 (wc.heap[gb469]? = some (.cells #[.int .i64 x470000_1, (.slice Ao66 x470001_1.length co66), (.slice Ao67 x470002_1.length co67)] 50 (0, 0))) ∧ Aside0 (wc.heap[gb495]? = some (.cells #[.int .i64 t486, (.slice Ao73 t487.length co73), (.slice Ao74 t490.length co74)] 50 (0, 0))) ∧ Aside0 (wc.heap[gb505]? = some (.cells #[.int .i64 t496, (.slice Ao83 t497.length co83), (.slice Ao84 t500.length co84)] 50 (0, 0))) ∧ Aside0 (wc.heap[gb515]? = some (.cells #[.int .i64 t506, (.slice Ao94 t507.length co94), (.slice Ao95 t510.length co95)] 50 (0, 0))) ∧ Aside0 (Below w.heap.size w wc))
         case first =>
          have H := HC62.out
          clear HC62
          by_cases c96 : 0 ≤ a3
          ·rw [if_pos c96] at H
           have c96b0 : decide (0 ≤ a3) = true := decide_eq_true c96
           clear c96
           (first | rw [c96b0] | (simp only [i64_w, i32_w]; rw [c96b0]) | skip)
           by_cases c97 : a3 < (t452.length : Int)
           ·rw [if_pos c97] at H
            have c97b0 : decide (a3 < (t452.length : Int)) = true := decide_eq_true c97
            clear c97
            by_cases c98 : ((t494 == 0) != (t450.toList == (rdOf ByteArray.empty t452 a3).toList)) = true
            ·rw [if_pos c98] at H
             have c98b0 : ((t494 == 0) != (t450.toList == (rdOf ByteArray.empty t452 a3).toList)) = true := c98
             (try (have c98b1 : decide ((t494 == 0) = (t450.toList == (rdOf ByteArray.empty t452 a3).toList)) = false := by simpa using c98))
             (try (have c98b2 : ((t494 == 0) == (t450.toList == (rdOf ByteArray.empty t452 a3).toList)) = false := by simpa using c98))
             (try (have c98b3 : ¬ ((t494 == 0) = (t450.toList == (rdOf ByteArray.empty t452 a3).toList)) := by simpa using c98))
             clear c98
             have H' := am_ H
             clear H
             have hnb99 := NB459_469.out
             have hnc99 := NB469_459.out
             have hnb100 := NB459_495.out
             have hnc100 := NB495_459.out
             have hnb101 := NB459_505.out
             have hnc101 := NB505_459.out
             have hnb102 := NB459_515.out
             have hnc102 := NB515_459.out
             have hcz103_0 : w88.cell? ⟨gb459, 0, none⟩ = some (.int .i64 t451) := (blk_cell BK459.out 0).trans rfl
             have hcz103_1 : w88.cell? ⟨gb459, 1, none⟩ = some (.slice Ao16 t452.length co16) := (blk_cell BK459.out 1).trans rfl
             have hcz103_2 : w88.cell? ⟨gb459, 2, none⟩ = some (.slice Ao17 t455.length co17) := (blk_cell BK459.out 2).trans rfl
             have hfz103_0 := blk_frozen BK459.out 0
             have hfz103_1 := blk_frozen BK459.out 1
             have hfz103_2 := blk_frozen BK459.out 2
             have p516 : 0 ≤ (a3 : Int) := ofd_
             have q516 : a3 < (t452.length : Int) := ofd_
             (first | obtain ⟨ad516, e516, hx516_0⟩ := Kd.at_string (Kd.R_reads' HO_460001.out).2.2 a3 p516 q516 | (obtain ⟨Az_, cz_, ez_⟩ := Kd.R_slice HO_460001.out; subst ez_; obtain ⟨ad516, e516, hx516_0⟩ := Kd.at_string (Kd.R_reads' HO_460001.out).2.2 a3 p516 q516))
             cases e516
             have hn516_0 : ad516.block ≠ gb515 := Kd.own_blk (Kd.R_ne HO_460001.out BK515.out (by decide))
             have hn516_1 : ad516.block ≠ gb515 := Kd.own_blk (Kd.R_ne HO_460001.out BK515.out (by decide))
             have hn516_2 : ad516.block ≠ gb515 := Kd.own_blk (Kd.R_ne HO_460001.out BK515.out (by decide))
             replace hx516_0 := (cell_far (p := ⟨gb515, 0, none⟩) (by first | (rw [add_block]; exact hn516_0) | (show (Addr.add _ _).block ≠ _; rw [add_block]; exact hn516_0) | exact hn516_0) (.int .i64 t506)).trans hx516_0
             replace hx516_0 := (cell_far (p := ⟨gb515, 1, none⟩) (by first | (rw [add_block]; exact hn516_1) | (show (Addr.add _ _).block ≠ _; rw [add_block]; exact hn516_1) | exact hn516_1) (.slice Ao94 t507.length co94)).trans hx516_0
             replace hx516_0 := (cell_far (p := ⟨gb515, 2, none⟩) (by first | (rw [add_block]; exact hn516_2) | (show (Addr.add _ _).block ≠ _; rw [add_block]; exact hn516_2) | exact hn516_2) (.slice Ao95 t510.length co95)).trans hx516_0
             clear hn516_0
             clear hn516_1
             clear hn516_2
             replace p516 := eq_true p516
             replace q516 := eq_true q516
             go_wp2
             go_meet
             case rel => exact ⟨_, (true), (by first | rfl | (simp; done) | (simp [*]; done)), H', ⟨by have := HK1.out; have := HJ51.out; first | omega | exact Nat.le_refl _⟩, ⟨by (with_reducible repeat first | apply rwA | apply rwN | apply rwD); exact Kd.R_mono (rF gb515 2 (rF gb515 1 (rF gb515 0 (Kd.R_types HO_460001.out BK515.out (by decide)) sn_ (.int .i64 t506)) sn_ (.slice Ao94 t507.length co94)) sn_ (.slice Ao95 t510.length co95)) (fun _ hk => trivial)⟩, ⟨by (with_reducible repeat first | apply rwA | apply rwN | apply rwD); exact Kd.R_mono (rF gb515 2 (rF gb515 1 (rF gb515 0 (Kd.R_types HO_460002.out BK515.out (by decide)) sn_ (.int .i64 t506)) sn_ (.slice Ao94 t507.length co94)) sn_ (.slice Ao95 t510.length co95)) (fun _ hk => trivial)⟩, ⟨by (with_reducible repeat (first | apply vA | apply vN | apply vD)); exact Kd.V_mono (vF gb515 2 (vF gb515 1 (vF gb515 0 (Kd.V_mono HO_470001.out (fun k_ hk => (⟨hk, hk.2⟩ : _ ∧ k_ ≠ gb515))) sn_ (.int .i64 t506)) sn_ (.slice Ao94 t507.length co94)) sn_ (.slice Ao95 t510.length co95)) (fun _ hk => ⟨hk.1.1.1, ⟨hk.1.1.2.1, ⟨hk.1.1.2.2.1, ⟨hk.1.1.2.2.2.1, ⟨hk.1.1.2.2.2.2.1, ⟨hk.1.1.2.2.2.2.2, hk.1.2⟩⟩⟩⟩⟩⟩)⟩, ⟨by (with_reducible repeat (first | apply vA | apply vN | apply vD)); exact Kd.V_mono (vF gb515 2 (vF gb515 1 (vF gb515 0 (Kd.V_mono HO_470002.out (fun k_ hk => (⟨hk, hk.2⟩ : _ ∧ k_ ≠ gb515))) sn_ (.int .i64 t506)) sn_ (.slice Ao94 t507.length co94)) sn_ (.slice Ao95 t510.length co95)) (fun _ hk => ⟨hk.1.1.1, ⟨hk.1.1.2.1, ⟨hk.1.1.2.2.1, ⟨hk.1.1.2.2.2.1, ⟨hk.1.1.2.2.2.2.1, ⟨hk.1.1.2.2.2.2.2, hk.1.2⟩⟩⟩⟩⟩⟩)⟩, ⟨by (with_reducible repeat (first | apply vA | apply vN | apply vD)); exact Kd.V_mono (vF gb515 2 (vF gb515 1 (vF gb515 0 (Kd.V_mono HO489.out (fun k_ hk => (⟨hk, hk.2⟩ : _ ∧ k_ ≠ gb515))) sn_ (.int .i64 t506)) sn_ (.slice Ao94 t507.length co94)) sn_ (.slice Ao95 t510.length co95)) (fun _ hk => ⟨hk.1.1.1, ⟨hk.1.1.2.1, ⟨hk.1.1.2.2.1, ⟨hk.1.1.2.2.2.1, ⟨hk.1.1.2.2.2.2.1, ⟨hk.1.1.2.2.2.2.2, hk.1.2⟩⟩⟩⟩⟩⟩)⟩, ⟨by (with_reducible repeat (first | apply vA | apply vN | apply vD)); exact Kd.V_mono (vF gb515 2 (vF gb515 1 (vF gb515 0 (Kd.V_mono HO492.out (fun k_ hk => (⟨hk, hk.2⟩ : _ ∧ k_ ≠ gb515))) sn_ (.int .i64 t506)) sn_ (.slice Ao94 t507.length co94)) sn_ (.slice Ao95 t510.length co95)) (fun _ hk => ⟨hk.1.1.1, ⟨hk.1.1.2.1, ⟨hk.1.1.2.2.1, ⟨hk.1.1.2.2.2.1, ⟨hk.1.1.2.2.2.2.1, ⟨hk.1.1.2.2.2.2.2, hk.1.2⟩⟩⟩⟩⟩⟩)⟩, ⟨by (with_reducible repeat (first | apply vA | apply vN | apply vD)); exact Kd.V_mono (vF gb515 2 (vF gb515 1 (vF gb515 0 (Kd.V_mono HO499.out (fun k_ hk => (⟨hk, hk.2⟩ : _ ∧ k_ ≠ gb515))) sn_ (.int .i64 t506)) sn_ (.slice Ao94 t507.length co94)) sn_ (.slice Ao95 t510.length co95)) (fun _ hk => ⟨hk.1.1.1, ⟨hk.1.1.2.1, ⟨hk.1.1.2.2.1, ⟨hk.1.1.2.2.2.1, ⟨hk.1.1.2.2.2.2.1, ⟨hk.1.1.2.2.2.2.2, hk.1.2⟩⟩⟩⟩⟩⟩)⟩, ⟨by (with_reducible repeat (first | apply vA | apply vN | apply vD)); exact Kd.V_mono (vF gb515 2 (vF gb515 1 (vF gb515 0 (Kd.V_mono HO502.out (fun k_ hk => (⟨hk, hk.2⟩ : _ ∧ k_ ≠ gb515))) sn_ (.int .i64 t506)) sn_ (.slice Ao94 t507.length co94)) sn_ (.slice Ao95 t510.length co95)) (fun _ hk => ⟨hk.1.1.1, ⟨hk.1.1.2.1, ⟨hk.1.1.2.2.1, ⟨hk.1.1.2.2.2.1, ⟨hk.1.1.2.2.2.2.1, ⟨hk.1.1.2.2.2.2.2, hk.1.2⟩⟩⟩⟩⟩⟩)⟩, ⟨by (with_reducible repeat (first | apply vA | apply vN | apply vD)); exact Kd.V_mono (vF gb515 2 (vF gb515 1 (vF gb515 0 (Kd.V_mono HO509.out (fun k_ hk => (⟨hk, hk.2⟩ : _ ∧ k_ ≠ gb515))) sn_ (.int .i64 t506)) sn_ (.slice Ao94 t507.length co94)) sn_ (.slice Ao95 t510.length co95)) (fun _ hk => ⟨hk.1.1.1, ⟨hk.1.1.2.1, ⟨hk.1.1.2.2.1, ⟨hk.1.1.2.2.2.1, ⟨hk.1.1.2.2.2.2.1, ⟨hk.1.1.2.2.2.2.2, hk.1.2⟩⟩⟩⟩⟩⟩)⟩, ⟨by (with_reducible repeat (first | apply vA | apply vN | apply vD)); exact Kd.V_mono (vF gb515 2 (vF gb515 1 (vF gb515 0 (Kd.V_mono HO512.out (fun k_ hk => (⟨hk, hk.2⟩ : _ ∧ k_ ≠ gb515))) sn_ (.int .i64 t506)) sn_ (.slice Ao94 t507.length co94)) sn_ (.slice Ao95 t510.length co95)) (fun _ hk => ⟨hk.1.1.1, ⟨hk.1.1.2.1, ⟨hk.1.1.2.2.1, ⟨hk.1.1.2.2.2.1, ⟨hk.1.1.2.2.2.2.1, ⟨hk.1.1.2.2.2.2.2, hk.1.2⟩⟩⟩⟩⟩⟩)⟩, ⟨by (with_reducible repeat first | apply bkN | apply bkD | apply bkA); refine blk_far ?_ NB459_515.out _; (with_reducible repeat first | apply bkN | apply bkD | apply bkA); refine blk_far ?_ NB459_515.out _; (with_reducible repeat first | apply bkN | apply bkD | apply bkA); refine blk_far ?_ NB459_515.out _; (with_reducible repeat first | apply bkN | apply bkD | apply bkA); exact BK459.out⟩, ⟨by (with_reducible repeat first | apply bkN | apply bkD | apply bkA); refine blk_far ?_ NB469_515.out _; (with_reducible repeat first | apply bkN | apply bkD | apply bkA); refine blk_far ?_ NB469_515.out _; (with_reducible repeat first | apply bkN | apply bkD | apply bkA); refine blk_far ?_ NB469_515.out _; (with_reducible repeat first | apply bkN | apply bkD | apply bkA); exact BK469.out⟩, ⟨by (with_reducible repeat first | apply bkN | apply bkD | apply bkA); refine blk_far ?_ NB495_515.out _; (with_reducible repeat first | apply bkN | apply bkD | apply bkA); refine blk_far ?_ NB495_515.out _; (with_reducible repeat first | apply bkN | apply bkD | apply bkA); refine blk_far ?_ NB495_515.out _; (with_reducible repeat first | apply bkN | apply bkD | apply bkA); exact BK495.out⟩, ⟨by (with_reducible repeat first | apply bkN | apply bkD | apply bkA); refine blk_far ?_ NB505_515.out _; (with_reducible repeat first | apply bkN | apply bkD | apply bkA); refine blk_far ?_ NB505_515.out _; (with_reducible repeat first | apply bkN | apply bkD | apply bkA); refine blk_far ?_ NB505_515.out _; (with_reducible repeat first | apply bkN | apply bkD | apply bkA); exact BK505.out⟩, ⟨by (with_reducible repeat first | apply bkN | apply bkD | apply bkA); refine blk_put (cs := #[.int .i64 t506, .slice Ao94 t507.length co94, .slice none 0 0]) ?_ 2 _ rfl; (with_reducible repeat first | apply bkN | apply bkD | apply bkA); refine blk_put (cs := #[.int .i64 t506, .slice none 0 0, .slice none 0 0]) ?_ 1 _ rfl; (with_reducible repeat first | apply bkN | apply bkD | apply bkA); refine blk_put (cs := #[.int .i64 0, .slice none 0 0, .slice none 0 0]) ?_ 0 _ rfl; (with_reducible repeat first | apply bkN | apply bkD | apply bkA); exact BK515.out⟩, ⟨by repeat (first | (with_reducible first | exact HB.out | apply bwA | apply bwN | apply bwD | refine bs_ ?_ GE459.out | refine bs_ ?_ GE469.out | refine bs_ ?_ GE495.out | refine bs_ ?_ GE505.out | refine bs_ ?_ GE515.out) | exact HB.out)⟩⟩
            ·rw [if_neg c98] at H
             have c98b0 : ((t494 == 0) != (t450.toList == (rdOf ByteArray.empty t452 a3).toList)) = false := by simpa using c98
             (try (have c98b1 : decide ((t494 == 0) = (t450.toList == (rdOf ByteArray.empty t452 a3).toList)) = true := by simpa using c98))
             (try (have c98b2 : ((t494 == 0) == (t450.toList == (rdOf ByteArray.empty t452 a3).toList)) = true := by simpa using c98))
             clear c98
             by_cases c104 : t494 = 0
             ·rw [if_pos c104] at H
              have c104b0 : (t494 == 0) = true := beq_iff_eq.mpr c104
              (try (have c104b9 : (t450.toList == (rdOf ByteArray.empty t452 a3).toList) = true := by simpa [c104b0] using c98b0))
              have c104b1 : (t494 != 0) = false := bne_eq_false_iff_eq.mpr c104
              clear c104
              by_cases c105 : t504 = 14
              ·rw [if_pos c105] at H
               have c105b0 : (t504 == 14) = true := beq_iff_eq.mpr c105
               have c105b1 : (t504 != 14) = false := bne_eq_false_iff_eq.mpr c105
               clear c105
               have H' := am_ H
               clear H
               have hnb106 := NB459_469.out
               have hnc106 := NB469_459.out
               have hnb107 := NB459_495.out
               have hnc107 := NB495_459.out
               have hnb108 := NB459_505.out
               have hnc108 := NB505_459.out
               have hnb109 := NB459_515.out
               have hnc109 := NB515_459.out
               have hcz110_0 : w88.cell? ⟨gb459, 0, none⟩ = some (.int .i64 t451) := (blk_cell BK459.out 0).trans rfl
               have hcz110_1 : w88.cell? ⟨gb459, 1, none⟩ = some (.slice Ao16 t452.length co16) := (blk_cell BK459.out 1).trans rfl
               have hcz110_2 : w88.cell? ⟨gb459, 2, none⟩ = some (.slice Ao17 t455.length co17) := (blk_cell BK459.out 2).trans rfl
               have hfz110_0 := blk_frozen BK459.out 0
               have hfz110_1 := blk_frozen BK459.out 1
               have hfz110_2 := blk_frozen BK459.out 2
               have p516 : 0 ≤ (a3 : Int) := ofd_
               have q516 : a3 < (t452.length : Int) := ofd_
               (first | obtain ⟨ad516, e516, hx516_0⟩ := Kd.at_string (Kd.R_reads' HO_460001.out).2.2 a3 p516 q516 | (obtain ⟨Az_, cz_, ez_⟩ := Kd.R_slice HO_460001.out; subst ez_; obtain ⟨ad516, e516, hx516_0⟩ := Kd.at_string (Kd.R_reads' HO_460001.out).2.2 a3 p516 q516))
               cases e516
               have hn516_0 : ad516.block ≠ gb515 := Kd.own_blk (Kd.R_ne HO_460001.out BK515.out (by decide))
               have hn516_1 : ad516.block ≠ gb515 := Kd.own_blk (Kd.R_ne HO_460001.out BK515.out (by decide))
               have hn516_2 : ad516.block ≠ gb515 := Kd.own_blk (Kd.R_ne HO_460001.out BK515.out (by decide))
               replace hx516_0 := (cell_far (p := ⟨gb515, 0, none⟩) (by first | (rw [add_block]; exact hn516_0) | (show (Addr.add _ _).block ≠ _; rw [add_block]; exact hn516_0) | exact hn516_0) (.int .i64 t506)).trans hx516_0
               replace hx516_0 := (cell_far (p := ⟨gb515, 1, none⟩) (by first | (rw [add_block]; exact hn516_1) | (show (Addr.add _ _).block ≠ _; rw [add_block]; exact hn516_1) | exact hn516_1) (.slice Ao94 t507.length co94)).trans hx516_0
               replace hx516_0 := (cell_far (p := ⟨gb515, 2, none⟩) (by first | (rw [add_block]; exact hn516_2) | (show (Addr.add _ _).block ≠ _; rw [add_block]; exact hn516_2) | exact hn516_2) (.slice Ao95 t510.length co95)).trans hx516_0
               clear hn516_0
               clear hn516_1
               clear hn516_2
               replace p516 := eq_true p516
               replace q516 := eq_true q516
               go_wp2
               go_meet
               case rel => exact ⟨_, ((t514 != 1)), (by first | rfl | (simp; done) | (simp [*]; done)), H', ⟨by have := HK1.out; have := HJ51.out; first | omega | exact Nat.le_refl _⟩, ⟨by (with_reducible repeat first | apply rwA | apply rwN | apply rwD); exact Kd.R_mono (rF gb515 2 (rF gb515 1 (rF gb515 0 (Kd.R_types HO_460001.out BK515.out (by decide)) sn_ (.int .i64 t506)) sn_ (.slice Ao94 t507.length co94)) sn_ (.slice Ao95 t510.length co95)) (fun _ hk => trivial)⟩, ⟨by (with_reducible repeat first | apply rwA | apply rwN | apply rwD); exact Kd.R_mono (rF gb515 2 (rF gb515 1 (rF gb515 0 (Kd.R_types HO_460002.out BK515.out (by decide)) sn_ (.int .i64 t506)) sn_ (.slice Ao94 t507.length co94)) sn_ (.slice Ao95 t510.length co95)) (fun _ hk => trivial)⟩, ⟨by (with_reducible repeat (first | apply vA | apply vN | apply vD)); exact Kd.V_mono (vF gb515 2 (vF gb515 1 (vF gb515 0 (Kd.V_mono HO_470001.out (fun k_ hk => (⟨hk, hk.2⟩ : _ ∧ k_ ≠ gb515))) sn_ (.int .i64 t506)) sn_ (.slice Ao94 t507.length co94)) sn_ (.slice Ao95 t510.length co95)) (fun _ hk => ⟨hk.1.1.1, ⟨hk.1.1.2.1, ⟨hk.1.1.2.2.1, ⟨hk.1.1.2.2.2.1, ⟨hk.1.1.2.2.2.2.1, ⟨hk.1.1.2.2.2.2.2, hk.1.2⟩⟩⟩⟩⟩⟩)⟩, ⟨by (with_reducible repeat (first | apply vA | apply vN | apply vD)); exact Kd.V_mono (vF gb515 2 (vF gb515 1 (vF gb515 0 (Kd.V_mono HO_470002.out (fun k_ hk => (⟨hk, hk.2⟩ : _ ∧ k_ ≠ gb515))) sn_ (.int .i64 t506)) sn_ (.slice Ao94 t507.length co94)) sn_ (.slice Ao95 t510.length co95)) (fun _ hk => ⟨hk.1.1.1, ⟨hk.1.1.2.1, ⟨hk.1.1.2.2.1, ⟨hk.1.1.2.2.2.1, ⟨hk.1.1.2.2.2.2.1, ⟨hk.1.1.2.2.2.2.2, hk.1.2⟩⟩⟩⟩⟩⟩)⟩, ⟨by (with_reducible repeat (first | apply vA | apply vN | apply vD)); exact Kd.V_mono (vF gb515 2 (vF gb515 1 (vF gb515 0 (Kd.V_mono HO489.out (fun k_ hk => (⟨hk, hk.2⟩ : _ ∧ k_ ≠ gb515))) sn_ (.int .i64 t506)) sn_ (.slice Ao94 t507.length co94)) sn_ (.slice Ao95 t510.length co95)) (fun _ hk => ⟨hk.1.1.1, ⟨hk.1.1.2.1, ⟨hk.1.1.2.2.1, ⟨hk.1.1.2.2.2.1, ⟨hk.1.1.2.2.2.2.1, ⟨hk.1.1.2.2.2.2.2, hk.1.2⟩⟩⟩⟩⟩⟩)⟩, ⟨by (with_reducible repeat (first | apply vA | apply vN | apply vD)); exact Kd.V_mono (vF gb515 2 (vF gb515 1 (vF gb515 0 (Kd.V_mono HO492.out (fun k_ hk => (⟨hk, hk.2⟩ : _ ∧ k_ ≠ gb515))) sn_ (.int .i64 t506)) sn_ (.slice Ao94 t507.length co94)) sn_ (.slice Ao95 t510.length co95)) (fun _ hk => ⟨hk.1.1.1, ⟨hk.1.1.2.1, ⟨hk.1.1.2.2.1, ⟨hk.1.1.2.2.2.1, ⟨hk.1.1.2.2.2.2.1, ⟨hk.1.1.2.2.2.2.2, hk.1.2⟩⟩⟩⟩⟩⟩)⟩, ⟨by (with_reducible repeat (first | apply vA | apply vN | apply vD)); exact Kd.V_mono (vF gb515 2 (vF gb515 1 (vF gb515 0 (Kd.V_mono HO499.out (fun k_ hk => (⟨hk, hk.2⟩ : _ ∧ k_ ≠ gb515))) sn_ (.int .i64 t506)) sn_ (.slice Ao94 t507.length co94)) sn_ (.slice Ao95 t510.length co95)) (fun _ hk => ⟨hk.1.1.1, ⟨hk.1.1.2.1, ⟨hk.1.1.2.2.1, ⟨hk.1.1.2.2.2.1, ⟨hk.1.1.2.2.2.2.1, ⟨hk.1.1.2.2.2.2.2, hk.1.2⟩⟩⟩⟩⟩⟩)⟩, ⟨by (with_reducible repeat (first | apply vA | apply vN | apply vD)); exact Kd.V_mono (vF gb515 2 (vF gb515 1 (vF gb515 0 (Kd.V_mono HO502.out (fun k_ hk => (⟨hk, hk.2⟩ : _ ∧ k_ ≠ gb515))) sn_ (.int .i64 t506)) sn_ (.slice Ao94 t507.length co94)) sn_ (.slice Ao95 t510.length co95)) (fun _ hk => ⟨hk.1.1.1, ⟨hk.1.1.2.1, ⟨hk.1.1.2.2.1, ⟨hk.1.1.2.2.2.1, ⟨hk.1.1.2.2.2.2.1, ⟨hk.1.1.2.2.2.2.2, hk.1.2⟩⟩⟩⟩⟩⟩)⟩, ⟨by (with_reducible repeat (first | apply vA | apply vN | apply vD)); exact Kd.V_mono (vF gb515 2 (vF gb515 1 (vF gb515 0 (Kd.V_mono HO509.out (fun k_ hk => (⟨hk, hk.2⟩ : _ ∧ k_ ≠ gb515))) sn_ (.int .i64 t506)) sn_ (.slice Ao94 t507.length co94)) sn_ (.slice Ao95 t510.length co95)) (fun _ hk => ⟨hk.1.1.1, ⟨hk.1.1.2.1, ⟨hk.1.1.2.2.1, ⟨hk.1.1.2.2.2.1, ⟨hk.1.1.2.2.2.2.1, ⟨hk.1.1.2.2.2.2.2, hk.1.2⟩⟩⟩⟩⟩⟩)⟩, ⟨by (with_reducible repeat (first | apply vA | apply vN | apply vD)); exact Kd.V_mono (vF gb515 2 (vF gb515 1 (vF gb515 0 (Kd.V_mono HO512.out (fun k_ hk => (⟨hk, hk.2⟩ : _ ∧ k_ ≠ gb515))) sn_ (.int .i64 t506)) sn_ (.slice Ao94 t507.length co94)) sn_ (.slice Ao95 t510.length co95)) (fun _ hk => ⟨hk.1.1.1, ⟨hk.1.1.2.1, ⟨hk.1.1.2.2.1, ⟨hk.1.1.2.2.2.1, ⟨hk.1.1.2.2.2.2.1, ⟨hk.1.1.2.2.2.2.2, hk.1.2⟩⟩⟩⟩⟩⟩)⟩, ⟨by (with_reducible repeat first | apply bkN | apply bkD | apply bkA); refine blk_far ?_ NB459_515.out _; (with_reducible repeat first | apply bkN | apply bkD | apply bkA); refine blk_far ?_ NB459_515.out _; (with_reducible repeat first | apply bkN | apply bkD | apply bkA); refine blk_far ?_ NB459_515.out _; (with_reducible repeat first | apply bkN | apply bkD | apply bkA); exact BK459.out⟩, ⟨by (with_reducible repeat first | apply bkN | apply bkD | apply bkA); refine blk_far ?_ NB469_515.out _; (with_reducible repeat first | apply bkN | apply bkD | apply bkA); refine blk_far ?_ NB469_515.out _; (with_reducible repeat first | apply bkN | apply bkD | apply bkA); refine blk_far ?_ NB469_515.out _; (with_reducible repeat first | apply bkN | apply bkD | apply bkA); exact BK469.out⟩, ⟨by (with_reducible repeat first | apply bkN | apply bkD | apply bkA); refine blk_far ?_ NB495_515.out _; (with_reducible repeat first | apply bkN | apply bkD | apply bkA); refine blk_far ?_ NB495_515.out _; (with_reducible repeat first | apply bkN | apply bkD | apply bkA); refine blk_far ?_ NB495_515.out _; (with_reducible repeat first | apply bkN | apply bkD | apply bkA); exact BK495.out⟩, ⟨by (with_reducible repeat first | apply bkN | apply bkD | apply bkA); refine blk_far ?_ NB505_515.out _; (with_reducible repeat first | apply bkN | apply bkD | apply bkA); refine blk_far ?_ NB505_515.out _; (with_reducible repeat first | apply bkN | apply bkD | apply bkA); refine blk_far ?_ NB505_515.out _; (with_reducible repeat first | apply bkN | apply bkD | apply bkA); exact BK505.out⟩, ⟨by (with_reducible repeat first | apply bkN | apply bkD | apply bkA); refine blk_put (cs := #[.int .i64 t506, .slice Ao94 t507.length co94, .slice none 0 0]) ?_ 2 _ rfl; (with_reducible repeat first | apply bkN | apply bkD | apply bkA); refine blk_put (cs := #[.int .i64 t506, .slice none 0 0, .slice none 0 0]) ?_ 1 _ rfl; (with_reducible repeat first | apply bkN | apply bkD | apply bkA); refine blk_put (cs := #[.int .i64 0, .slice none 0 0, .slice none 0 0]) ?_ 0 _ rfl; (with_reducible repeat first | apply bkN | apply bkD | apply bkA); exact BK515.out⟩, ⟨by repeat (first | (with_reducible first | exact HB.out | apply bwA | apply bwN | apply bwD | refine bs_ ?_ GE459.out | refine bs_ ?_ GE469.out | refine bs_ ?_ GE495.out | refine bs_ ?_ GE505.out | refine bs_ ?_ GE515.out) | exact HB.out)⟩⟩
              ·rw [if_neg c105] at H
               have c105b0 : (t504 == 14) = false := beq_eq_false_iff_ne.mpr c105
               have c105b1 : (t504 != 14) = true := bne_iff_ne.mpr c105
               have H' := am_ H
               clear H
               have hnb111 := NB459_469.out
               have hnc111 := NB469_459.out
               have hnb112 := NB459_495.out
               have hnc112 := NB495_459.out
               have hnb113 := NB459_505.out
               have hnc113 := NB505_459.out
               have hnb114 := NB459_515.out
               have hnc114 := NB515_459.out
               have hcz115_0 : w88.cell? ⟨gb459, 0, none⟩ = some (.int .i64 t451) := (blk_cell BK459.out 0).trans rfl
               have hcz115_1 : w88.cell? ⟨gb459, 1, none⟩ = some (.slice Ao16 t452.length co16) := (blk_cell BK459.out 1).trans rfl
               have hcz115_2 : w88.cell? ⟨gb459, 2, none⟩ = some (.slice Ao17 t455.length co17) := (blk_cell BK459.out 2).trans rfl
               have hfz115_0 := blk_frozen BK459.out 0
               have hfz115_1 := blk_frozen BK459.out 1
               have hfz115_2 := blk_frozen BK459.out 2
               have p516 : 0 ≤ (a3 : Int) := ofd_
               have q516 : a3 < (t452.length : Int) := ofd_
               (first | obtain ⟨ad516, e516, hx516_0⟩ := Kd.at_string (Kd.R_reads' HO_460001.out).2.2 a3 p516 q516 | (obtain ⟨Az_, cz_, ez_⟩ := Kd.R_slice HO_460001.out; subst ez_; obtain ⟨ad516, e516, hx516_0⟩ := Kd.at_string (Kd.R_reads' HO_460001.out).2.2 a3 p516 q516))
               cases e516
               have hn516_0 : ad516.block ≠ gb515 := Kd.own_blk (Kd.R_ne HO_460001.out BK515.out (by decide))
               have hn516_1 : ad516.block ≠ gb515 := Kd.own_blk (Kd.R_ne HO_460001.out BK515.out (by decide))
               have hn516_2 : ad516.block ≠ gb515 := Kd.own_blk (Kd.R_ne HO_460001.out BK515.out (by decide))
               replace hx516_0 := (cell_far (p := ⟨gb515, 0, none⟩) (by first | (rw [add_block]; exact hn516_0) | (show (Addr.add _ _).block ≠ _; rw [add_block]; exact hn516_0) | exact hn516_0) (.int .i64 t506)).trans hx516_0
               replace hx516_0 := (cell_far (p := ⟨gb515, 1, none⟩) (by first | (rw [add_block]; exact hn516_1) | (show (Addr.add _ _).block ≠ _; rw [add_block]; exact hn516_1) | exact hn516_1) (.slice Ao94 t507.length co94)).trans hx516_0
               replace hx516_0 := (cell_far (p := ⟨gb515, 2, none⟩) (by first | (rw [add_block]; exact hn516_2) | (show (Addr.add _ _).block ≠ _; rw [add_block]; exact hn516_2) | exact hn516_2) (.slice Ao95 t510.length co95)).trans hx516_0
               clear hn516_0
               clear hn516_1
               clear hn516_2
               replace p516 := eq_true p516
               replace q516 := eq_true q516
               go_wp2
               go_meet
               case rel => exact ⟨_, (true), (by first | rfl | (simp; done) | (simp [*]; done)), H', ⟨by have := HK1.out; have := HJ51.out; first | omega | exact Nat.le_refl _⟩, ⟨by (with_reducible repeat first | apply rwA | apply rwN | apply rwD); exact Kd.R_mono (rF gb515 2 (rF gb515 1 (rF gb515 0 (Kd.R_types HO_460001.out BK515.out (by decide)) sn_ (.int .i64 t506)) sn_ (.slice Ao94 t507.length co94)) sn_ (.slice Ao95 t510.length co95)) (fun _ hk => trivial)⟩, ⟨by (with_reducible repeat first | apply rwA | apply rwN | apply rwD); exact Kd.R_mono (rF gb515 2 (rF gb515 1 (rF gb515 0 (Kd.R_types HO_460002.out BK515.out (by decide)) sn_ (.int .i64 t506)) sn_ (.slice Ao94 t507.length co94)) sn_ (.slice Ao95 t510.length co95)) (fun _ hk => trivial)⟩, ⟨by (with_reducible repeat (first | apply vA | apply vN | apply vD)); exact Kd.V_mono (vF gb515 2 (vF gb515 1 (vF gb515 0 (Kd.V_mono HO_470001.out (fun k_ hk => (⟨hk, hk.2⟩ : _ ∧ k_ ≠ gb515))) sn_ (.int .i64 t506)) sn_ (.slice Ao94 t507.length co94)) sn_ (.slice Ao95 t510.length co95)) (fun _ hk => ⟨hk.1.1.1, ⟨hk.1.1.2.1, ⟨hk.1.1.2.2.1, ⟨hk.1.1.2.2.2.1, ⟨hk.1.1.2.2.2.2.1, ⟨hk.1.1.2.2.2.2.2, hk.1.2⟩⟩⟩⟩⟩⟩)⟩, ⟨by (with_reducible repeat (first | apply vA | apply vN | apply vD)); exact Kd.V_mono (vF gb515 2 (vF gb515 1 (vF gb515 0 (Kd.V_mono HO_470002.out (fun k_ hk => (⟨hk, hk.2⟩ : _ ∧ k_ ≠ gb515))) sn_ (.int .i64 t506)) sn_ (.slice Ao94 t507.length co94)) sn_ (.slice Ao95 t510.length co95)) (fun _ hk => ⟨hk.1.1.1, ⟨hk.1.1.2.1, ⟨hk.1.1.2.2.1, ⟨hk.1.1.2.2.2.1, ⟨hk.1.1.2.2.2.2.1, ⟨hk.1.1.2.2.2.2.2, hk.1.2⟩⟩⟩⟩⟩⟩)⟩, ⟨by (with_reducible repeat (first | apply vA | apply vN | apply vD)); exact Kd.V_mono (vF gb515 2 (vF gb515 1 (vF gb515 0 (Kd.V_mono HO489.out (fun k_ hk => (⟨hk, hk.2⟩ : _ ∧ k_ ≠ gb515))) sn_ (.int .i64 t506)) sn_ (.slice Ao94 t507.length co94)) sn_ (.slice Ao95 t510.length co95)) (fun _ hk => ⟨hk.1.1.1, ⟨hk.1.1.2.1, ⟨hk.1.1.2.2.1, ⟨hk.1.1.2.2.2.1, ⟨hk.1.1.2.2.2.2.1, ⟨hk.1.1.2.2.2.2.2, hk.1.2⟩⟩⟩⟩⟩⟩)⟩, ⟨by (with_reducible repeat (first | apply vA | apply vN | apply vD)); exact Kd.V_mono (vF gb515 2 (vF gb515 1 (vF gb515 0 (Kd.V_mono HO492.out (fun k_ hk => (⟨hk, hk.2⟩ : _ ∧ k_ ≠ gb515))) sn_ (.int .i64 t506)) sn_ (.slice Ao94 t507.length co94)) sn_ (.slice Ao95 t510.length co95)) (fun _ hk => ⟨hk.1.1.1, ⟨hk.1.1.2.1, ⟨hk.1.1.2.2.1, ⟨hk.1.1.2.2.2.1, ⟨hk.1.1.2.2.2.2.1, ⟨hk.1.1.2.2.2.2.2, hk.1.2⟩⟩⟩⟩⟩⟩)⟩, ⟨by (with_reducible repeat (first | apply vA | apply vN | apply vD)); exact Kd.V_mono (vF gb515 2 (vF gb515 1 (vF gb515 0 (Kd.V_mono HO499.out (fun k_ hk => (⟨hk, hk.2⟩ : _ ∧ k_ ≠ gb515))) sn_ (.int .i64 t506)) sn_ (.slice Ao94 t507.length co94)) sn_ (.slice Ao95 t510.length co95)) (fun _ hk => ⟨hk.1.1.1, ⟨hk.1.1.2.1, ⟨hk.1.1.2.2.1, ⟨hk.1.1.2.2.2.1, ⟨hk.1.1.2.2.2.2.1, ⟨hk.1.1.2.2.2.2.2, hk.1.2⟩⟩⟩⟩⟩⟩)⟩, ⟨by (with_reducible repeat (first | apply vA | apply vN | apply vD)); exact Kd.V_mono (vF gb515 2 (vF gb515 1 (vF gb515 0 (Kd.V_mono HO502.out (fun k_ hk => (⟨hk, hk.2⟩ : _ ∧ k_ ≠ gb515))) sn_ (.int .i64 t506)) sn_ (.slice Ao94 t507.length co94)) sn_ (.slice Ao95 t510.length co95)) (fun _ hk => ⟨hk.1.1.1, ⟨hk.1.1.2.1, ⟨hk.1.1.2.2.1, ⟨hk.1.1.2.2.2.1, ⟨hk.1.1.2.2.2.2.1, ⟨hk.1.1.2.2.2.2.2, hk.1.2⟩⟩⟩⟩⟩⟩)⟩, ⟨by (with_reducible repeat (first | apply vA | apply vN | apply vD)); exact Kd.V_mono (vF gb515 2 (vF gb515 1 (vF gb515 0 (Kd.V_mono HO509.out (fun k_ hk => (⟨hk, hk.2⟩ : _ ∧ k_ ≠ gb515))) sn_ (.int .i64 t506)) sn_ (.slice Ao94 t507.length co94)) sn_ (.slice Ao95 t510.length co95)) (fun _ hk => ⟨hk.1.1.1, ⟨hk.1.1.2.1, ⟨hk.1.1.2.2.1, ⟨hk.1.1.2.2.2.1, ⟨hk.1.1.2.2.2.2.1, ⟨hk.1.1.2.2.2.2.2, hk.1.2⟩⟩⟩⟩⟩⟩)⟩, ⟨by (with_reducible repeat (first | apply vA | apply vN | apply vD)); exact Kd.V_mono (vF gb515 2 (vF gb515 1 (vF gb515 0 (Kd.V_mono HO512.out (fun k_ hk => (⟨hk, hk.2⟩ : _ ∧ k_ ≠ gb515))) sn_ (.int .i64 t506)) sn_ (.slice Ao94 t507.length co94)) sn_ (.slice Ao95 t510.length co95)) (fun _ hk => ⟨hk.1.1.1, ⟨hk.1.1.2.1, ⟨hk.1.1.2.2.1, ⟨hk.1.1.2.2.2.1, ⟨hk.1.1.2.2.2.2.1, ⟨hk.1.1.2.2.2.2.2, hk.1.2⟩⟩⟩⟩⟩⟩)⟩, ⟨by (with_reducible repeat first | apply bkN | apply bkD | apply bkA); refine blk_far ?_ NB459_515.out _; (with_reducible repeat first | apply bkN | apply bkD | apply bkA); refine blk_far ?_ NB459_515.out _; (with_reducible repeat first | apply bkN | apply bkD | apply bkA); refine blk_far ?_ NB459_515.out _; (with_reducible repeat first | apply bkN | apply bkD | apply bkA); exact BK459.out⟩, ⟨by (with_reducible repeat first | apply bkN | apply bkD | apply bkA); refine blk_far ?_ NB469_515.out _; (with_reducible repeat first | apply bkN | apply bkD | apply bkA); refine blk_far ?_ NB469_515.out _; (with_reducible repeat first | apply bkN | apply bkD | apply bkA); refine blk_far ?_ NB469_515.out _; (with_reducible repeat first | apply bkN | apply bkD | apply bkA); exact BK469.out⟩, ⟨by (with_reducible repeat first | apply bkN | apply bkD | apply bkA); refine blk_far ?_ NB495_515.out _; (with_reducible repeat first | apply bkN | apply bkD | apply bkA); refine blk_far ?_ NB495_515.out _; (with_reducible repeat first | apply bkN | apply bkD | apply bkA); refine blk_far ?_ NB495_515.out _; (with_reducible repeat first | apply bkN | apply bkD | apply bkA); exact BK495.out⟩, ⟨by (with_reducible repeat first | apply bkN | apply bkD | apply bkA); refine blk_far ?_ NB505_515.out _; (with_reducible repeat first | apply bkN | apply bkD | apply bkA); refine blk_far ?_ NB505_515.out _; (with_reducible repeat first | apply bkN | apply bkD | apply bkA); refine blk_far ?_ NB505_515.out _; (with_reducible repeat first | apply bkN | apply bkD | apply bkA); exact BK505.out⟩, ⟨by (with_reducible repeat first | apply bkN | apply bkD | apply bkA); refine blk_put (cs := #[.int .i64 t506, .slice Ao94 t507.length co94, .slice none 0 0]) ?_ 2 _ rfl; (with_reducible repeat first | apply bkN | apply bkD | apply bkA); refine blk_put (cs := #[.int .i64 t506, .slice none 0 0, .slice none 0 0]) ?_ 1 _ rfl; (with_reducible repeat first | apply bkN | apply bkD | apply bkA); refine blk_put (cs := #[.int .i64 0, .slice none 0 0, .slice none 0 0]) ?_ 0 _ rfl; (with_reducible repeat first | apply bkN | apply bkD | apply bkA); exact BK515.out⟩, ⟨by repeat (first | (with_reducible first | exact HB.out | apply bwA | apply bwN | apply bwD | refine bs_ ?_ GE459.out | refine bs_ ?_ GE469.out | refine bs_ ?_ GE495.out | refine bs_ ?_ GE505.out | refine bs_ ?_ GE515.out) | exact HB.out)⟩⟩
             ·rw [if_neg c104] at H
              have c104b0 : (t494 == 0) = false := beq_eq_false_iff_ne.mpr c104
              (try (have c104b9 : (t450.toList == (rdOf ByteArray.empty t452 a3).toList) = false := by simpa [c104b0] using c98b0))
              have c104b1 : (t494 != 0) = true := bne_iff_ne.mpr c104
              by_cases c116 : t494 = 9
              ·rw [if_pos c116] at H
               have c116b0 : (t494 == 9) = true := beq_iff_eq.mpr c116
               have c116b1 : (t494 != 9) = false := bne_eq_false_iff_eq.mpr c116
               clear c116
               by_cases c117 : t504 = 14
               ·rw [if_pos c117] at H
                have c117b0 : (t504 == 14) = true := beq_iff_eq.mpr c117
                have c117b1 : (t504 != 14) = false := bne_eq_false_iff_eq.mpr c117
                clear c117
                have H' := am_ H
                clear H
                have hnb118 := NB459_469.out
                have hnc118 := NB469_459.out
                have hnb119 := NB459_495.out
                have hnc119 := NB495_459.out
                have hnb120 := NB459_505.out
                have hnc120 := NB505_459.out
                have hnb121 := NB459_515.out
                have hnc121 := NB515_459.out
                have hcz122_0 : w88.cell? ⟨gb459, 0, none⟩ = some (.int .i64 t451) := (blk_cell BK459.out 0).trans rfl
                have hcz122_1 : w88.cell? ⟨gb459, 1, none⟩ = some (.slice Ao16 t452.length co16) := (blk_cell BK459.out 1).trans rfl
                have hcz122_2 : w88.cell? ⟨gb459, 2, none⟩ = some (.slice Ao17 t455.length co17) := (blk_cell BK459.out 2).trans rfl
                have hfz122_0 := blk_frozen BK459.out 0
                have hfz122_1 := blk_frozen BK459.out 1
                have hfz122_2 := blk_frozen BK459.out 2
                have p516 : 0 ≤ (a3 : Int) := ofd_
                have q516 : a3 < (t452.length : Int) := ofd_
                (first | obtain ⟨ad516, e516, hx516_0⟩ := Kd.at_string (Kd.R_reads' HO_460001.out).2.2 a3 p516 q516 | (obtain ⟨Az_, cz_, ez_⟩ := Kd.R_slice HO_460001.out; subst ez_; obtain ⟨ad516, e516, hx516_0⟩ := Kd.at_string (Kd.R_reads' HO_460001.out).2.2 a3 p516 q516))
                cases e516
                have hn516_0 : ad516.block ≠ gb515 := Kd.own_blk (Kd.R_ne HO_460001.out BK515.out (by decide))
                have hn516_1 : ad516.block ≠ gb515 := Kd.own_blk (Kd.R_ne HO_460001.out BK515.out (by decide))
                have hn516_2 : ad516.block ≠ gb515 := Kd.own_blk (Kd.R_ne HO_460001.out BK515.out (by decide))
                replace hx516_0 := (cell_far (p := ⟨gb515, 0, none⟩) (by first | (rw [add_block]; exact hn516_0) | (show (Addr.add _ _).block ≠ _; rw [add_block]; exact hn516_0) | exact hn516_0) (.int .i64 t506)).trans hx516_0
                replace hx516_0 := (cell_far (p := ⟨gb515, 1, none⟩) (by first | (rw [add_block]; exact hn516_1) | (show (Addr.add _ _).block ≠ _; rw [add_block]; exact hn516_1) | exact hn516_1) (.slice Ao94 t507.length co94)).trans hx516_0
                replace hx516_0 := (cell_far (p := ⟨gb515, 2, none⟩) (by first | (rw [add_block]; exact hn516_2) | (show (Addr.add _ _).block ≠ _; rw [add_block]; exact hn516_2) | exact hn516_2) (.slice Ao95 t510.length co95)).trans hx516_0
                clear hn516_0
                clear hn516_1
                clear hn516_2
                replace p516 := eq_true p516
                replace q516 := eq_true q516
                go_wp2
                go_meet
                case rel => exact ⟨_, ((t514 != 1)), (by first | rfl | (simp; done) | (simp [*]; done)), H', ⟨by have := HK1.out; have := HJ51.out; first | omega | exact Nat.le_refl _⟩, ⟨by (with_reducible repeat first | apply rwA | apply rwN | apply rwD); exact Kd.R_mono (rF gb515 2 (rF gb515 1 (rF gb515 0 (Kd.R_types HO_460001.out BK515.out (by decide)) sn_ (.int .i64 t506)) sn_ (.slice Ao94 t507.length co94)) sn_ (.slice Ao95 t510.length co95)) (fun _ hk => trivial)⟩, ⟨by (with_reducible repeat first | apply rwA | apply rwN | apply rwD); exact Kd.R_mono (rF gb515 2 (rF gb515 1 (rF gb515 0 (Kd.R_types HO_460002.out BK515.out (by decide)) sn_ (.int .i64 t506)) sn_ (.slice Ao94 t507.length co94)) sn_ (.slice Ao95 t510.length co95)) (fun _ hk => trivial)⟩, ⟨by (with_reducible repeat (first | apply vA | apply vN | apply vD)); exact Kd.V_mono (vF gb515 2 (vF gb515 1 (vF gb515 0 (Kd.V_mono HO_470001.out (fun k_ hk => (⟨hk, hk.2⟩ : _ ∧ k_ ≠ gb515))) sn_ (.int .i64 t506)) sn_ (.slice Ao94 t507.length co94)) sn_ (.slice Ao95 t510.length co95)) (fun _ hk => ⟨hk.1.1.1, ⟨hk.1.1.2.1, ⟨hk.1.1.2.2.1, ⟨hk.1.1.2.2.2.1, ⟨hk.1.1.2.2.2.2.1, ⟨hk.1.1.2.2.2.2.2, hk.1.2⟩⟩⟩⟩⟩⟩)⟩, ⟨by (with_reducible repeat (first | apply vA | apply vN | apply vD)); exact Kd.V_mono (vF gb515 2 (vF gb515 1 (vF gb515 0 (Kd.V_mono HO_470002.out (fun k_ hk => (⟨hk, hk.2⟩ : _ ∧ k_ ≠ gb515))) sn_ (.int .i64 t506)) sn_ (.slice Ao94 t507.length co94)) sn_ (.slice Ao95 t510.length co95)) (fun _ hk => ⟨hk.1.1.1, ⟨hk.1.1.2.1, ⟨hk.1.1.2.2.1, ⟨hk.1.1.2.2.2.1, ⟨hk.1.1.2.2.2.2.1, ⟨hk.1.1.2.2.2.2.2, hk.1.2⟩⟩⟩⟩⟩⟩)⟩, ⟨by (with_reducible repeat (first | apply vA | apply vN | apply vD)); exact Kd.V_mono (vF gb515 2 (vF gb515 1 (vF gb515 0 (Kd.V_mono HO489.out (fun k_ hk => (⟨hk, hk.2⟩ : _ ∧ k_ ≠ gb515))) sn_ (.int .i64 t506)) sn_ (.slice Ao94 t507.length co94)) sn_ (.slice Ao95 t510.length co95)) (fun _ hk => ⟨hk.1.1.1, ⟨hk.1.1.2.1, ⟨hk.1.1.2.2.1, ⟨hk.1.1.2.2.2.1, ⟨hk.1.1.2.2.2.2.1, ⟨hk.1.1.2.2.2.2.2, hk.1.2⟩⟩⟩⟩⟩⟩)⟩, ⟨by (with_reducible repeat (first | apply vA | apply vN | apply vD)); exact Kd.V_mono (vF gb515 2 (vF gb515 1 (vF gb515 0 (Kd.V_mono HO492.out (fun k_ hk => (⟨hk, hk.2⟩ : _ ∧ k_ ≠ gb515))) sn_ (.int .i64 t506)) sn_ (.slice Ao94 t507.length co94)) sn_ (.slice Ao95 t510.length co95)) (fun _ hk => ⟨hk.1.1.1, ⟨hk.1.1.2.1, ⟨hk.1.1.2.2.1, ⟨hk.1.1.2.2.2.1, ⟨hk.1.1.2.2.2.2.1, ⟨hk.1.1.2.2.2.2.2, hk.1.2⟩⟩⟩⟩⟩⟩)⟩, ⟨by (with_reducible repeat (first | apply vA | apply vN | apply vD)); exact Kd.V_mono (vF gb515 2 (vF gb515 1 (vF gb515 0 (Kd.V_mono HO499.out (fun k_ hk => (⟨hk, hk.2⟩ : _ ∧ k_ ≠ gb515))) sn_ (.int .i64 t506)) sn_ (.slice Ao94 t507.length co94)) sn_ (.slice Ao95 t510.length co95)) (fun _ hk => ⟨hk.1.1.1, ⟨hk.1.1.2.1, ⟨hk.1.1.2.2.1, ⟨hk.1.1.2.2.2.1, ⟨hk.1.1.2.2.2.2.1, ⟨hk.1.1.2.2.2.2.2, hk.1.2⟩⟩⟩⟩⟩⟩)⟩, ⟨by (with_reducible repeat (first | apply vA | apply vN | apply vD)); exact Kd.V_mono (vF gb515 2 (vF gb515 1 (vF gb515 0 (Kd.V_mono HO502.out (fun k_ hk => (⟨hk, hk.2⟩ : _ ∧ k_ ≠ gb515))) sn_ (.int .i64 t506)) sn_ (.slice Ao94 t507.length co94)) sn_ (.slice Ao95 t510.length co95)) (fun _ hk => ⟨hk.1.1.1, ⟨hk.1.1.2.1, ⟨hk.1.1.2.2.1, ⟨hk.1.1.2.2.2.1, ⟨hk.1.1.2.2.2.2.1, ⟨hk.1.1.2.2.2.2.2, hk.1.2⟩⟩⟩⟩⟩⟩)⟩, ⟨by (with_reducible repeat (first | apply vA | apply vN | apply vD)); exact Kd.V_mono (vF gb515 2 (vF gb515 1 (vF gb515 0 (Kd.V_mono HO509.out (fun k_ hk => (⟨hk, hk.2⟩ : _ ∧ k_ ≠ gb515))) sn_ (.int .i64 t506)) sn_ (.slice Ao94 t507.length co94)) sn_ (.slice Ao95 t510.length co95)) (fun _ hk => ⟨hk.1.1.1, ⟨hk.1.1.2.1, ⟨hk.1.1.2.2.1, ⟨hk.1.1.2.2.2.1, ⟨hk.1.1.2.2.2.2.1, ⟨hk.1.1.2.2.2.2.2, hk.1.2⟩⟩⟩⟩⟩⟩)⟩, ⟨by (with_reducible repeat (first | apply vA | apply vN | apply vD)); exact Kd.V_mono (vF gb515 2 (vF gb515 1 (vF gb515 0 (Kd.V_mono HO512.out (fun k_ hk => (⟨hk, hk.2⟩ : _ ∧ k_ ≠ gb515))) sn_ (.int .i64 t506)) sn_ (.slice Ao94 t507.length co94)) sn_ (.slice Ao95 t510.length co95)) (fun _ hk => ⟨hk.1.1.1, ⟨hk.1.1.2.1, ⟨hk.1.1.2.2.1, ⟨hk.1.1.2.2.2.1, ⟨hk.1.1.2.2.2.2.1, ⟨hk.1.1.2.2.2.2.2, hk.1.2⟩⟩⟩⟩⟩⟩)⟩, ⟨by (with_reducible repeat first | apply bkN | apply bkD | apply bkA); refine blk_far ?_ NB459_515.out _; (with_reducible repeat first | apply bkN | apply bkD | apply bkA); refine blk_far ?_ NB459_515.out _; (with_reducible repeat first | apply bkN | apply bkD | apply bkA); refine blk_far ?_ NB459_515.out _; (with_reducible repeat first | apply bkN | apply bkD | apply bkA); exact BK459.out⟩, ⟨by (with_reducible repeat first | apply bkN | apply bkD | apply bkA); refine blk_far ?_ NB469_515.out _; (with_reducible repeat first | apply bkN | apply bkD | apply bkA); refine blk_far ?_ NB469_515.out _; (with_reducible repeat first | apply bkN | apply bkD | apply bkA); refine blk_far ?_ NB469_515.out _; (with_reducible repeat first | apply bkN | apply bkD | apply bkA); exact BK469.out⟩, ⟨by (with_reducible repeat first | apply bkN | apply bkD | apply bkA); refine blk_far ?_ NB495_515.out _; (with_reducible repeat first | apply bkN | apply bkD | apply bkA); refine blk_far ?_ NB495_515.out _; (with_reducible repeat first | apply bkN | apply bkD | apply bkA); refine blk_far ?_ NB495_515.out _; (with_reducible repeat first | apply bkN | apply bkD | apply bkA); exact BK495.out⟩, ⟨by (with_reducible repeat first | apply bkN | apply bkD | apply bkA); refine blk_far ?_ NB505_515.out _; (with_reducible repeat first | apply bkN | apply bkD | apply bkA); refine blk_far ?_ NB505_515.out _; (with_reducible repeat first | apply bkN | apply bkD | apply bkA); refine blk_far ?_ NB505_515.out _; (with_reducible repeat first | apply bkN | apply bkD | apply bkA); exact BK505.out⟩, ⟨by (with_reducible repeat first | apply bkN | apply bkD | apply bkA); refine blk_put (cs := #[.int .i64 t506, .slice Ao94 t507.length co94, .slice none 0 0]) ?_ 2 _ rfl; (with_reducible repeat first | apply bkN | apply bkD | apply bkA); refine blk_put (cs := #[.int .i64 t506, .slice none 0 0, .slice none 0 0]) ?_ 1 _ rfl; (with_reducible repeat first | apply bkN | apply bkD | apply bkA); refine blk_put (cs := #[.int .i64 0, .slice none 0 0, .slice none 0 0]) ?_ 0 _ rfl; (with_reducible repeat first | apply bkN | apply bkD | apply bkA); exact BK515.out⟩, ⟨by repeat (first | (with_reducible first | exact HB.out | apply bwA | apply bwN | apply bwD | refine bs_ ?_ GE459.out | refine bs_ ?_ GE469.out | refine bs_ ?_ GE495.out | refine bs_ ?_ GE505.out | refine bs_ ?_ GE515.out) | exact HB.out)⟩⟩
               ·rw [if_neg c117] at H
                have c117b0 : (t504 == 14) = false := beq_eq_false_iff_ne.mpr c117
                have c117b1 : (t504 != 14) = true := bne_iff_ne.mpr c117
                have H' := am_ H
                clear H
                have hnb123 := NB459_469.out
                have hnc123 := NB469_459.out
                have hnb124 := NB459_495.out
                have hnc124 := NB495_459.out
                have hnb125 := NB459_505.out
                have hnc125 := NB505_459.out
                have hnb126 := NB459_515.out
                have hnc126 := NB515_459.out
                have hcz127_0 : w88.cell? ⟨gb459, 0, none⟩ = some (.int .i64 t451) := (blk_cell BK459.out 0).trans rfl
                have hcz127_1 : w88.cell? ⟨gb459, 1, none⟩ = some (.slice Ao16 t452.length co16) := (blk_cell BK459.out 1).trans rfl
                have hcz127_2 : w88.cell? ⟨gb459, 2, none⟩ = some (.slice Ao17 t455.length co17) := (blk_cell BK459.out 2).trans rfl
                have hfz127_0 := blk_frozen BK459.out 0
                have hfz127_1 := blk_frozen BK459.out 1
                have hfz127_2 := blk_frozen BK459.out 2
                have p516 : 0 ≤ (a3 : Int) := ofd_
                have q516 : a3 < (t452.length : Int) := ofd_
                (first | obtain ⟨ad516, e516, hx516_0⟩ := Kd.at_string (Kd.R_reads' HO_460001.out).2.2 a3 p516 q516 | (obtain ⟨Az_, cz_, ez_⟩ := Kd.R_slice HO_460001.out; subst ez_; obtain ⟨ad516, e516, hx516_0⟩ := Kd.at_string (Kd.R_reads' HO_460001.out).2.2 a3 p516 q516))
                cases e516
                have hn516_0 : ad516.block ≠ gb515 := Kd.own_blk (Kd.R_ne HO_460001.out BK515.out (by decide))
                have hn516_1 : ad516.block ≠ gb515 := Kd.own_blk (Kd.R_ne HO_460001.out BK515.out (by decide))
                have hn516_2 : ad516.block ≠ gb515 := Kd.own_blk (Kd.R_ne HO_460001.out BK515.out (by decide))
                replace hx516_0 := (cell_far (p := ⟨gb515, 0, none⟩) (by first | (rw [add_block]; exact hn516_0) | (show (Addr.add _ _).block ≠ _; rw [add_block]; exact hn516_0) | exact hn516_0) (.int .i64 t506)).trans hx516_0
                replace hx516_0 := (cell_far (p := ⟨gb515, 1, none⟩) (by first | (rw [add_block]; exact hn516_1) | (show (Addr.add _ _).block ≠ _; rw [add_block]; exact hn516_1) | exact hn516_1) (.slice Ao94 t507.length co94)).trans hx516_0
                replace hx516_0 := (cell_far (p := ⟨gb515, 2, none⟩) (by first | (rw [add_block]; exact hn516_2) | (show (Addr.add _ _).block ≠ _; rw [add_block]; exact hn516_2) | exact hn516_2) (.slice Ao95 t510.length co95)).trans hx516_0
                clear hn516_0
                clear hn516_1
                clear hn516_2
                replace p516 := eq_true p516
                replace q516 := eq_true q516
                go_wp2
                go_meet
                case rel => exact ⟨_, (true), (by first | rfl | (simp; done) | (simp [*]; done)), H', ⟨by have := HK1.out; have := HJ51.out; first | omega | exact Nat.le_refl _⟩, ⟨by (with_reducible repeat first | apply rwA | apply rwN | apply rwD); exact Kd.R_mono (rF gb515 2 (rF gb515 1 (rF gb515 0 (Kd.R_types HO_460001.out BK515.out (by decide)) sn_ (.int .i64 t506)) sn_ (.slice Ao94 t507.length co94)) sn_ (.slice Ao95 t510.length co95)) (fun _ hk => trivial)⟩, ⟨by (with_reducible repeat first | apply rwA | apply rwN | apply rwD); exact Kd.R_mono (rF gb515 2 (rF gb515 1 (rF gb515 0 (Kd.R_types HO_460002.out BK515.out (by decide)) sn_ (.int .i64 t506)) sn_ (.slice Ao94 t507.length co94)) sn_ (.slice Ao95 t510.length co95)) (fun _ hk => trivial)⟩, ⟨by (with_reducible repeat (first | apply vA | apply vN | apply vD)); exact Kd.V_mono (vF gb515 2 (vF gb515 1 (vF gb515 0 (Kd.V_mono HO_470001.out (fun k_ hk => (⟨hk, hk.2⟩ : _ ∧ k_ ≠ gb515))) sn_ (.int .i64 t506)) sn_ (.slice Ao94 t507.length co94)) sn_ (.slice Ao95 t510.length co95)) (fun _ hk => ⟨hk.1.1.1, ⟨hk.1.1.2.1, ⟨hk.1.1.2.2.1, ⟨hk.1.1.2.2.2.1, ⟨hk.1.1.2.2.2.2.1, ⟨hk.1.1.2.2.2.2.2, hk.1.2⟩⟩⟩⟩⟩⟩)⟩, ⟨by (with_reducible repeat (first | apply vA | apply vN | apply vD)); exact Kd.V_mono (vF gb515 2 (vF gb515 1 (vF gb515 0 (Kd.V_mono HO_470002.out (fun k_ hk => (⟨hk, hk.2⟩ : _ ∧ k_ ≠ gb515))) sn_ (.int .i64 t506)) sn_ (.slice Ao94 t507.length co94)) sn_ (.slice Ao95 t510.length co95)) (fun _ hk => ⟨hk.1.1.1, ⟨hk.1.1.2.1, ⟨hk.1.1.2.2.1, ⟨hk.1.1.2.2.2.1, ⟨hk.1.1.2.2.2.2.1, ⟨hk.1.1.2.2.2.2.2, hk.1.2⟩⟩⟩⟩⟩⟩)⟩, ⟨by (with_reducible repeat (first | apply vA | apply vN | apply vD)); exact Kd.V_mono (vF gb515 2 (vF gb515 1 (vF gb515 0 (Kd.V_mono HO489.out (fun k_ hk => (⟨hk, hk.2⟩ : _ ∧ k_ ≠ gb515))) sn_ (.int .i64 t506)) sn_ (.slice Ao94 t507.length co94)) sn_ (.slice Ao95 t510.length co95)) (fun _ hk => ⟨hk.1.1.1, ⟨hk.1.1.2.1, ⟨hk.1.1.2.2.1, ⟨hk.1.1.2.2.2.1, ⟨hk.1.1.2.2.2.2.1, ⟨hk.1.1.2.2.2.2.2, hk.1.2⟩⟩⟩⟩⟩⟩)⟩, ⟨by (with_reducible repeat (first | apply vA | apply vN | apply vD)); exact Kd.V_mono (vF gb515 2 (vF gb515 1 (vF gb515 0 (Kd.V_mono HO492.out (fun k_ hk => (⟨hk, hk.2⟩ : _ ∧ k_ ≠ gb515))) sn_ (.int .i64 t506)) sn_ (.slice Ao94 t507.length co94)) sn_ (.slice Ao95 t510.length co95)) (fun _ hk => ⟨hk.1.1.1, ⟨hk.1.1.2.1, ⟨hk.1.1.2.2.1, ⟨hk.1.1.2.2.2.1, ⟨hk.1.1.2.2.2.2.1, ⟨hk.1.1.2.2.2.2.2, hk.1.2⟩⟩⟩⟩⟩⟩)⟩, ⟨by (with_reducible repeat (first | apply vA | apply vN | apply vD)); exact Kd.V_mono (vF gb515 2 (vF gb515 1 (vF gb515 0 (Kd.V_mono HO499.out (fun k_ hk => (⟨hk, hk.2⟩ : _ ∧ k_ ≠ gb515))) sn_ (.int .i64 t506)) sn_ (.slice Ao94 t507.length co94)) sn_ (.slice Ao95 t510.length co95)) (fun _ hk => ⟨hk.1.1.1, ⟨hk.1.1.2.1, ⟨hk.1.1.2.2.1, ⟨hk.1.1.2.2.2.1, ⟨hk.1.1.2.2.2.2.1, ⟨hk.1.1.2.2.2.2.2, hk.1.2⟩⟩⟩⟩⟩⟩)⟩, ⟨by (with_reducible repeat (first | apply vA | apply vN | apply vD)); exact Kd.V_mono (vF gb515 2 (vF gb515 1 (vF gb515 0 (Kd.V_mono HO502.out (fun k_ hk => (⟨hk, hk.2⟩ : _ ∧ k_ ≠ gb515))) sn_ (.int .i64 t506)) sn_ (.slice Ao94 t507.length co94)) sn_ (.slice Ao95 t510.length co95)) (fun _ hk => ⟨hk.1.1.1, ⟨hk.1.1.2.1, ⟨hk.1.1.2.2.1, ⟨hk.1.1.2.2.2.1, ⟨hk.1.1.2.2.2.2.1, ⟨hk.1.1.2.2.2.2.2, hk.1.2⟩⟩⟩⟩⟩⟩)⟩, ⟨by (with_reducible repeat (first | apply vA | apply vN | apply vD)); exact Kd.V_mono (vF gb515 2 (vF gb515 1 (vF gb515 0 (Kd.V_mono HO509.out (fun k_ hk => (⟨hk, hk.2⟩ : _ ∧ k_ ≠ gb515))) sn_ (.int .i64 t506)) sn_ (.slice Ao94 t507.length co94)) sn_ (.slice Ao95 t510.length co95)) (fun _ hk => ⟨hk.1.1.1, ⟨hk.1.1.2.1, ⟨hk.1.1.2.2.1, ⟨hk.1.1.2.2.2.1, ⟨hk.1.1.2.2.2.2.1, ⟨hk.1.1.2.2.2.2.2, hk.1.2⟩⟩⟩⟩⟩⟩)⟩, ⟨by (with_reducible repeat (first | apply vA | apply vN | apply vD)); exact Kd.V_mono (vF gb515 2 (vF gb515 1 (vF gb515 0 (Kd.V_mono HO512.out (fun k_ hk => (⟨hk, hk.2⟩ : _ ∧ k_ ≠ gb515))) sn_ (.int .i64 t506)) sn_ (.slice Ao94 t507.length co94)) sn_ (.slice Ao95 t510.length co95)) (fun _ hk => ⟨hk.1.1.1, ⟨hk.1.1.2.1, ⟨hk.1.1.2.2.1, ⟨hk.1.1.2.2.2.1, ⟨hk.1.1.2.2.2.2.1, ⟨hk.1.1.2.2.2.2.2, hk.1.2⟩⟩⟩⟩⟩⟩)⟩, ⟨by (with_reducible repeat first | apply bkN | apply bkD | apply bkA); refine blk_far ?_ NB459_515.out _; (with_reducible repeat first | apply bkN | apply bkD | apply bkA); refine blk_far ?_ NB459_515.out _; (with_reducible repeat first | apply bkN | apply bkD | apply bkA); refine blk_far ?_ NB459_515.out _; (with_reducible repeat first | apply bkN | apply bkD | apply bkA); exact BK459.out⟩, ⟨by (with_reducible repeat first | apply bkN | apply bkD | apply bkA); refine blk_far ?_ NB469_515.out _; (with_reducible repeat first | apply bkN | apply bkD | apply bkA); refine blk_far ?_ NB469_515.out _; (with_reducible repeat first | apply bkN | apply bkD | apply bkA); refine blk_far ?_ NB469_515.out _; (with_reducible repeat first | apply bkN | apply bkD | apply bkA); exact BK469.out⟩, ⟨by (with_reducible repeat first | apply bkN | apply bkD | apply bkA); refine blk_far ?_ NB495_515.out _; (with_reducible repeat first | apply bkN | apply bkD | apply bkA); refine blk_far ?_ NB495_515.out _; (with_reducible repeat first | apply bkN | apply bkD | apply bkA); refine blk_far ?_ NB495_515.out _; (with_reducible repeat first | apply bkN | apply bkD | apply bkA); exact BK495.out⟩, ⟨by (with_reducible repeat first | apply bkN | apply bkD | apply bkA); refine blk_far ?_ NB505_515.out _; (with_reducible repeat first | apply bkN | apply bkD | apply bkA); refine blk_far ?_ NB505_515.out _; (with_reducible repeat first | apply bkN | apply bkD | apply bkA); refine blk_far ?_ NB505_515.out _; (with_reducible repeat first | apply bkN | apply bkD | apply bkA); exact BK505.out⟩, ⟨by (with_reducible repeat first | apply bkN | apply bkD | apply bkA); refine blk_put (cs := #[.int .i64 t506, .slice Ao94 t507.length co94, .slice none 0 0]) ?_ 2 _ rfl; (with_reducible repeat first | apply bkN | apply bkD | apply bkA); refine blk_put (cs := #[.int .i64 t506, .slice none 0 0, .slice none 0 0]) ?_ 1 _ rfl; (with_reducible repeat first | apply bkN | apply bkD | apply bkA); refine blk_put (cs := #[.int .i64 0, .slice none 0 0, .slice none 0 0]) ?_ 0 _ rfl; (with_reducible repeat first | apply bkN | apply bkD | apply bkA); exact BK515.out⟩, ⟨by repeat (first | (with_reducible first | exact HB.out | apply bwA | apply bwN | apply bwD | refine bs_ ?_ GE459.out | refine bs_ ?_ GE469.out | refine bs_ ?_ GE495.out | refine bs_ ?_ GE505.out | refine bs_ ?_ GE515.out) | exact HB.out)⟩⟩
              ·rw [if_neg c116] at H
               have c116b0 : (t494 == 9) = false := beq_eq_false_iff_ne.mpr c116
               have c116b1 : (t494 != 9) = true := bne_iff_ne.mpr c116
               have H' := am_ H
               clear H
               have hnb128 := NB459_469.out
               have hnc128 := NB469_459.out
               have hnb129 := NB459_495.out
               have hnc129 := NB495_459.out
               have hnb130 := NB459_505.out
               have hnc130 := NB505_459.out
               have hnb131 := NB459_515.out
               have hnc131 := NB515_459.out
               have hcz132_0 : w88.cell? ⟨gb459, 0, none⟩ = some (.int .i64 t451) := (blk_cell BK459.out 0).trans rfl
               have hcz132_1 : w88.cell? ⟨gb459, 1, none⟩ = some (.slice Ao16 t452.length co16) := (blk_cell BK459.out 1).trans rfl
               have hcz132_2 : w88.cell? ⟨gb459, 2, none⟩ = some (.slice Ao17 t455.length co17) := (blk_cell BK459.out 2).trans rfl
               have hfz132_0 := blk_frozen BK459.out 0
               have hfz132_1 := blk_frozen BK459.out 1
               have hfz132_2 := blk_frozen BK459.out 2
               have p516 : 0 ≤ (a3 : Int) := ofd_
               have q516 : a3 < (t452.length : Int) := ofd_
               (first | obtain ⟨ad516, e516, hx516_0⟩ := Kd.at_string (Kd.R_reads' HO_460001.out).2.2 a3 p516 q516 | (obtain ⟨Az_, cz_, ez_⟩ := Kd.R_slice HO_460001.out; subst ez_; obtain ⟨ad516, e516, hx516_0⟩ := Kd.at_string (Kd.R_reads' HO_460001.out).2.2 a3 p516 q516))
               cases e516
               have hn516_0 : ad516.block ≠ gb515 := Kd.own_blk (Kd.R_ne HO_460001.out BK515.out (by decide))
               have hn516_1 : ad516.block ≠ gb515 := Kd.own_blk (Kd.R_ne HO_460001.out BK515.out (by decide))
               have hn516_2 : ad516.block ≠ gb515 := Kd.own_blk (Kd.R_ne HO_460001.out BK515.out (by decide))
               replace hx516_0 := (cell_far (p := ⟨gb515, 0, none⟩) (by first | (rw [add_block]; exact hn516_0) | (show (Addr.add _ _).block ≠ _; rw [add_block]; exact hn516_0) | exact hn516_0) (.int .i64 t506)).trans hx516_0
               replace hx516_0 := (cell_far (p := ⟨gb515, 1, none⟩) (by first | (rw [add_block]; exact hn516_1) | (show (Addr.add _ _).block ≠ _; rw [add_block]; exact hn516_1) | exact hn516_1) (.slice Ao94 t507.length co94)).trans hx516_0
               replace hx516_0 := (cell_far (p := ⟨gb515, 2, none⟩) (by first | (rw [add_block]; exact hn516_2) | (show (Addr.add _ _).block ≠ _; rw [add_block]; exact hn516_2) | exact hn516_2) (.slice Ao95 t510.length co95)).trans hx516_0
               clear hn516_0
               clear hn516_1
               clear hn516_2
               replace p516 := eq_true p516
               replace q516 := eq_true q516
               go_wp2
               go_meet
               case rel => exact ⟨_, (true), (by first | rfl | (simp; done) | (simp [*]; done)), H', ⟨by have := HK1.out; have := HJ51.out; first | omega | exact Nat.le_refl _⟩, ⟨by (with_reducible repeat first | apply rwA | apply rwN | apply rwD); exact Kd.R_mono (rF gb515 2 (rF gb515 1 (rF gb515 0 (Kd.R_types HO_460001.out BK515.out (by decide)) sn_ (.int .i64 t506)) sn_ (.slice Ao94 t507.length co94)) sn_ (.slice Ao95 t510.length co95)) (fun _ hk => trivial)⟩, ⟨by (with_reducible repeat first | apply rwA | apply rwN | apply rwD); exact Kd.R_mono (rF gb515 2 (rF gb515 1 (rF gb515 0 (Kd.R_types HO_460002.out BK515.out (by decide)) sn_ (.int .i64 t506)) sn_ (.slice Ao94 t507.length co94)) sn_ (.slice Ao95 t510.length co95)) (fun _ hk => trivial)⟩, ⟨by (with_reducible repeat (first | apply vA | apply vN | apply vD)); exact Kd.V_mono (vF gb515 2 (vF gb515 1 (vF gb515 0 (Kd.V_mono HO_470001.out (fun k_ hk => (⟨hk, hk.2⟩ : _ ∧ k_ ≠ gb515))) sn_ (.int .i64 t506)) sn_ (.slice Ao94 t507.length co94)) sn_ (.slice Ao95 t510.length co95)) (fun _ hk => ⟨hk.1.1.1, ⟨hk.1.1.2.1, ⟨hk.1.1.2.2.1, ⟨hk.1.1.2.2.2.1, ⟨hk.1.1.2.2.2.2.1, ⟨hk.1.1.2.2.2.2.2, hk.1.2⟩⟩⟩⟩⟩⟩)⟩, ⟨by (with_reducible repeat (first | apply vA | apply vN | apply vD)); exact Kd.V_mono (vF gb515 2 (vF gb515 1 (vF gb515 0 (Kd.V_mono HO_470002.out (fun k_ hk => (⟨hk, hk.2⟩ : _ ∧ k_ ≠ gb515))) sn_ (.int .i64 t506)) sn_ (.slice Ao94 t507.length co94)) sn_ (.slice Ao95 t510.length co95)) (fun _ hk => ⟨hk.1.1.1, ⟨hk.1.1.2.1, ⟨hk.1.1.2.2.1, ⟨hk.1.1.2.2.2.1, ⟨hk.1.1.2.2.2.2.1, ⟨hk.1.1.2.2.2.2.2, hk.1.2⟩⟩⟩⟩⟩⟩)⟩, ⟨by (with_reducible repeat (first | apply vA | apply vN | apply vD)); exact Kd.V_mono (vF gb515 2 (vF gb515 1 (vF gb515 0 (Kd.V_mono HO489.out (fun k_ hk => (⟨hk, hk.2⟩ : _ ∧ k_ ≠ gb515))) sn_ (.int .i64 t506)) sn_ (.slice Ao94 t507.length co94)) sn_ (.slice Ao95 t510.length co95)) (fun _ hk => ⟨hk.1.1.1, ⟨hk.1.1.2.1, ⟨hk.1.1.2.2.1, ⟨hk.1.1.2.2.2.1, ⟨hk.1.1.2.2.2.2.1, ⟨hk.1.1.2.2.2.2.2, hk.1.2⟩⟩⟩⟩⟩⟩)⟩, ⟨by (with_reducible repeat (first | apply vA | apply vN | apply vD)); exact Kd.V_mono (vF gb515 2 (vF gb515 1 (vF gb515 0 (Kd.V_mono HO492.out (fun k_ hk => (⟨hk, hk.2⟩ : _ ∧ k_ ≠ gb515))) sn_ (.int .i64 t506)) sn_ (.slice Ao94 t507.length co94)) sn_ (.slice Ao95 t510.length co95)) (fun _ hk => ⟨hk.1.1.1, ⟨hk.1.1.2.1, ⟨hk.1.1.2.2.1, ⟨hk.1.1.2.2.2.1, ⟨hk.1.1.2.2.2.2.1, ⟨hk.1.1.2.2.2.2.2, hk.1.2⟩⟩⟩⟩⟩⟩)⟩, ⟨by (with_reducible repeat (first | apply vA | apply vN | apply vD)); exact Kd.V_mono (vF gb515 2 (vF gb515 1 (vF gb515 0 (Kd.V_mono HO499.out (fun k_ hk => (⟨hk, hk.2⟩ : _ ∧ k_ ≠ gb515))) sn_ (.int .i64 t506)) sn_ (.slice Ao94 t507.length co94)) sn_ (.slice Ao95 t510.length co95)) (fun _ hk => ⟨hk.1.1.1, ⟨hk.1.1.2.1, ⟨hk.1.1.2.2.1, ⟨hk.1.1.2.2.2.1, ⟨hk.1.1.2.2.2.2.1, ⟨hk.1.1.2.2.2.2.2, hk.1.2⟩⟩⟩⟩⟩⟩)⟩, ⟨by (with_reducible repeat (first | apply vA | apply vN | apply vD)); exact Kd.V_mono (vF gb515 2 (vF gb515 1 (vF gb515 0 (Kd.V_mono HO502.out (fun k_ hk => (⟨hk, hk.2⟩ : _ ∧ k_ ≠ gb515))) sn_ (.int .i64 t506)) sn_ (.slice Ao94 t507.length co94)) sn_ (.slice Ao95 t510.length co95)) (fun _ hk => ⟨hk.1.1.1, ⟨hk.1.1.2.1, ⟨hk.1.1.2.2.1, ⟨hk.1.1.2.2.2.1, ⟨hk.1.1.2.2.2.2.1, ⟨hk.1.1.2.2.2.2.2, hk.1.2⟩⟩⟩⟩⟩⟩)⟩, ⟨by (with_reducible repeat (first | apply vA | apply vN | apply vD)); exact Kd.V_mono (vF gb515 2 (vF gb515 1 (vF gb515 0 (Kd.V_mono HO509.out (fun k_ hk => (⟨hk, hk.2⟩ : _ ∧ k_ ≠ gb515))) sn_ (.int .i64 t506)) sn_ (.slice Ao94 t507.length co94)) sn_ (.slice Ao95 t510.length co95)) (fun _ hk => ⟨hk.1.1.1, ⟨hk.1.1.2.1, ⟨hk.1.1.2.2.1, ⟨hk.1.1.2.2.2.1, ⟨hk.1.1.2.2.2.2.1, ⟨hk.1.1.2.2.2.2.2, hk.1.2⟩⟩⟩⟩⟩⟩)⟩, ⟨by (with_reducible repeat (first | apply vA | apply vN | apply vD)); exact Kd.V_mono (vF gb515 2 (vF gb515 1 (vF gb515 0 (Kd.V_mono HO512.out (fun k_ hk => (⟨hk, hk.2⟩ : _ ∧ k_ ≠ gb515))) sn_ (.int .i64 t506)) sn_ (.slice Ao94 t507.length co94)) sn_ (.slice Ao95 t510.length co95)) (fun _ hk => ⟨hk.1.1.1, ⟨hk.1.1.2.1, ⟨hk.1.1.2.2.1, ⟨hk.1.1.2.2.2.1, ⟨hk.1.1.2.2.2.2.1, ⟨hk.1.1.2.2.2.2.2, hk.1.2⟩⟩⟩⟩⟩⟩)⟩, ⟨by (with_reducible repeat first | apply bkN | apply bkD | apply bkA); refine blk_far ?_ NB459_515.out _; (with_reducible repeat first | apply bkN | apply bkD | apply bkA); refine blk_far ?_ NB459_515.out _; (with_reducible repeat first | apply bkN | apply bkD | apply bkA); refine blk_far ?_ NB459_515.out _; (with_reducible repeat first | apply bkN | apply bkD | apply bkA); exact BK459.out⟩, ⟨by (with_reducible repeat first | apply bkN | apply bkD | apply bkA); refine blk_far ?_ NB469_515.out _; (with_reducible repeat first | apply bkN | apply bkD | apply bkA); refine blk_far ?_ NB469_515.out _; (with_reducible repeat first | apply bkN | apply bkD | apply bkA); refine blk_far ?_ NB469_515.out _; (with_reducible repeat first | apply bkN | apply bkD | apply bkA); exact BK469.out⟩, ⟨by (with_reducible repeat first | apply bkN | apply bkD | apply bkA); refine blk_far ?_ NB495_515.out _; (with_reducible repeat first | apply bkN | apply bkD | apply bkA); refine blk_far ?_ NB495_515.out _; (with_reducible repeat first | apply bkN | apply bkD | apply bkA); refine blk_far ?_ NB495_515.out _; (with_reducible repeat first | apply bkN | apply bkD | apply bkA); exact BK495.out⟩, ⟨by (with_reducible repeat first | apply bkN | apply bkD | apply bkA); refine blk_far ?_ NB505_515.out _; (with_reducible repeat first | apply bkN | apply bkD | apply bkA); refine blk_far ?_ NB505_515.out _; (with_reducible repeat first | apply bkN | apply bkD | apply bkA); refine blk_far ?_ NB505_515.out _; (with_reducible repeat first | apply bkN | apply bkD | apply bkA); exact BK505.out⟩, ⟨by (with_reducible repeat first | apply bkN | apply bkD | apply bkA); refine blk_put (cs := #[.int .i64 t506, .slice Ao94 t507.length co94, .slice none 0 0]) ?_ 2 _ rfl; (with_reducible repeat first | apply bkN | apply bkD | apply bkA); refine blk_put (cs := #[.int .i64 t506, .slice none 0 0, .slice none 0 0]) ?_ 1 _ rfl; (with_reducible repeat first | apply bkN | apply bkD | apply bkA); refine blk_put (cs := #[.int .i64 0, .slice none 0 0, .slice none 0 0]) ?_ 0 _ rfl; (with_reducible repeat first | apply bkN | apply bkD | apply bkA); exact BK515.out⟩, ⟨by repeat (first | (with_reducible first | exact HB.out | apply bwA | apply bwN | apply bwD | refine bs_ ?_ GE459.out | refine bs_ ?_ GE469.out | refine bs_ ?_ GE495.out | refine bs_ ?_ GE505.out | refine bs_ ?_ GE515.out) | exact HB.out)⟩⟩
           ·rw [if_neg c97] at H
            exact absurd H (by simp)
          ·rw [if_neg c96] at H
           exact absurd H (by simp)
         case rest =>
          clear HC62
          try clear c1
          try clear c2
          try clear p2
          try clear c3
          try clear c4
          try clear p4
          try clear q4
          try clear hx4
          try clear c5
          try clear p5
          try clear q5
          try clear hx5
          try clear c6
          try clear p6
          try clear c7
          try clear c8
          try clear c9
          try clear c9b0
          try clear c9b1
          try clear c10
          try clear c11
          try clear c11b0
          try clear c11b1
          try clear c12
          try clear c13
          try clear c14
          try clear c20
          try clear c22
          try clear c23
          try clear c24
          try clear c25
          try clear c27
          try clear c27b0
          try clear c28
          try clear c28b0
          try clear c29
          try clear c29b0
          try clear c31
          try clear c32
          try clear c32b0
          try clear c32b1
          try clear c34
          try clear c35
          try clear c38
          try clear c45
          try clear c46
          try clear c47
          try clear p47
          try clear q47
          try clear hx47
          try clear p51
          try clear q51
          try clear hx51
          try clear c53
          try clear c53b0
          try clear c54
          try clear c56
          try clear c63
          try clear p64
          try clear c70
          try clear c71
          try clear c79
          try clear c80
          try clear c81
          try clear c89
          try clear c90
          try clear c91
          try clear c92
          try clear c96
          try clear c96b0
          try clear c97
          try clear c97b0
          try clear c98
          try clear c98b0
          try clear c98b1
          try clear c98b2
          try clear c99
          try clear c100
          try clear c101
          try clear c102
          try clear c104
          try clear c104b0
          try clear c104b1
          try clear c105
          try clear c105b0
          try clear c105b1
          try clear c106
          try clear c107
          try clear c108
          try clear c109
          try clear c111
          try clear c112
          try clear c113
          try clear c114
          try clear c116
          try clear c116b0
          try clear c116b1
          try clear c117
          try clear c117b0
          try clear c117b1
          try clear c118
          try clear c119
          try clear c120
          try clear c121
          try clear c123
          try clear c124
          try clear c125
          try clear c126
          try clear c128
          try clear c129
          try clear c130
          try clear c131
          try clear hcz103_0
          try clear hcz103_1
          try clear hcz103_2
          try clear hcz110_0
          try clear hcz110_1
          try clear hcz110_2
          try clear hcz115_0
          try clear hcz115_1
          try clear hcz115_2
          try clear hcz122_0
          try clear hcz122_1
          try clear hcz122_2
          try clear hcz127_0
          try clear hcz127_1
          try clear hcz127_2
          try clear hcz132_0
          try clear hcz132_1
          try clear hcz132_2
          try clear hcz15_0
          try clear hcz15_1
          try clear hcz15_2
          try clear hcz21_0
          try clear hcz21_1
          try clear hcz21_2
          try clear hcz24_0
          try clear hcz24_1
          try clear hcz24_2
          try clear hcz36_0
          try clear hcz36_1
          try clear hcz36_2
          try clear hcz36_3
          try clear hcz39_0
          try clear hcz39_1
          try clear hcz39_2
          try clear hcz40_0
          try clear hcz40_1
          try clear hcz40_2
          try clear hcz40_3
          try clear hcz48_0
          try clear hcz48_1
          try clear hcz48_2
          try clear hcz51_0
          try clear hcz51_1
          try clear hcz51_2
          try clear hcz55_0
          try clear hcz55_1
          try clear hcz55_2
          try clear hcz64_0
          try clear hcz64_1
          try clear hcz64_2
          try clear hcz65_0
          try clear hcz65_1
          try clear hcz65_2
          try clear hcz72_0
          try clear hcz72_1
          try clear hcz72_2
          try clear hcz76_0
          try clear hcz76_1
          try clear hcz76_2
          try clear hcz82_0
          try clear hcz82_1
          try clear hcz82_2
          try clear hcz86_0
          try clear hcz86_1
          try clear hcz86_2
          try clear hcz93_0
          try clear hcz93_1
          try clear hcz93_2
          try clear hfz103_0
          try clear hfz103_1
          try clear hfz103_2
          try clear hfz110_0
          try clear hfz110_1
          try clear hfz110_2
          try clear hfz115_0
          try clear hfz115_1
          try clear hfz115_2
          try clear hfz122_0
          try clear hfz122_1
          try clear hfz122_2
          try clear hfz127_0
          try clear hfz127_1
          try clear hfz127_2
          try clear hfz132_0
          try clear hfz132_1
          try clear hfz132_2
          try clear hfz15_0
          try clear hfz15_1
          try clear hfz15_2
          try clear hfz21_0
          try clear hfz21_1
          try clear hfz21_2
          try clear hfz24_0
          try clear hfz24_1
          try clear hfz24_2
          try clear hfz36_0
          try clear hfz36_1
          try clear hfz36_2
          try clear hfz36_3
          try clear hfz39_0
          try clear hfz39_1
          try clear hfz39_2
          try clear hfz40_0
          try clear hfz40_1
          try clear hfz40_2
          try clear hfz40_3
          try clear hfz48_0
          try clear hfz48_1
          try clear hfz48_2
          try clear hfz51_0
          try clear hfz51_1
          try clear hfz51_2
          try clear hfz55_0
          try clear hfz55_1
          try clear hfz55_2
          try clear hfz64_0
          try clear hfz64_1
          try clear hfz64_2
          try clear hfz65_0
          try clear hfz65_1
          try clear hfz65_2
          try clear hfz72_0
          try clear hfz72_1
          try clear hfz72_2
          try clear hfz76_0
          try clear hfz76_1
          try clear hfz76_2
          try clear hfz82_0
          try clear hfz82_1
          try clear hfz82_2
          try clear hfz86_0
          try clear hfz86_1
          try clear hfz86_2
          try clear hfz93_0
          try clear hfz93_1
          try clear hfz93_2
          try clear hx473_0
          try clear hx473_1
          try clear hx473_2
          try clear hx473_3
          try clear hx516_0
          try clear p2
          try clear p4
          try clear p47
          try clear p473
          try clear p516
          try clear p6
          try clear q4
          try clear q47
          try clear q473
          try clear q516
          obtain ⟨kq, x153_61, rfl, HA, HJ61, HO_460001, HO_460002, HO_470001, HO_470002, HO_496001, HO_496002, HO_506001, HO_506002, HO_516001, HO_516002, BK459, BK469, BK495, BK505, BK515, HB⟩ := hcut
          cases kq with
          | zero => exact absurd HA.out (by simp [tillerlaw21_RecvFalse.j2])
          | succ kj61 =>
           have H := HA.out
           clear HA
           simp only [tillerlaw21_RecvFalse.j2] at H
           by_cases c133 : x153_61 = true
           ·subst c133
            have H1 : (some false) = some r := by rw [if_pos rfl] at H; exact H
            clear H
            have H := H1
            clear H1
            exact absurd (Option.some.inj H) (by rw [hr_.out]; decide)
           ·replace c133 := Bool.eq_false_iff.mpr c133
            subst c133
            have H1 : ((some (([(⟨t486, t487, t490⟩ : S50), (⟨t496, t497, t500⟩ : S50), (⟨t506, t507, t510⟩ : S50), (⟨x470000_1, x470001_1, x470002_1⟩ : S50)] : List (S50)) : List (S50))).bind fun y517 => (tillerlaw21_RecvFalse.l1 kj61 t449 y517 (y517.length : Int) 0)) = some r := by rw [if_neg (show ¬ (false = true) by decide)] at H; exact H
            clear H
            have H := H1
            clear H1
            obtain ⟨y517, hy517⟩ : ∃ y_ : List (S50), y_ = (([(⟨t486, t487, t490⟩ : S50), (⟨t496, t497, t500⟩ : S50), (⟨t506, t507, t510⟩ : S50), (⟨x470000_1, x470001_1, x470002_1⟩ : S50)] : List (S50))) := ⟨_, rfl⟩
            replace H : (tillerlaw21_RecvFalse.l1 kj61 t449 y517 (y517.length : Int) 0) = some r := by first | (rw [hy517]; with_reducible exact H) | (have H2_ := (Option.bind_some _ _).symm.trans H; rw [hy517]; with_reducible exact H2_) | (have H2_ := (Option.bind_some _ _).symm.trans H; with_reducible exact H2_) | with_reducible exact H | (rw [hy517]; exact H) | exact H
            have Ny517 := am_ hy517
            clear hy517
            have H' := am_ H
            clear H
            have hnb134 := NB495_459.out
            have hnc134 := NB459_495.out
            have hnb135 := NB495_469.out
            have hnc135 := NB469_495.out
            have hnb136 := NB495_505.out
            have hnc136 := NB505_495.out
            have hnb137 := NB495_515.out
            have hnc137 := NB515_495.out
            have hcz138_0 : wc.cell? ⟨gb495, 0, none⟩ = some (.int .i64 t486) := (blk_cell BK495.out 0).trans rfl
            have hcz138_1 : wc.cell? ⟨gb495, 1, none⟩ = some (.slice Ao73 t487.length co73) := (blk_cell BK495.out 1).trans rfl
            have hcz138_2 : wc.cell? ⟨gb495, 2, none⟩ = some (.slice Ao74 t490.length co74) := (blk_cell BK495.out 2).trans rfl
            have hfz138_0 := blk_frozen BK495.out 0
            have hfz138_1 := blk_frozen BK495.out 1
            have hfz138_2 := blk_frozen BK495.out 2
            have hnb139 := NB505_459.out
            have hnc139 := NB459_505.out
            have hnb140 := NB505_469.out
            have hnc140 := NB469_505.out
            have hnb141 := NB505_515.out
            have hnc141 := NB515_505.out
            have hcz142_0 : wc.cell? ⟨gb505, 0, none⟩ = some (.int .i64 t496) := (blk_cell BK505.out 0).trans rfl
            have hcz142_1 : wc.cell? ⟨gb505, 1, none⟩ = some (.slice Ao83 t497.length co83) := (blk_cell BK505.out 1).trans rfl
            have hcz142_2 : wc.cell? ⟨gb505, 2, none⟩ = some (.slice Ao84 t500.length co84) := (blk_cell BK505.out 2).trans rfl
            have hfz142_0 := blk_frozen BK505.out 0
            have hfz142_1 := blk_frozen BK505.out 1
            have hfz142_2 := blk_frozen BK505.out 2
            have hnb143 := NB515_459.out
            have hnc143 := NB459_515.out
            have hnb144 := NB515_469.out
            have hnc144 := NB469_515.out
            have hcz145_0 : wc.cell? ⟨gb515, 0, none⟩ = some (.int .i64 t506) := (blk_cell BK515.out 0).trans rfl
            have hcz145_1 : wc.cell? ⟨gb515, 1, none⟩ = some (.slice Ao94 t507.length co94) := (blk_cell BK515.out 1).trans rfl
            have hcz145_2 : wc.cell? ⟨gb515, 2, none⟩ = some (.slice Ao95 t510.length co95) := (blk_cell BK515.out 2).trans rfl
            have hfz145_0 := blk_frozen BK515.out 0
            have hfz145_1 := blk_frozen BK515.out 1
            have hfz145_2 := blk_frozen BK515.out 2
            have hnb146 := NB469_459.out
            have hnc146 := NB459_469.out
            have hcz147_0 : wc.cell? ⟨gb469, 0, none⟩ = some (.int .i64 x470000_1) := (blk_cell BK469.out 0).trans rfl
            have hcz147_1 : wc.cell? ⟨gb469, 1, none⟩ = some (.slice Ao66 x470001_1.length co66) := (blk_cell BK469.out 1).trans rfl
            have hcz147_2 : wc.cell? ⟨gb469, 2, none⟩ = some (.slice Ao67 x470002_1.length co67) := (blk_cell BK469.out 2).trans rfl
            have hfz147_0 := blk_frozen BK469.out 0
            have hfz147_1 := blk_frozen BK469.out 1
            have hfz147_2 := blk_frozen BK469.out 2
            go_wp2_with (first | ((with_reducible refine gate_dst (N := 158) rfl ?_); (try (refine gate_guard (by rfl) ?_; dsimp only)); refine Kd.N_lit k50 _ 50 ?hg (N' := 158) ?hd (xs := ([(⟨t486, t487, t490⟩ : S50), (⟨t496, t497, t500⟩ : S50), (⟨t506, t507, t510⟩ : S50), (⟨x470000_1, x470001_1, x470002_1⟩ : S50)] : List (S50))) (inner := [.int .i64 t486, .slice Ao73 t487.length co73, .slice Ao74 t490.length co74, .int .i64 t496, .slice Ao83 t497.length co83, .slice Ao84 t500.length co84, .int .i64 t506, .slice Ao94 t507.length co94, .slice Ao95 t510.length co95, .int .i64 x470000_1, .slice Ao66 x470001_1.length co66, .slice Ao67 x470002_1.length co67]) (ok := (fun k_ => some k_ ≠ (.slice Ao16 t452.length co16 : Value).ownBlock ∧ some k_ ≠ (.slice Ao17 t455.length co17 : Value).ownBlock ∧ k_ ≠ gb459 ∧ k_ ≠ gb469 ∧ k_ ≠ gb495 ∧ k_ ≠ gb505 ∧ k_ ≠ gb515)) (okp := (fun k_ => some k_ ≠ (.slice Ao16 t452.length co16 : Value).ownBlock ∧ some k_ ≠ (.slice Ao17 t455.length co17 : Value).ownBlock ∧ k_ ≠ gb459 ∧ k_ ≠ gb469 ∧ k_ ≠ gb495 ∧ k_ ≠ gb505 ∧ k_ ≠ gb515)) ?hr ?hp (fun _ hk => hk) ((show ∀ k_, wc.heap.size ≤ k_ → (fun k_ => some k_ ≠ (.slice Ao16 t452.length co16 : Value).ownBlock ∧ some k_ ≠ (.slice Ao17 t455.length co17 : Value).ownBlock ∧ k_ ≠ gb459 ∧ k_ ≠ gb469 ∧ k_ ≠ gb495 ∧ k_ ≠ gb505 ∧ k_ ≠ gb515) k_ from fun k_ hk => ⟨Kd.fresh' (Kd.R_lt (by (with_reducible repeat first | apply rwA | apply rwN | apply rwD); exact HO_460001.out)) k_ hk, Kd.fresh' (Kd.R_lt (by (with_reducible repeat first | apply rwA | apply rwN | apply rwD); exact HO_460002.out)) k_ hk, Kd.freshB (g := gb459) (o := .cells #[.int .i64 t451, .slice Ao16 t452.length co16, .slice Ao17 t455.length co17] 32 (0, 0)) (by (with_reducible repeat first | apply bkN | apply bkD | apply bkA); exact BK459.out) k_ hk, Kd.freshB (g := gb469) (o := .cells #[.int .i64 x470000_1, .slice Ao66 x470001_1.length co66, .slice Ao67 x470002_1.length co67] 50 (0, 0)) (by (with_reducible repeat first | apply bkN | apply bkD | apply bkA); exact BK469.out) k_ hk, Kd.freshB (g := gb495) (o := .cells #[.int .i64 t486, .slice Ao73 t487.length co73, .slice Ao74 t490.length co74] 50 (0, 0)) (by (with_reducible repeat first | apply bkN | apply bkD | apply bkA); exact BK495.out) k_ hk, Kd.freshB (g := gb505) (o := .cells #[.int .i64 t496, .slice Ao83 t497.length co83, .slice Ao84 t500.length co84] 50 (0, 0)) (by (with_reducible repeat first | apply bkN | apply bkD | apply bkA); exact BK505.out) k_ hk, Kd.freshB (g := gb515) (o := .cells #[.int .i64 t506, .slice Ao94 t507.length co94, .slice Ao95 t510.length co95] 50 (0, 0)) (by (with_reducible repeat first | apply bkN | apply bkD | apply bkA); exact BK515.out) k_ hk⟩) _ (Nat.le_refl _)) (Below.refl _ _) (Nat.le_refl _) (by simp) ?_; (case hd => rfl); (case hg => rfl); (case hr => first | (go_simp; done) | (go_simp; rfl)); (case hp => exact (Reps.c3 (show Kd.FK k50 _ _ (⟨t486, t487, t490⟩ : S50) [.int .i64 t486, .slice Ao73 t487.length co73, .slice Ao74 t490.length co74] from (k50_mkF _ _ (⟨t486, t487, t490⟩ : S50) (Kd.V_reads' (Kd.V_mono (ok' := (fun k_ => some k_ ≠ (.slice Ao16 t452.length co16 : Value).ownBlock ∧ some k_ ≠ (.slice Ao17 t455.length co17 : Value).ownBlock ∧ k_ ≠ gb459 ∧ k_ ≠ gb469 ∧ k_ ≠ gb495 ∧ k_ ≠ gb505 ∧ k_ ≠ gb515)) (HO_496001.out) (fun k_ hk => ⟨hk.1, ⟨hk.2.1, ⟨hk.2.2.1, ⟨hk.2.2.2.1, ⟨hk.2.2.2.2.1, ⟨hk.2.2.2.2.2.1, hk.2.2.2.2.2.2⟩⟩⟩⟩⟩⟩))).2.1 (Kd.V_F (Kd.V_mono (ok' := (fun k_ => some k_ ≠ (.slice Ao16 t452.length co16 : Value).ownBlock ∧ some k_ ≠ (.slice Ao17 t455.length co17 : Value).ownBlock ∧ k_ ≠ gb459 ∧ k_ ≠ gb469 ∧ k_ ≠ gb495 ∧ k_ ≠ gb505 ∧ k_ ≠ gb515)) (HO_496001.out) (fun k_ hk => ⟨hk.1, ⟨hk.2.1, ⟨hk.2.2.1, ⟨hk.2.2.2.1, ⟨hk.2.2.2.2.1, ⟨hk.2.2.2.2.2.1, hk.2.2.2.2.2.2⟩⟩⟩⟩⟩⟩))) (Kd.V_reads' (Kd.V_mono (ok' := (fun k_ => some k_ ≠ (.slice Ao16 t452.length co16 : Value).ownBlock ∧ some k_ ≠ (.slice Ao17 t455.length co17 : Value).ownBlock ∧ k_ ≠ gb459 ∧ k_ ≠ gb469 ∧ k_ ≠ gb495 ∧ k_ ≠ gb505 ∧ k_ ≠ gb515)) (HO_496002.out) (fun k_ hk => ⟨hk.1, ⟨hk.2.1, ⟨hk.2.2.1, ⟨hk.2.2.2.1, ⟨hk.2.2.2.2.1, ⟨hk.2.2.2.2.2.1, hk.2.2.2.2.2.2⟩⟩⟩⟩⟩⟩))).2.1 (Kd.V_F (Kd.V_mono (ok' := (fun k_ => some k_ ≠ (.slice Ao16 t452.length co16 : Value).ownBlock ∧ some k_ ≠ (.slice Ao17 t455.length co17 : Value).ownBlock ∧ k_ ≠ gb459 ∧ k_ ≠ gb469 ∧ k_ ≠ gb495 ∧ k_ ≠ gb505 ∧ k_ ≠ gb515)) (HO_496002.out) (fun k_ hk => ⟨hk.1, ⟨hk.2.1, ⟨hk.2.2.1, ⟨hk.2.2.2.1, ⟨hk.2.2.2.2.1, ⟨hk.2.2.2.2.2.1, hk.2.2.2.2.2.2⟩⟩⟩⟩⟩⟩))))) (Reps.c3 (show Kd.FK k50 _ _ (⟨t496, t497, t500⟩ : S50) [.int .i64 t496, .slice Ao83 t497.length co83, .slice Ao84 t500.length co84] from (k50_mkF _ _ (⟨t496, t497, t500⟩ : S50) (Kd.V_reads' (Kd.V_mono (ok' := (fun k_ => some k_ ≠ (.slice Ao16 t452.length co16 : Value).ownBlock ∧ some k_ ≠ (.slice Ao17 t455.length co17 : Value).ownBlock ∧ k_ ≠ gb459 ∧ k_ ≠ gb469 ∧ k_ ≠ gb495 ∧ k_ ≠ gb505 ∧ k_ ≠ gb515)) (HO_506001.out) (fun k_ hk => ⟨hk.1, ⟨hk.2.1, ⟨hk.2.2.1, ⟨hk.2.2.2.1, ⟨hk.2.2.2.2.1, ⟨hk.2.2.2.2.2.1, hk.2.2.2.2.2.2⟩⟩⟩⟩⟩⟩))).2.1 (Kd.V_F (Kd.V_mono (ok' := (fun k_ => some k_ ≠ (.slice Ao16 t452.length co16 : Value).ownBlock ∧ some k_ ≠ (.slice Ao17 t455.length co17 : Value).ownBlock ∧ k_ ≠ gb459 ∧ k_ ≠ gb469 ∧ k_ ≠ gb495 ∧ k_ ≠ gb505 ∧ k_ ≠ gb515)) (HO_506001.out) (fun k_ hk => ⟨hk.1, ⟨hk.2.1, ⟨hk.2.2.1, ⟨hk.2.2.2.1, ⟨hk.2.2.2.2.1, ⟨hk.2.2.2.2.2.1, hk.2.2.2.2.2.2⟩⟩⟩⟩⟩⟩))) (Kd.V_reads' (Kd.V_mono (ok' := (fun k_ => some k_ ≠ (.slice Ao16 t452.length co16 : Value).ownBlock ∧ some k_ ≠ (.slice Ao17 t455.length co17 : Value).ownBlock ∧ k_ ≠ gb459 ∧ k_ ≠ gb469 ∧ k_ ≠ gb495 ∧ k_ ≠ gb505 ∧ k_ ≠ gb515)) (HO_506002.out) (fun k_ hk => ⟨hk.1, ⟨hk.2.1, ⟨hk.2.2.1, ⟨hk.2.2.2.1, ⟨hk.2.2.2.2.1, ⟨hk.2.2.2.2.2.1, hk.2.2.2.2.2.2⟩⟩⟩⟩⟩⟩))).2.1 (Kd.V_F (Kd.V_mono (ok' := (fun k_ => some k_ ≠ (.slice Ao16 t452.length co16 : Value).ownBlock ∧ some k_ ≠ (.slice Ao17 t455.length co17 : Value).ownBlock ∧ k_ ≠ gb459 ∧ k_ ≠ gb469 ∧ k_ ≠ gb495 ∧ k_ ≠ gb505 ∧ k_ ≠ gb515)) (HO_506002.out) (fun k_ hk => ⟨hk.1, ⟨hk.2.1, ⟨hk.2.2.1, ⟨hk.2.2.2.1, ⟨hk.2.2.2.2.1, ⟨hk.2.2.2.2.2.1, hk.2.2.2.2.2.2⟩⟩⟩⟩⟩⟩))))) (Reps.c3 (show Kd.FK k50 _ _ (⟨t506, t507, t510⟩ : S50) [.int .i64 t506, .slice Ao94 t507.length co94, .slice Ao95 t510.length co95] from (k50_mkF _ _ (⟨t506, t507, t510⟩ : S50) (Kd.V_reads' (Kd.V_mono (ok' := (fun k_ => some k_ ≠ (.slice Ao16 t452.length co16 : Value).ownBlock ∧ some k_ ≠ (.slice Ao17 t455.length co17 : Value).ownBlock ∧ k_ ≠ gb459 ∧ k_ ≠ gb469 ∧ k_ ≠ gb495 ∧ k_ ≠ gb505 ∧ k_ ≠ gb515)) (HO_516001.out) (fun k_ hk => ⟨hk.1, ⟨hk.2.1, ⟨hk.2.2.1, ⟨hk.2.2.2.1, ⟨hk.2.2.2.2.1, ⟨hk.2.2.2.2.2.1, hk.2.2.2.2.2.2⟩⟩⟩⟩⟩⟩))).2.1 (Kd.V_F (Kd.V_mono (ok' := (fun k_ => some k_ ≠ (.slice Ao16 t452.length co16 : Value).ownBlock ∧ some k_ ≠ (.slice Ao17 t455.length co17 : Value).ownBlock ∧ k_ ≠ gb459 ∧ k_ ≠ gb469 ∧ k_ ≠ gb495 ∧ k_ ≠ gb505 ∧ k_ ≠ gb515)) (HO_516001.out) (fun k_ hk => ⟨hk.1, ⟨hk.2.1, ⟨hk.2.2.1, ⟨hk.2.2.2.1, ⟨hk.2.2.2.2.1, ⟨hk.2.2.2.2.2.1, hk.2.2.2.2.2.2⟩⟩⟩⟩⟩⟩))) (Kd.V_reads' (Kd.V_mono (ok' := (fun k_ => some k_ ≠ (.slice Ao16 t452.length co16 : Value).ownBlock ∧ some k_ ≠ (.slice Ao17 t455.length co17 : Value).ownBlock ∧ k_ ≠ gb459 ∧ k_ ≠ gb469 ∧ k_ ≠ gb495 ∧ k_ ≠ gb505 ∧ k_ ≠ gb515)) (HO_516002.out) (fun k_ hk => ⟨hk.1, ⟨hk.2.1, ⟨hk.2.2.1, ⟨hk.2.2.2.1, ⟨hk.2.2.2.2.1, ⟨hk.2.2.2.2.2.1, hk.2.2.2.2.2.2⟩⟩⟩⟩⟩⟩))).2.1 (Kd.V_F (Kd.V_mono (ok' := (fun k_ => some k_ ≠ (.slice Ao16 t452.length co16 : Value).ownBlock ∧ some k_ ≠ (.slice Ao17 t455.length co17 : Value).ownBlock ∧ k_ ≠ gb459 ∧ k_ ≠ gb469 ∧ k_ ≠ gb495 ∧ k_ ≠ gb505 ∧ k_ ≠ gb515)) (HO_516002.out) (fun k_ hk => ⟨hk.1, ⟨hk.2.1, ⟨hk.2.2.1, ⟨hk.2.2.2.1, ⟨hk.2.2.2.2.1, ⟨hk.2.2.2.2.2.1, hk.2.2.2.2.2.2⟩⟩⟩⟩⟩⟩))))) (Reps.c3 (show Kd.FK k50 _ _ (⟨x470000_1, x470001_1, x470002_1⟩ : S50) [.int .i64 x470000_1, .slice Ao66 x470001_1.length co66, .slice Ao67 x470002_1.length co67] from (k50_mkF _ _ (⟨x470000_1, x470001_1, x470002_1⟩ : S50) (Kd.V_reads' (Kd.V_mono (ok' := (fun k_ => some k_ ≠ (.slice Ao16 t452.length co16 : Value).ownBlock ∧ some k_ ≠ (.slice Ao17 t455.length co17 : Value).ownBlock ∧ k_ ≠ gb459 ∧ k_ ≠ gb469 ∧ k_ ≠ gb495 ∧ k_ ≠ gb505 ∧ k_ ≠ gb515)) (HO_470001.out) (fun k_ hk => ⟨hk.1, ⟨hk.2.1, ⟨hk.2.2.1, ⟨hk.2.2.2.1, ⟨hk.2.2.2.2.1, ⟨hk.2.2.2.2.2.1, hk.2.2.2.2.2.2⟩⟩⟩⟩⟩⟩))).2.1 (Kd.V_F (Kd.V_mono (ok' := (fun k_ => some k_ ≠ (.slice Ao16 t452.length co16 : Value).ownBlock ∧ some k_ ≠ (.slice Ao17 t455.length co17 : Value).ownBlock ∧ k_ ≠ gb459 ∧ k_ ≠ gb469 ∧ k_ ≠ gb495 ∧ k_ ≠ gb505 ∧ k_ ≠ gb515)) (HO_470001.out) (fun k_ hk => ⟨hk.1, ⟨hk.2.1, ⟨hk.2.2.1, ⟨hk.2.2.2.1, ⟨hk.2.2.2.2.1, ⟨hk.2.2.2.2.2.1, hk.2.2.2.2.2.2⟩⟩⟩⟩⟩⟩))) (Kd.V_reads' (Kd.V_mono (ok' := (fun k_ => some k_ ≠ (.slice Ao16 t452.length co16 : Value).ownBlock ∧ some k_ ≠ (.slice Ao17 t455.length co17 : Value).ownBlock ∧ k_ ≠ gb459 ∧ k_ ≠ gb469 ∧ k_ ≠ gb495 ∧ k_ ≠ gb505 ∧ k_ ≠ gb515)) (HO_470002.out) (fun k_ hk => ⟨hk.1, ⟨hk.2.1, ⟨hk.2.2.1, ⟨hk.2.2.2.1, ⟨hk.2.2.2.2.1, ⟨hk.2.2.2.2.2.1, hk.2.2.2.2.2.2⟩⟩⟩⟩⟩⟩))).2.1 (Kd.V_F (Kd.V_mono (ok' := (fun k_ => some k_ ≠ (.slice Ao16 t452.length co16 : Value).ownBlock ∧ some k_ ≠ (.slice Ao17 t455.length co17 : Value).ownBlock ∧ k_ ≠ gb459 ∧ k_ ≠ gb469 ∧ k_ ≠ gb495 ∧ k_ ≠ gb505 ∧ k_ ≠ gb515)) (HO_470002.out) (fun k_ hk => ⟨hk.1, ⟨hk.2.1, ⟨hk.2.2.1, ⟨hk.2.2.2.1, ⟨hk.2.2.2.2.1, ⟨hk.2.2.2.2.2.1, hk.2.2.2.2.2.2⟩⟩⟩⟩⟩⟩))))) (Reps.none _ _)))))); intro v518 w148 ho149 hb hg_ hnew_; clear hg_ hnew_; (first | rw [← Ny517.out] at ho149 | (simp only [Int.reduceToNat] at ho149; rw [← Ny517.out] at ho149)); have n0_ := am_ (Kd.R_below (by (with_reducible repeat first | apply rwA | apply rwN | apply rwD); exact HO_460001.out) hb); have n1_ := am_ (Kd.R_below (by (with_reducible repeat first | apply rwA | apply rwN | apply rwD); exact HO_460002.out) hb); have n2_ := am_ (Kd.V_elder' (by (with_reducible repeat (first | apply vA | apply vN | apply vD)); exact HO_470001.out) (Kd.N_base ho149) hb); have n3_ := am_ (Kd.V_elder' (by (with_reducible repeat (first | apply vA | apply vN | apply vD)); exact HO_470002.out) (Kd.N_base ho149) hb); have n4_ := am_ (Kd.V_elder' (by (with_reducible repeat (first | apply vA | apply vN | apply vD)); exact HO_496001.out) (Kd.N_base ho149) hb); have n5_ := am_ (Kd.V_elder' (by (with_reducible repeat (first | apply vA | apply vN | apply vD)); exact HO_496002.out) (Kd.N_base ho149) hb); have n6_ := am_ (Kd.V_elder' (by (with_reducible repeat (first | apply vA | apply vN | apply vD)); exact HO_506001.out) (Kd.N_base ho149) hb); have n7_ := am_ (Kd.V_elder' (by (with_reducible repeat (first | apply vA | apply vN | apply vD)); exact HO_506002.out) (Kd.N_base ho149) hb); have n8_ := am_ (Kd.V_elder' (by (with_reducible repeat (first | apply vA | apply vN | apply vD)); exact HO_516001.out) (Kd.N_base ho149) hb); have n9_ := am_ (Kd.V_elder' (by (with_reducible repeat (first | apply vA | apply vN | apply vD)); exact HO_516002.out) (Kd.N_base ho149) hb); have n10_ := am_ (Kd.N_lower ho149 (below_size (by repeat (first | (with_reducible first | exact HB.out | apply bwA | apply bwN | apply bwD | refine bs_ ?_ GE459.out | refine bs_ ?_ GE469.out | refine bs_ ?_ GE495.out | refine bs_ ?_ GE505.out | refine bs_ ?_ GE515.out) | exact HB.out)))); have n11_ := am_ (blk_below (g := gb459) (o := .cells #[.int .i64 t451, .slice Ao16 t452.length co16, .slice Ao17 t455.length co17] 32 (0, 0)) (by (with_reducible repeat first | apply bkN | apply bkD | apply bkA); exact BK459.out) hb); have n12_ := am_ (blk_below (g := gb469) (o := .cells #[.int .i64 x470000_1, .slice Ao66 x470001_1.length co66, .slice Ao67 x470002_1.length co67] 50 (0, 0)) (by (with_reducible repeat first | apply bkN | apply bkD | apply bkA); exact BK469.out) hb); have n13_ := am_ (blk_below (g := gb495) (o := .cells #[.int .i64 t486, .slice Ao73 t487.length co73, .slice Ao74 t490.length co74] 50 (0, 0)) (by (with_reducible repeat first | apply bkN | apply bkD | apply bkA); exact BK495.out) hb); have n14_ := am_ (blk_below (g := gb505) (o := .cells #[.int .i64 t496, .slice Ao83 t497.length co83, .slice Ao84 t500.length co84] 50 (0, 0)) (by (with_reducible repeat first | apply bkN | apply bkD | apply bkA); exact BK505.out) hb); have n15_ := am_ (blk_below (g := gb515) (o := .cells #[.int .i64 t506, .slice Ao94 t507.length co94, .slice Ao95 t510.length co95] 50 (0, 0)) (by (with_reducible repeat first | apply bkN | apply bkD | apply bkA); exact BK515.out) hb); have n16_ := am_ (below_step (by repeat (first | (with_reducible first | exact HB.out | apply bwA | apply bwN | apply bwD | refine bs_ ?_ GE459.out | refine bs_ ?_ GE469.out | refine bs_ ?_ GE495.out | refine bs_ ?_ GE505.out | refine bs_ ?_ GE515.out) | exact HB.out)) hb); clear HO_460001; clear HO_460002; clear HO_470001; clear HO_470002; clear HO_496001; clear HO_496002; clear HO_506001; clear HO_506002; clear HO_516001; clear HO_516002; clear BK459; clear BK469; clear BK495; clear BK505; clear BK515; clear HB; have HO_460001 := n0_; have HO_460002 := n1_; have HO_470001 := n2_; have HO_470002 := n3_; have HO_496001 := n4_; have HO_496002 := n5_; have HO_506001 := n6_; have HO_506002 := n7_; have HO_516001 := n8_; have HO_516002 := n9_; have HO519 := n10_; have BK459 := n11_; have BK469 := n12_; have BK495 := n13_; have BK505 := n14_; have BK515 := n15_; have HB := n16_; clear n0_ n1_ n2_ n3_ n4_ n5_ n6_ n7_ n8_ n9_ n10_ n11_ n12_ n13_ n14_ n15_ n16_; clear hb ho149; obtain ⟨Ao150, co150, eo150⟩ := Kd.N_slice HO519.out; subst eo150))
            go_loopg [160] kj61 (fun kq v160 w' => ∃ (x160_4 : Int), v160 = .int .i64 x160_4 ∧ Aside0 (tillerlaw21_RecvFalse.l1 kq t449 y517 (y517.length : Int) x160_4 = some r) ∧ Aside0 (kq ≤ kj61) ∧ Aside0 (Kd.N k50 50 w' w.heap.size (fun k_ => some k_ ≠ ((.slice Ao16 t452.length co16) : Value).ownBlock ∧ some k_ ≠ ((.slice Ao17 t455.length co17) : Value).ownBlock ∧ k_ ≠ gb459 ∧ k_ ≠ gb469 ∧ k_ ≠ gb495 ∧ k_ ≠ gb505 ∧ k_ ≠ gb515) (.slice Ao150 y517.length co150) y517) ∧ Aside0 (Kd.R Kd.string 9 w' w.heap.size (fun _ => True) (.slice Ao16 t452.length co16) t452) ∧ Aside0 (Kd.R Kd.bool 4 w' w.heap.size (fun _ => True) (.slice Ao17 t455.length co17) t455) ∧ Aside0 (Kd.V Kd.string 9 w' w.heap.size (fun k_ => some k_ ≠ ((.slice Ao150 y517.length co150) : Value).ownBlock ∧ some k_ ≠ ((.slice Ao16 t452.length co16) : Value).ownBlock ∧ some k_ ≠ ((.slice Ao17 t455.length co17) : Value).ownBlock ∧ k_ ≠ gb459 ∧ k_ ≠ gb469 ∧ k_ ≠ gb495 ∧ k_ ≠ gb505 ∧ k_ ≠ gb515) (.slice Ao66 x470001_1.length co66) x470001_1) ∧ Aside0 (Kd.V Kd.bool 4 w' w.heap.size (fun k_ => some k_ ≠ ((.slice Ao150 y517.length co150) : Value).ownBlock ∧ some k_ ≠ ((.slice Ao16 t452.length co16) : Value).ownBlock ∧ some k_ ≠ ((.slice Ao17 t455.length co17) : Value).ownBlock ∧ k_ ≠ gb459 ∧ k_ ≠ gb469 ∧ k_ ≠ gb495 ∧ k_ ≠ gb505 ∧ k_ ≠ gb515) (.slice Ao67 x470002_1.length co67) x470002_1) ∧ Aside0 (Kd.V Kd.string 9 w' w.heap.size (fun k_ => some k_ ≠ ((.slice Ao150 y517.length co150) : Value).ownBlock ∧ some k_ ≠ ((.slice Ao16 t452.length co16) : Value).ownBlock ∧ some k_ ≠ ((.slice Ao17 t455.length co17) : Value).ownBlock ∧ k_ ≠ gb459 ∧ k_ ≠ gb469 ∧ k_ ≠ gb495 ∧ k_ ≠ gb505 ∧ k_ ≠ gb515) (.slice Ao73 t487.length co73) t487) ∧ Aside0 (Kd.V Kd.bool 4 w' w.heap.size (fun k_ => some k_ ≠ ((.slice Ao150 y517.length co150) : Value).ownBlock ∧ some k_ ≠ ((.slice Ao16 t452.length co16) : Value).ownBlock ∧ some k_ ≠ ((.slice Ao17 t455.length co17) : Value).ownBlock ∧ k_ ≠ gb459 ∧ k_ ≠ gb469 ∧ k_ ≠ gb495 ∧ k_ ≠ gb505 ∧ k_ ≠ gb515) (.slice Ao74 t490.length co74) t490) ∧ Aside0 (Kd.V Kd.string 9 w' w.heap.size (fun k_ => some k_ ≠ ((.slice Ao150 y517.length co150) : Value).ownBlock ∧ some k_ ≠ ((.slice Ao16 t452.length co16) : Value).ownBlock ∧ some k_ ≠ ((.slice Ao17 t455.length co17) : Value).ownBlock ∧ k_ ≠ gb459 ∧ k_ ≠ gb469 ∧ k_ ≠ gb495 ∧ k_ ≠ gb505 ∧ k_ ≠ gb515) (.slice Ao83 t497.length co83) t497) ∧ Aside0 (Kd.V Kd.bool 4 w' w.heap.size (fun k_ => some k_ ≠ ((.slice Ao150 y517.length co150) : Value).ownBlock ∧ some k_ ≠ ((.slice Ao16 t452.length co16) : Value).ownBlock ∧ some k_ ≠ ((.slice Ao17 t455.length co17) : Value).ownBlock ∧ k_ ≠ gb459 ∧ k_ ≠ gb469 ∧ k_ ≠ gb495 ∧ k_ ≠ gb505 ∧ k_ ≠ gb515) (.slice Ao84 t500.length co84) t500) ∧ Aside0 (Kd.V Kd.string 9 w' w.heap.size (fun k_ => some k_ ≠ ((.slice Ao150 y517.length co150) : Value).ownBlock ∧ some k_ ≠ ((.slice Ao16 t452.length co16) : Value).ownBlock ∧ some k_ ≠ ((.slice Ao17 t455.length co17) : Value).ownBlock ∧ k_ ≠ gb459 ∧ k_ ≠ gb469 ∧ k_ ≠ gb495 ∧ k_ ≠ gb505 ∧ k_ ≠ gb515) (.slice Ao94 t507.length co94) t507) ∧ Aside0 (Kd.V Kd.bool 4 w' w.heap.size (fun k_ => some k_ ≠ ((.slice Ao150 y517.length co150) : Value).ownBlock ∧ some k_ ≠ ((.slice Ao16 t452.length co16) : Value).ownBlock ∧ some k_ ≠ ((.slice Ao17 t455.length co17) : Value).ownBlock ∧ k_ ≠ gb459 ∧ k_ ≠ gb469 ∧ k_ ≠ gb495 ∧ k_ ≠ gb505 ∧ k_ ≠ gb515) (.slice Ao95 t510.length co95) t510) ∧ Aside0 (w'.heap[gb459]? = some (.cells #[.int .i64 t451, (.slice Ao16 t452.length co16), (.slice Ao17 t455.length co17)] 32 (0, 0))) ∧ Aside0 (w'.heap[gb469]? = some (.cells #[.int .i64 x470000_1, (.slice Ao66 x470001_1.length co66), (.slice Ao67 x470002_1.length co67)] 50 (0, 0))) ∧ Aside0 (w'.heap[gb495]? = some (.cells #[.int .i64 t486, (.slice Ao73 t487.length co73), (.slice Ao74 t490.length co74)] 50 (0, 0))) ∧ Aside0 (w'.heap[gb505]? = some (.cells #[.int .i64 t496, (.slice Ao83 t497.length co83), (.slice Ao84 t500.length co84)] 50 (0, 0))) ∧ Aside0 (w'.heap[gb515]? = some (.cells #[.int .i64 t506, (.slice Ao94 t507.length co94), (.slice Ao95 t510.length co95)] 50 (0, 0))) ∧ Aside0 (Below w.heap.size w w'))
            case atStart => exact ⟨(0), (by first | rfl | (simp; done) | (simp [*]; done)), H', ⟨Nat.le_refl _⟩, ⟨by (with_reducible repeat (first | apply Kd.N_alloc | apply Kd.N_drewN | apply Kd.N_drew)); exact HO519.out⟩, ⟨by (with_reducible repeat first | apply rwA | apply rwN | apply rwD); exact HO_460001.out⟩, ⟨by (with_reducible repeat first | apply rwA | apply rwN | apply rwD); exact HO_460002.out⟩, ⟨by (with_reducible repeat (first | apply vA | apply vN | apply vD)); exact Kd.V_mono HO_470001.out (fun _ hk => ⟨hk.2, ⟨hk.1.1, ⟨hk.1.2.1, ⟨hk.1.2.2.1, ⟨hk.1.2.2.2.1, ⟨hk.1.2.2.2.2.1, ⟨hk.1.2.2.2.2.2.1, hk.1.2.2.2.2.2.2⟩⟩⟩⟩⟩⟩⟩)⟩, ⟨by (with_reducible repeat (first | apply vA | apply vN | apply vD)); exact Kd.V_mono HO_470002.out (fun _ hk => ⟨hk.2, ⟨hk.1.1, ⟨hk.1.2.1, ⟨hk.1.2.2.1, ⟨hk.1.2.2.2.1, ⟨hk.1.2.2.2.2.1, ⟨hk.1.2.2.2.2.2.1, hk.1.2.2.2.2.2.2⟩⟩⟩⟩⟩⟩⟩)⟩, ⟨by (with_reducible repeat (first | apply vA | apply vN | apply vD)); exact Kd.V_mono HO_496001.out (fun _ hk => ⟨hk.2, ⟨hk.1.1, ⟨hk.1.2.1, ⟨hk.1.2.2.1, ⟨hk.1.2.2.2.1, ⟨hk.1.2.2.2.2.1, ⟨hk.1.2.2.2.2.2.1, hk.1.2.2.2.2.2.2⟩⟩⟩⟩⟩⟩⟩)⟩, ⟨by (with_reducible repeat (first | apply vA | apply vN | apply vD)); exact Kd.V_mono HO_496002.out (fun _ hk => ⟨hk.2, ⟨hk.1.1, ⟨hk.1.2.1, ⟨hk.1.2.2.1, ⟨hk.1.2.2.2.1, ⟨hk.1.2.2.2.2.1, ⟨hk.1.2.2.2.2.2.1, hk.1.2.2.2.2.2.2⟩⟩⟩⟩⟩⟩⟩)⟩, ⟨by (with_reducible repeat (first | apply vA | apply vN | apply vD)); exact Kd.V_mono HO_506001.out (fun _ hk => ⟨hk.2, ⟨hk.1.1, ⟨hk.1.2.1, ⟨hk.1.2.2.1, ⟨hk.1.2.2.2.1, ⟨hk.1.2.2.2.2.1, ⟨hk.1.2.2.2.2.2.1, hk.1.2.2.2.2.2.2⟩⟩⟩⟩⟩⟩⟩)⟩, ⟨by (with_reducible repeat (first | apply vA | apply vN | apply vD)); exact Kd.V_mono HO_506002.out (fun _ hk => ⟨hk.2, ⟨hk.1.1, ⟨hk.1.2.1, ⟨hk.1.2.2.1, ⟨hk.1.2.2.2.1, ⟨hk.1.2.2.2.2.1, ⟨hk.1.2.2.2.2.2.1, hk.1.2.2.2.2.2.2⟩⟩⟩⟩⟩⟩⟩)⟩, ⟨by (with_reducible repeat (first | apply vA | apply vN | apply vD)); exact Kd.V_mono HO_516001.out (fun _ hk => ⟨hk.2, ⟨hk.1.1, ⟨hk.1.2.1, ⟨hk.1.2.2.1, ⟨hk.1.2.2.2.1, ⟨hk.1.2.2.2.2.1, ⟨hk.1.2.2.2.2.2.1, hk.1.2.2.2.2.2.2⟩⟩⟩⟩⟩⟩⟩)⟩, ⟨by (with_reducible repeat (first | apply vA | apply vN | apply vD)); exact Kd.V_mono HO_516002.out (fun _ hk => ⟨hk.2, ⟨hk.1.1, ⟨hk.1.2.1, ⟨hk.1.2.2.1, ⟨hk.1.2.2.2.1, ⟨hk.1.2.2.2.2.1, ⟨hk.1.2.2.2.2.2.1, hk.1.2.2.2.2.2.2⟩⟩⟩⟩⟩⟩⟩)⟩, ⟨by (with_reducible repeat first | apply bkN | apply bkD | apply bkA); exact BK459.out⟩, ⟨by (with_reducible repeat first | apply bkN | apply bkD | apply bkA); exact BK469.out⟩, ⟨by (with_reducible repeat first | apply bkN | apply bkD | apply bkA); exact BK495.out⟩, ⟨by (with_reducible repeat first | apply bkN | apply bkD | apply bkA); exact BK505.out⟩, ⟨by (with_reducible repeat first | apply bkN | apply bkD | apply bkA); exact BK515.out⟩, ⟨by repeat (first | (with_reducible first | exact HB.out | apply bwA | apply bwN | apply bwD | refine bs_ ?_ GE459.out | refine bs_ ?_ GE469.out | refine bs_ ?_ GE495.out | refine bs_ ?_ GE505.out | refine bs_ ?_ GE515.out) | exact HB.out)⟩⟩
            case round =>
             clear H'
             try clear c1
             try clear c2
             try clear p2
             try clear c3
             try clear c4
             try clear p4
             try clear q4
             try clear hx4
             try clear c5
             try clear p5
             try clear q5
             try clear hx5
             try clear c6
             try clear p6
             try clear c7
             try clear c8
             try clear c9
             try clear c9b0
             try clear c9b1
             try clear c10
             try clear c11
             try clear c11b0
             try clear c11b1
             try clear c12
             try clear c13
             try clear c14
             try clear c20
             try clear c22
             try clear c23
             try clear c24
             try clear c25
             try clear c27
             try clear c27b0
             try clear c28
             try clear c28b0
             try clear c29
             try clear c29b0
             try clear c31
             try clear c32
             try clear c32b0
             try clear c32b1
             try clear c34
             try clear c35
             try clear c38
             try clear c45
             try clear c46
             try clear c47
             try clear p47
             try clear q47
             try clear hx47
             try clear p51
             try clear q51
             try clear hx51
             try clear c53
             try clear c53b0
             try clear c54
             try clear c56
             try clear c63
             try clear p64
             try clear c70
             try clear c71
             try clear c79
             try clear c80
             try clear c81
             try clear c89
             try clear c90
             try clear c91
             try clear c92
             try clear c96
             try clear c96b0
             try clear c97
             try clear c97b0
             try clear c98
             try clear c98b0
             try clear c98b1
             try clear c98b2
             try clear c99
             try clear c100
             try clear c101
             try clear c102
             try clear c104
             try clear c104b0
             try clear c104b1
             try clear c105
             try clear c105b0
             try clear c105b1
             try clear c106
             try clear c107
             try clear c108
             try clear c109
             try clear c111
             try clear c112
             try clear c113
             try clear c114
             try clear c116
             try clear c116b0
             try clear c116b1
             try clear c117
             try clear c117b0
             try clear c117b1
             try clear c118
             try clear c119
             try clear c120
             try clear c121
             try clear c123
             try clear c124
             try clear c125
             try clear c126
             try clear c128
             try clear c129
             try clear c130
             try clear c131
             try clear c133
             try clear c134
             try clear c135
             try clear c136
             try clear c137
             try clear c139
             try clear c140
             try clear c141
             try clear c143
             try clear c144
             try clear c146
             try clear hcz103_0
             try clear hcz103_1
             try clear hcz103_2
             try clear hcz110_0
             try clear hcz110_1
             try clear hcz110_2
             try clear hcz115_0
             try clear hcz115_1
             try clear hcz115_2
             try clear hcz122_0
             try clear hcz122_1
             try clear hcz122_2
             try clear hcz127_0
             try clear hcz127_1
             try clear hcz127_2
             try clear hcz132_0
             try clear hcz132_1
             try clear hcz132_2
             try clear hcz138_0
             try clear hcz138_1
             try clear hcz138_2
             try clear hcz142_0
             try clear hcz142_1
             try clear hcz142_2
             try clear hcz145_0
             try clear hcz145_1
             try clear hcz145_2
             try clear hcz147_0
             try clear hcz147_1
             try clear hcz147_2
             try clear hcz15_0
             try clear hcz15_1
             try clear hcz15_2
             try clear hcz21_0
             try clear hcz21_1
             try clear hcz21_2
             try clear hcz24_0
             try clear hcz24_1
             try clear hcz24_2
             try clear hcz36_0
             try clear hcz36_1
             try clear hcz36_2
             try clear hcz36_3
             try clear hcz39_0
             try clear hcz39_1
             try clear hcz39_2
             try clear hcz40_0
             try clear hcz40_1
             try clear hcz40_2
             try clear hcz40_3
             try clear hcz48_0
             try clear hcz48_1
             try clear hcz48_2
             try clear hcz51_0
             try clear hcz51_1
             try clear hcz51_2
             try clear hcz55_0
             try clear hcz55_1
             try clear hcz55_2
             try clear hcz64_0
             try clear hcz64_1
             try clear hcz64_2
             try clear hcz65_0
             try clear hcz65_1
             try clear hcz65_2
             try clear hcz72_0
             try clear hcz72_1
             try clear hcz72_2
             try clear hcz76_0
             try clear hcz76_1
             try clear hcz76_2
             try clear hcz82_0
             try clear hcz82_1
             try clear hcz82_2
             try clear hcz86_0
             try clear hcz86_1
             try clear hcz86_2
             try clear hcz93_0
             try clear hcz93_1
             try clear hcz93_2
             try clear hfz103_0
             try clear hfz103_1
             try clear hfz103_2
             try clear hfz110_0
             try clear hfz110_1
             try clear hfz110_2
             try clear hfz115_0
             try clear hfz115_1
             try clear hfz115_2
             try clear hfz122_0
             try clear hfz122_1
             try clear hfz122_2
             try clear hfz127_0
             try clear hfz127_1
             try clear hfz127_2
             try clear hfz132_0
             try clear hfz132_1
             try clear hfz132_2
             try clear hfz138_0
             try clear hfz138_1
             try clear hfz138_2
             try clear hfz142_0
             try clear hfz142_1
             try clear hfz142_2
             try clear hfz145_0
             try clear hfz145_1
             try clear hfz145_2
             try clear hfz147_0
             try clear hfz147_1
             try clear hfz147_2
             try clear hfz15_0
             try clear hfz15_1
             try clear hfz15_2
             try clear hfz21_0
             try clear hfz21_1
             try clear hfz21_2
             try clear hfz24_0
             try clear hfz24_1
             try clear hfz24_2
             try clear hfz36_0
             try clear hfz36_1
             try clear hfz36_2
             try clear hfz36_3
             try clear hfz39_0
             try clear hfz39_1
             try clear hfz39_2
             try clear hfz40_0
             try clear hfz40_1
             try clear hfz40_2
             try clear hfz40_3
             try clear hfz48_0
             try clear hfz48_1
             try clear hfz48_2
             try clear hfz51_0
             try clear hfz51_1
             try clear hfz51_2
             try clear hfz55_0
             try clear hfz55_1
             try clear hfz55_2
             try clear hfz64_0
             try clear hfz64_1
             try clear hfz64_2
             try clear hfz65_0
             try clear hfz65_1
             try clear hfz65_2
             try clear hfz72_0
             try clear hfz72_1
             try clear hfz72_2
             try clear hfz76_0
             try clear hfz76_1
             try clear hfz76_2
             try clear hfz82_0
             try clear hfz82_1
             try clear hfz82_2
             try clear hfz86_0
             try clear hfz86_1
             try clear hfz86_2
             try clear hfz93_0
             try clear hfz93_1
             try clear hfz93_2
             try clear hx473_0
             try clear hx473_1
             try clear hx473_2
             try clear hx473_3
             try clear hx516_0
             try clear p2
             try clear p4
             try clear p47
             try clear p473
             try clear p5
             try clear p51
             try clear p516
             try clear p6
             try clear p64
             try clear q4
             try clear q47
             try clear q473
             try clear q5
             try clear q51
             try clear q516
             obtain ⟨x160_4, rfl, HA, HK4, HO_158, HO_460001, HO_460002, HO_470001, HO_470002, HO_496001, HO_496002, HO_506001, HO_506002, HO_516001, HO_516002, BK459, BK469, BK495, BK505, BK515, HB⟩ := hrel
             cases gk with
             | zero => exact absurd HA.out (by simp [tillerlaw21_RecvFalse.l1])
             | succ k4 =>
              have H := HA.out
              clear HA
              simp only [tillerlaw21_RecvFalse.l1] at H
              by_cases c151 : x160_4 < (y517.length : Int)
              ·rw [if_pos c151] at H
               have c151b0 : decide (x160_4 < (y517.length : Int)) = true := decide_eq_true c151
               clear c151
               by_cases c152 : 0 ≤ x160_4
               ·rw [if_pos c152] at H
                have c152b0 : decide (0 ≤ x160_4) = true := decide_eq_true c152
                clear c152
                by_cases c153 : x160_4 < (y517.length : Int)
                ·rw [if_pos c153] at H
                 have c153b0 : decide (x160_4 < (y517.length : Int)) = true := decide_eq_true c153
                 clear c153
                 replace H := Option.bind_eq_some_iff.mp H
                 obtain ⟨⟨t522, t523⟩, A1540, H⟩ := H
                 replace H : (if t523 = true then (if t522.toList = t449.toList then (tillerlaw21_RecvFalse.l1 k4 t449 y517 (y517.length : Int) (wrap64 (x160_4 + 1))) else (some false)) else (some false)) = some r := H
                 have A154 := am_ A1540
                 clear A1540
                 by_cases c155 : t523 = true
                 ·subst c155
                  have H1 : (if t522.toList = t449.toList then (tillerlaw21_RecvFalse.l1 k4 t449 y517 (y517.length : Int) (wrap64 (x160_4 + 1))) else (some false)) = some r := by rw [if_pos rfl] at H; exact H
                  clear H
                  have H := H1
                  clear H1
                  by_cases c156 : t522.toList = t449.toList
                  ·rw [if_pos c156] at H
                   have c156b0 : (t522.toList == t449.toList) = true := beq_iff_eq.mpr c156
                   have c156b1 : (t522.toList != t449.toList) = false := bne_eq_false_iff_eq.mpr c156
                   clear c156
                   have H' := am_ H
                   clear H
                   have p520 : 0 ≤ (x160_4 : Int) := ofd_
                   have q520 : x160_4 < (y517.length : Int) := ofd_
                   obtain ⟨ad520, A520_1, c520_1, A520_2, c520_2, e520, hx520_0, hx520_1, hx520_2, hl520_1, hi520_1, hl520_2, hi520_2⟩ := at_T50 (Kd.N_reads' HO_158.out).2.2 x160_4 p520 q520
                   cases e520
                   obtain ⟨ce520, hce520, hMe520, hcc520⟩ := Kd.N_get HO_158.out z50 x160_4 p520 (by first | exact q520 | exact ofd_ | (have e_ := (Kd.N_reads' HO_158.out).1; omega))
                   obtain ⟨ua520_1, uc520_1, ua520_2, uc520_2, rfl, ul520_1, ge520_1, ul520_2, ge520_2⟩ := k50_openF hMe520
                   have hv520_1 := hcc520 1 _ rfl
                   rw [add_field _ _ 1 (by omega)] at hv520_1
                   replace hv520_1 := Option.some.inj (hv520_1.symm.trans hx520_1)
                   injection hv520_1 with hva_ hvn_ hvc_
                   rw [hva_] at ge520_1
                   rw [hvc_] at ul520_1
                   have HL520_1 := am_ (show Kd.V Kd.string 9 _ w.heap.size _ _ ((rd_T50 y517 x160_4).f1) from Kd.V_mk ul520_1 ge520_1)
                   clear hva_ hvn_ hvc_ ge520_1 ul520_1
                   have hv520_2 := hcc520 2 _ rfl
                   rw [add_field _ _ 2 (by omega)] at hv520_2
                   replace hv520_2 := Option.some.inj (hv520_2.symm.trans hx520_2)
                   injection hv520_2 with hva_ hvn_ hvc_
                   rw [hva_] at ge520_2
                   rw [hvc_] at ul520_2
                   have HL520_2 := am_ (show Kd.V Kd.bool 4 _ w.heap.size _ _ ((rd_T50 y517 x160_4).f2) from Kd.V_mk ul520_2 ge520_2)
                   clear hva_ hvn_ hvc_ ge520_2 ul520_2
                   clear hcc520 hce520
                   have HR520_1 := am_ hi520_1
                   have HC520_1 := am_ hl520_1
                   clear hi520_1 hl520_1
                   have HR520_2 := am_ hi520_2
                   have HC520_2 := am_ hl520_2
                   clear hi520_2 hl520_2
                   replace p520 := eq_true p520
                   replace q520 := eq_true q520
                   go_wp2_with (first | ((with_reducible refine gate_dst (N := 31) rfl ?_); (try (refine gate_guard (by rfl) ?_; dsimp only)); refine box_event ?hg (N := 31) ?hd (cs := #[.int .i64 0, .slice none 0 0, .slice none 0 0]) (t := 50) ?hr ?_; (case hd => rfl); (case hg => rfl); (case hr => first | (go_simp; done) | (go_simp; rfl)); intro gb521 hg w157 hbox hb; have n0_ := am_ (Kd.N_below (Kd.N_elderB (by (with_reducible repeat (first | apply Kd.N_alloc | apply Kd.N_drewN | apply Kd.N_drew)); exact HO_158.out) gb521 (Nat.le_of_eq hg.symm)) hb); have n1_ := am_ (Kd.R_below (by (with_reducible repeat first | apply rwA | apply rwN | apply rwD); exact HO_460001.out) hb); have n2_ := am_ (Kd.R_below (by (with_reducible repeat first | apply rwA | apply rwN | apply rwD); exact HO_460002.out) hb); have n3_ := am_ (Kd.V_below (Kd.V_elderB (by (with_reducible repeat (first | apply vA | apply vN | apply vD)); exact HO_470001.out) gb521 (Nat.le_of_eq hg.symm)) hb); have n4_ := am_ (Kd.V_below (Kd.V_elderB (by (with_reducible repeat (first | apply vA | apply vN | apply vD)); exact HO_470002.out) gb521 (Nat.le_of_eq hg.symm)) hb); have n5_ := am_ (Kd.V_below (Kd.V_elderB (by (with_reducible repeat (first | apply vA | apply vN | apply vD)); exact HO_496001.out) gb521 (Nat.le_of_eq hg.symm)) hb); have n6_ := am_ (Kd.V_below (Kd.V_elderB (by (with_reducible repeat (first | apply vA | apply vN | apply vD)); exact HO_496002.out) gb521 (Nat.le_of_eq hg.symm)) hb); have n7_ := am_ (Kd.V_below (Kd.V_elderB (by (with_reducible repeat (first | apply vA | apply vN | apply vD)); exact HO_506001.out) gb521 (Nat.le_of_eq hg.symm)) hb); have n8_ := am_ (Kd.V_below (Kd.V_elderB (by (with_reducible repeat (first | apply vA | apply vN | apply vD)); exact HO_506002.out) gb521 (Nat.le_of_eq hg.symm)) hb); have n9_ := am_ (Kd.V_below (Kd.V_elderB (by (with_reducible repeat (first | apply vA | apply vN | apply vD)); exact HO_516001.out) gb521 (Nat.le_of_eq hg.symm)) hb); have n10_ := am_ (Kd.V_below (Kd.V_elderB (by (with_reducible repeat (first | apply vA | apply vN | apply vD)); exact HO_516002.out) gb521 (Nat.le_of_eq hg.symm)) hb); have n11_ := am_ (Kd.V_below (Kd.V_elderB (by (with_reducible repeat (first | apply vA | apply vN | apply vD)); exact HL520_1.out) gb521 (Nat.le_of_eq hg.symm)) hb); have n12_ := am_ (Kd.V_below (Kd.V_elderB (by (with_reducible repeat (first | apply vA | apply vN | apply vD)); exact HL520_2.out) gb521 (Nat.le_of_eq hg.symm)) hb); have n13_ := am_ (blk_below (g := gb459) (o := .cells #[.int .i64 t451, .slice Ao16 t452.length co16, .slice Ao17 t455.length co17] 32 (0, 0)) (by (with_reducible repeat first | apply bkN | apply bkD | apply bkA); exact BK459.out) hb); have n14_ := am_ (blk_below (g := gb469) (o := .cells #[.int .i64 x470000_1, .slice Ao66 x470001_1.length co66, .slice Ao67 x470002_1.length co67] 50 (0, 0)) (by (with_reducible repeat first | apply bkN | apply bkD | apply bkA); exact BK469.out) hb); have n15_ := am_ (blk_below (g := gb495) (o := .cells #[.int .i64 t486, .slice Ao73 t487.length co73, .slice Ao74 t490.length co74] 50 (0, 0)) (by (with_reducible repeat first | apply bkN | apply bkD | apply bkA); exact BK495.out) hb); have n16_ := am_ (blk_below (g := gb505) (o := .cells #[.int .i64 t496, .slice Ao83 t497.length co83, .slice Ao84 t500.length co84] 50 (0, 0)) (by (with_reducible repeat first | apply bkN | apply bkD | apply bkA); exact BK505.out) hb); have n17_ := am_ (blk_below (g := gb515) (o := .cells #[.int .i64 t506, .slice Ao94 t507.length co94, .slice Ao95 t510.length co95] 50 (0, 0)) (by (with_reducible repeat first | apply bkN | apply bkD | apply bkA); exact BK515.out) hb); have n18_ := am_ (Kd.C_below (by repeat (first | (with_reducible exact HR520_1.out) | (with_reducible refine Kd.C_alloc ?_ _) | (with_reducible refine Kd.C_drewN ?_ _) | (with_reducible refine Kd.C_drew ?_) | exact HR520_1.out)) hb); have n19_ := am_ (Kd.C_below (by repeat (first | (with_reducible exact HR520_2.out) | (with_reducible refine Kd.C_alloc ?_ _) | (with_reducible refine Kd.C_drewN ?_ _) | (with_reducible refine Kd.C_drew ?_) | exact HR520_2.out)) hb); have n20_ := am_ (below_step (by repeat (first | (with_reducible first | exact HB.out | apply bwA | apply bwN | apply bwD | refine bs_ ?_ GE459.out | refine bs_ ?_ GE469.out | refine bs_ ?_ GE495.out | refine bs_ ?_ GE505.out | refine bs_ ?_ GE515.out) | exact HB.out)) hb); have n21_ := am_ (hbox); have n22_ := am_ ((by rw [hg]; exact (below_size (by repeat (first | (with_reducible first | exact HB.out | apply bwA | apply bwN | apply bwD | refine bs_ ?_ GE459.out | refine bs_ ?_ GE469.out | refine bs_ ?_ GE495.out | refine bs_ ?_ GE505.out | refine bs_ ?_ GE515.out) | exact HB.out))) : w.heap.size ≤ gb521)); have n23_ := am_ ((by rw [hg]; exact (below_size (by repeat (first | (with_reducible first | exact HB.out | apply bwA | apply bwN | apply bwD | refine bs_ ?_ GE459.out | refine bs_ ?_ GE469.out | refine bs_ ?_ GE495.out | refine bs_ ?_ GE505.out | refine bs_ ?_ GE515.out) | exact HB.out))) : w.heap.size ≤ gb521)); have n24_ := am_ ((by rw [hg]; exact Nat.ne_of_lt (blk_lt (g := gb459) (o := .cells #[.int .i64 t451, .slice Ao16 t452.length co16, .slice Ao17 t455.length co17] 32 (0, 0)) (by (with_reducible repeat first | apply bkN | apply bkD | apply bkA); exact BK459.out)) : gb459 ≠ gb521)); have n25_ := am_ ((by rw [hg]; exact Nat.ne_of_gt (blk_lt (g := gb459) (o := .cells #[.int .i64 t451, .slice Ao16 t452.length co16, .slice Ao17 t455.length co17] 32 (0, 0)) (by (with_reducible repeat first | apply bkN | apply bkD | apply bkA); exact BK459.out)) : gb521 ≠ gb459)); have n26_ := am_ ((by rw [hg]; exact Nat.ne_of_lt (blk_lt (g := gb469) (o := .cells #[.int .i64 x470000_1, .slice Ao66 x470001_1.length co66, .slice Ao67 x470002_1.length co67] 50 (0, 0)) (by (with_reducible repeat first | apply bkN | apply bkD | apply bkA); exact BK469.out)) : gb469 ≠ gb521)); have n27_ := am_ ((by rw [hg]; exact Nat.ne_of_gt (blk_lt (g := gb469) (o := .cells #[.int .i64 x470000_1, .slice Ao66 x470001_1.length co66, .slice Ao67 x470002_1.length co67] 50 (0, 0)) (by (with_reducible repeat first | apply bkN | apply bkD | apply bkA); exact BK469.out)) : gb521 ≠ gb469)); have n28_ := am_ ((by rw [hg]; exact Nat.ne_of_lt (blk_lt (g := gb495) (o := .cells #[.int .i64 t486, .slice Ao73 t487.length co73, .slice Ao74 t490.length co74] 50 (0, 0)) (by (with_reducible repeat first | apply bkN | apply bkD | apply bkA); exact BK495.out)) : gb495 ≠ gb521)); have n29_ := am_ ((by rw [hg]; exact Nat.ne_of_gt (blk_lt (g := gb495) (o := .cells #[.int .i64 t486, .slice Ao73 t487.length co73, .slice Ao74 t490.length co74] 50 (0, 0)) (by (with_reducible repeat first | apply bkN | apply bkD | apply bkA); exact BK495.out)) : gb521 ≠ gb495)); have n30_ := am_ ((by rw [hg]; exact Nat.ne_of_lt (blk_lt (g := gb505) (o := .cells #[.int .i64 t496, .slice Ao83 t497.length co83, .slice Ao84 t500.length co84] 50 (0, 0)) (by (with_reducible repeat first | apply bkN | apply bkD | apply bkA); exact BK505.out)) : gb505 ≠ gb521)); have n31_ := am_ ((by rw [hg]; exact Nat.ne_of_gt (blk_lt (g := gb505) (o := .cells #[.int .i64 t496, .slice Ao83 t497.length co83, .slice Ao84 t500.length co84] 50 (0, 0)) (by (with_reducible repeat first | apply bkN | apply bkD | apply bkA); exact BK505.out)) : gb521 ≠ gb505)); have n32_ := am_ ((by rw [hg]; exact Nat.ne_of_lt (blk_lt (g := gb515) (o := .cells #[.int .i64 t506, .slice Ao94 t507.length co94, .slice Ao95 t510.length co95] 50 (0, 0)) (by (with_reducible repeat first | apply bkN | apply bkD | apply bkA); exact BK515.out)) : gb515 ≠ gb521)); have n33_ := am_ ((by rw [hg]; exact Nat.ne_of_gt (blk_lt (g := gb515) (o := .cells #[.int .i64 t506, .slice Ao94 t507.length co94, .slice Ao95 t510.length co95] 50 (0, 0)) (by (with_reducible repeat first | apply bkN | apply bkD | apply bkA); exact BK515.out)) : gb521 ≠ gb515)); clear HO_158; clear HO_460001; clear HO_460002; clear HO_470001; clear HO_470002; clear HO_496001; clear HO_496002; clear HO_506001; clear HO_506002; clear HO_516001; clear HO_516002; clear HL520_1; clear HL520_2; clear BK459; clear BK469; clear BK495; clear BK505; clear BK515; clear HR520_1; clear HR520_2; clear HB; have HO_158 := n0_; have HO_460001 := n1_; have HO_460002 := n2_; have HO_470001 := n3_; have HO_470002 := n4_; have HO_496001 := n5_; have HO_496002 := n6_; have HO_506001 := n7_; have HO_506002 := n8_; have HO_516001 := n9_; have HO_516002 := n10_; have HL520_1 := n11_; have HL520_2 := n12_; have BK459 := n13_; have BK469 := n14_; have BK495 := n15_; have BK505 := n16_; have BK515 := n17_; have HR520_1 := n18_; have HR520_2 := n19_; have HB := n20_; have BK521 := n21_; have GW521 := n22_; have GE521 := n23_; have NB459_521 := n24_; have NB521_459 := n25_; have NB469_521 := n26_; have NB521_469 := n27_; have NB495_521 := n28_; have NB521_495 := n29_; have NB505_521 := n30_; have NB521_505 := n31_; have NB515_521 := n32_; have NB521_515 := n33_; clear n0_ n1_ n2_ n3_ n4_ n5_ n6_ n7_ n8_ n9_ n10_ n11_ n12_ n13_ n14_ n15_ n16_ n17_ n18_ n19_ n20_ n21_ n22_ n23_ n24_ n25_ n26_ n27_ n28_ n29_ n30_ n31_ n32_ n33_; clear hb hbox hg; have hnb158 := NB521_459.out; have hnc158 := NB459_521.out; have hnb159 := NB521_469.out; have hnc159 := NB469_521.out; have hnb160 := NB521_495.out; have hnc160 := NB495_521.out; have hnb161 := NB521_505.out; have hnc161 := NB505_521.out; have hnb162 := NB521_515.out; have hnc162 := NB515_521.out; have hcz163_0 : w157.cell? ⟨gb521, 0, none⟩ = some (.int .i64 0) := (blk_cell BK521.out 0).trans rfl; have hcz163_1 : w157.cell? ⟨gb521, 1, none⟩ = some (.slice none 0 0) := (blk_cell BK521.out 1).trans rfl; have hcz163_2 : w157.cell? ⟨gb521, 2, none⟩ = some (.slice none 0 0) := (blk_cell BK521.out 2).trans rfl; have hfz163_0 := blk_frozen BK521.out 0; have hfz163_1 := blk_frozen BK521.out 1; have hfz163_2 := blk_frozen BK521.out 2) | ((with_reducible refine gate_callee (f := 27) rfl ?_); refine goesL_ (some 166) rfl rfl Try.func27 (by kernel_rfl) rfl #[.agg #[.int .i64 ((rd_T50 y517 x160_4).f0), .slice A520_1 ((rd_T50 y517 x160_4).f1).length c520_1, .slice A520_2 ((rd_T50 y517 x160_4).f2).length c520_2]] rfl (by (try simp only [List.map_toArray, List.map_cons, List.map_nil]); first | done | rfl | (simp only [List.length_drop, List.length_take]; rfl)) ?_; (with_reducible refine (recv_Whole.calls k4 ((rd_T50 y517 x160_4).f0) _ _ ((rd_T50 y517 x160_4).f1) _ _ ((rd_T50 y517 x160_4).f2) t522 true _ ?side1 ?side2 ?side3 ?side4 A154.out).mono ?_); (case side1 => repeat (first | exact ((Kd.V_reads' (by (with_reducible repeat (first | apply vA | apply vN | apply vD)); exact (Kd.V_mono (vF gb521 2 (vF gb521 1 (vF gb521 0 (Kd.V_mono HL520_1.out (fun k_ hk => (⟨hk, hk.2⟩ : _ ∧ k_ ≠ gb521))) sn_ (.int .i64 ((rd_T50 y517 x160_4).f0))) sn_ (.slice A520_1 ((rd_T50 y517 x160_4).f1).length c520_1)) sn_ (.slice A520_2 ((rd_T50 y517 x160_4).f2).length c520_2)) (fun _ h_ => h_.1)))).2.2) | (with_reducible refine Kd.C_alloc ?_ _) | (with_reducible refine Kd.C_drewN ?_ _) | (with_reducible refine Kd.C_drew ?_))); (case side2 => exact HC520_1.out); (case side3 => repeat (first | exact ((Kd.V_reads' (by (with_reducible repeat (first | apply vA | apply vN | apply vD)); exact (Kd.V_mono (vF gb521 2 (vF gb521 1 (vF gb521 0 (Kd.V_mono HL520_2.out (fun k_ hk => (⟨hk, hk.2⟩ : _ ∧ k_ ≠ gb521))) sn_ (.int .i64 ((rd_T50 y517 x160_4).f0))) sn_ (.slice A520_1 ((rd_T50 y517 x160_4).f1).length c520_1)) sn_ (.slice A520_2 ((rd_T50 y517 x160_4).f2).length c520_2)) (fun _ h_ => h_.1)))).2.2) | (with_reducible refine Kd.C_alloc ?_ _) | (with_reducible refine Kd.C_drewN ?_ _) | (with_reducible refine Kd.C_drew ?_))); (case side4 => exact HC520_2.out); rintro e w164 ⟨rfl, hb⟩; refine ⟨_, rfl, ?_⟩; have n0_ := am_ (Kd.N_below (by (with_reducible repeat (first | apply Kd.N_alloc | apply Kd.N_drewN | apply Kd.N_drew)); exact (Kd.N_mono (Kd.N_far (p := ⟨gb521, 2, none⟩) (Kd.N_far (p := ⟨gb521, 1, none⟩) (Kd.N_far (p := ⟨gb521, 0, none⟩) (Kd.N_mono HO_158.out (fun k_ hk => (⟨hk, hk.2⟩ : _ ∧ k_ ≠ gb521))) sn_ (.int .i64 ((rd_T50 y517 x160_4).f0))) sn_ (.slice A520_1 ((rd_T50 y517 x160_4).f1).length c520_1)) sn_ (.slice A520_2 ((rd_T50 y517 x160_4).f2).length c520_2)) (fun _ h_ => h_.1))) hb); have n1_ := am_ (Kd.R_below (by (with_reducible repeat first | apply rwA | apply rwN | apply rwD); exact (Kd.R_mono (rF gb521 2 (rF gb521 1 (rF gb521 0 (Kd.R_types HO_460001.out BK521.out (by decide)) sn_ (.int .i64 ((rd_T50 y517 x160_4).f0))) sn_ (.slice A520_1 ((rd_T50 y517 x160_4).f1).length c520_1)) sn_ (.slice A520_2 ((rd_T50 y517 x160_4).f2).length c520_2)) (fun _ h_ => h_.1))) hb); have n2_ := am_ (Kd.R_below (by (with_reducible repeat first | apply rwA | apply rwN | apply rwD); exact (Kd.R_mono (rF gb521 2 (rF gb521 1 (rF gb521 0 (Kd.R_types HO_460002.out BK521.out (by decide)) sn_ (.int .i64 ((rd_T50 y517 x160_4).f0))) sn_ (.slice A520_1 ((rd_T50 y517 x160_4).f1).length c520_1)) sn_ (.slice A520_2 ((rd_T50 y517 x160_4).f2).length c520_2)) (fun _ h_ => h_.1))) hb); have n3_ := am_ (Kd.V_below (by (with_reducible repeat (first | apply vA | apply vN | apply vD)); exact (Kd.V_mono (vF gb521 2 (vF gb521 1 (vF gb521 0 (Kd.V_mono HO_470001.out (fun k_ hk => (⟨hk, hk.2⟩ : _ ∧ k_ ≠ gb521))) sn_ (.int .i64 ((rd_T50 y517 x160_4).f0))) sn_ (.slice A520_1 ((rd_T50 y517 x160_4).f1).length c520_1)) sn_ (.slice A520_2 ((rd_T50 y517 x160_4).f2).length c520_2)) (fun _ h_ => h_.1))) hb); have n4_ := am_ (Kd.V_below (by (with_reducible repeat (first | apply vA | apply vN | apply vD)); exact (Kd.V_mono (vF gb521 2 (vF gb521 1 (vF gb521 0 (Kd.V_mono HO_470002.out (fun k_ hk => (⟨hk, hk.2⟩ : _ ∧ k_ ≠ gb521))) sn_ (.int .i64 ((rd_T50 y517 x160_4).f0))) sn_ (.slice A520_1 ((rd_T50 y517 x160_4).f1).length c520_1)) sn_ (.slice A520_2 ((rd_T50 y517 x160_4).f2).length c520_2)) (fun _ h_ => h_.1))) hb); have n5_ := am_ (Kd.V_below (by (with_reducible repeat (first | apply vA | apply vN | apply vD)); exact (Kd.V_mono (vF gb521 2 (vF gb521 1 (vF gb521 0 (Kd.V_mono HO_496001.out (fun k_ hk => (⟨hk, hk.2⟩ : _ ∧ k_ ≠ gb521))) sn_ (.int .i64 ((rd_T50 y517 x160_4).f0))) sn_ (.slice A520_1 ((rd_T50 y517 x160_4).f1).length c520_1)) sn_ (.slice A520_2 ((rd_T50 y517 x160_4).f2).length c520_2)) (fun _ h_ => h_.1))) hb); have n6_ := am_ (Kd.V_below (by (with_reducible repeat (first | apply vA | apply vN | apply vD)); exact (Kd.V_mono (vF gb521 2 (vF gb521 1 (vF gb521 0 (Kd.V_mono HO_496002.out (fun k_ hk => (⟨hk, hk.2⟩ : _ ∧ k_ ≠ gb521))) sn_ (.int .i64 ((rd_T50 y517 x160_4).f0))) sn_ (.slice A520_1 ((rd_T50 y517 x160_4).f1).length c520_1)) sn_ (.slice A520_2 ((rd_T50 y517 x160_4).f2).length c520_2)) (fun _ h_ => h_.1))) hb); have n7_ := am_ (Kd.V_below (by (with_reducible repeat (first | apply vA | apply vN | apply vD)); exact (Kd.V_mono (vF gb521 2 (vF gb521 1 (vF gb521 0 (Kd.V_mono HO_506001.out (fun k_ hk => (⟨hk, hk.2⟩ : _ ∧ k_ ≠ gb521))) sn_ (.int .i64 ((rd_T50 y517 x160_4).f0))) sn_ (.slice A520_1 ((rd_T50 y517 x160_4).f1).length c520_1)) sn_ (.slice A520_2 ((rd_T50 y517 x160_4).f2).length c520_2)) (fun _ h_ => h_.1))) hb); have n8_ := am_ (Kd.V_below (by (with_reducible repeat (first | apply vA | apply vN | apply vD)); exact (Kd.V_mono (vF gb521 2 (vF gb521 1 (vF gb521 0 (Kd.V_mono HO_506002.out (fun k_ hk => (⟨hk, hk.2⟩ : _ ∧ k_ ≠ gb521))) sn_ (.int .i64 ((rd_T50 y517 x160_4).f0))) sn_ (.slice A520_1 ((rd_T50 y517 x160_4).f1).length c520_1)) sn_ (.slice A520_2 ((rd_T50 y517 x160_4).f2).length c520_2)) (fun _ h_ => h_.1))) hb); have n9_ := am_ (Kd.V_below (by (with_reducible repeat (first | apply vA | apply vN | apply vD)); exact (Kd.V_mono (vF gb521 2 (vF gb521 1 (vF gb521 0 (Kd.V_mono HO_516001.out (fun k_ hk => (⟨hk, hk.2⟩ : _ ∧ k_ ≠ gb521))) sn_ (.int .i64 ((rd_T50 y517 x160_4).f0))) sn_ (.slice A520_1 ((rd_T50 y517 x160_4).f1).length c520_1)) sn_ (.slice A520_2 ((rd_T50 y517 x160_4).f2).length c520_2)) (fun _ h_ => h_.1))) hb); have n10_ := am_ (Kd.V_below (by (with_reducible repeat (first | apply vA | apply vN | apply vD)); exact (Kd.V_mono (vF gb521 2 (vF gb521 1 (vF gb521 0 (Kd.V_mono HO_516002.out (fun k_ hk => (⟨hk, hk.2⟩ : _ ∧ k_ ≠ gb521))) sn_ (.int .i64 ((rd_T50 y517 x160_4).f0))) sn_ (.slice A520_1 ((rd_T50 y517 x160_4).f1).length c520_1)) sn_ (.slice A520_2 ((rd_T50 y517 x160_4).f2).length c520_2)) (fun _ h_ => h_.1))) hb); have n11_ := am_ (Kd.V_below (by (with_reducible repeat (first | apply vA | apply vN | apply vD)); exact (Kd.V_mono (vF gb521 2 (vF gb521 1 (vF gb521 0 (Kd.V_mono HL520_1.out (fun k_ hk => (⟨hk, hk.2⟩ : _ ∧ k_ ≠ gb521))) sn_ (.int .i64 ((rd_T50 y517 x160_4).f0))) sn_ (.slice A520_1 ((rd_T50 y517 x160_4).f1).length c520_1)) sn_ (.slice A520_2 ((rd_T50 y517 x160_4).f2).length c520_2)) (fun _ h_ => h_.1))) hb); have n12_ := am_ (Kd.V_below (by (with_reducible repeat (first | apply vA | apply vN | apply vD)); exact (Kd.V_mono (vF gb521 2 (vF gb521 1 (vF gb521 0 (Kd.V_mono HL520_2.out (fun k_ hk => (⟨hk, hk.2⟩ : _ ∧ k_ ≠ gb521))) sn_ (.int .i64 ((rd_T50 y517 x160_4).f0))) sn_ (.slice A520_1 ((rd_T50 y517 x160_4).f1).length c520_1)) sn_ (.slice A520_2 ((rd_T50 y517 x160_4).f2).length c520_2)) (fun _ h_ => h_.1))) hb); have n13_ := am_ (blk_below (g := gb459) (o := .cells #[.int .i64 t451, .slice Ao16 t452.length co16, .slice Ao17 t455.length co17] 32 (0, 0)) (by (with_reducible repeat first | apply bkN | apply bkD | apply bkA); refine blk_far ?_ NB459_521.out _; (with_reducible repeat first | apply bkN | apply bkD | apply bkA); refine blk_far ?_ NB459_521.out _; (with_reducible repeat first | apply bkN | apply bkD | apply bkA); refine blk_far ?_ NB459_521.out _; (with_reducible repeat first | apply bkN | apply bkD | apply bkA); exact BK459.out) hb); have n14_ := am_ (blk_below (g := gb469) (o := .cells #[.int .i64 x470000_1, .slice Ao66 x470001_1.length co66, .slice Ao67 x470002_1.length co67] 50 (0, 0)) (by (with_reducible repeat first | apply bkN | apply bkD | apply bkA); refine blk_far ?_ NB469_521.out _; (with_reducible repeat first | apply bkN | apply bkD | apply bkA); refine blk_far ?_ NB469_521.out _; (with_reducible repeat first | apply bkN | apply bkD | apply bkA); refine blk_far ?_ NB469_521.out _; (with_reducible repeat first | apply bkN | apply bkD | apply bkA); exact BK469.out) hb); have n15_ := am_ (blk_below (g := gb495) (o := .cells #[.int .i64 t486, .slice Ao73 t487.length co73, .slice Ao74 t490.length co74] 50 (0, 0)) (by (with_reducible repeat first | apply bkN | apply bkD | apply bkA); refine blk_far ?_ NB495_521.out _; (with_reducible repeat first | apply bkN | apply bkD | apply bkA); refine blk_far ?_ NB495_521.out _; (with_reducible repeat first | apply bkN | apply bkD | apply bkA); refine blk_far ?_ NB495_521.out _; (with_reducible repeat first | apply bkN | apply bkD | apply bkA); exact BK495.out) hb); have n16_ := am_ (blk_below (g := gb505) (o := .cells #[.int .i64 t496, .slice Ao83 t497.length co83, .slice Ao84 t500.length co84] 50 (0, 0)) (by (with_reducible repeat first | apply bkN | apply bkD | apply bkA); refine blk_far ?_ NB505_521.out _; (with_reducible repeat first | apply bkN | apply bkD | apply bkA); refine blk_far ?_ NB505_521.out _; (with_reducible repeat first | apply bkN | apply bkD | apply bkA); refine blk_far ?_ NB505_521.out _; (with_reducible repeat first | apply bkN | apply bkD | apply bkA); exact BK505.out) hb); have n17_ := am_ (blk_below (g := gb515) (o := .cells #[.int .i64 t506, .slice Ao94 t507.length co94, .slice Ao95 t510.length co95] 50 (0, 0)) (by (with_reducible repeat first | apply bkN | apply bkD | apply bkA); refine blk_far ?_ NB515_521.out _; (with_reducible repeat first | apply bkN | apply bkD | apply bkA); refine blk_far ?_ NB515_521.out _; (with_reducible repeat first | apply bkN | apply bkD | apply bkA); refine blk_far ?_ NB515_521.out _; (with_reducible repeat first | apply bkN | apply bkD | apply bkA); exact BK515.out) hb); have n18_ := am_ (Kd.C_below ((Kd.V_reads' (by (with_reducible repeat (first | apply vA | apply vN | apply vD)); exact (Kd.V_mono (vF gb521 2 (vF gb521 1 (vF gb521 0 (Kd.V_mono HL520_1.out (fun k_ hk => (⟨hk, hk.2⟩ : _ ∧ k_ ≠ gb521))) sn_ (.int .i64 ((rd_T50 y517 x160_4).f0))) sn_ (.slice A520_1 ((rd_T50 y517 x160_4).f1).length c520_1)) sn_ (.slice A520_2 ((rd_T50 y517 x160_4).f2).length c520_2)) (fun _ h_ => h_.1)))).2.2) hb); have n19_ := am_ (Kd.C_below ((Kd.V_reads' (by (with_reducible repeat (first | apply vA | apply vN | apply vD)); exact (Kd.V_mono (vF gb521 2 (vF gb521 1 (vF gb521 0 (Kd.V_mono HL520_2.out (fun k_ hk => (⟨hk, hk.2⟩ : _ ∧ k_ ≠ gb521))) sn_ (.int .i64 ((rd_T50 y517 x160_4).f0))) sn_ (.slice A520_1 ((rd_T50 y517 x160_4).f1).length c520_1)) sn_ (.slice A520_2 ((rd_T50 y517 x160_4).f2).length c520_2)) (fun _ h_ => h_.1)))).2.2) hb); have n20_ := am_ (blk_below (g := gb521) (o := .cells #[.int .i64 ((rd_T50 y517 x160_4).f0), .slice A520_1 ((rd_T50 y517 x160_4).f1).length c520_1, .slice A520_2 ((rd_T50 y517 x160_4).f2).length c520_2] 50 (0, 0)) (by (with_reducible repeat first | apply bkN | apply bkD | apply bkA); refine blk_put (cs := #[.int .i64 ((rd_T50 y517 x160_4).f0), .slice A520_1 ((rd_T50 y517 x160_4).f1).length c520_1, .slice none 0 0]) ?_ 2 _ rfl; (with_reducible repeat first | apply bkN | apply bkD | apply bkA); refine blk_put (cs := #[.int .i64 ((rd_T50 y517 x160_4).f0), .slice none 0 0, .slice none 0 0]) ?_ 1 _ rfl; (with_reducible repeat first | apply bkN | apply bkD | apply bkA); refine blk_put (cs := #[.int .i64 0, .slice none 0 0, .slice none 0 0]) ?_ 0 _ rfl; (with_reducible repeat first | apply bkN | apply bkD | apply bkA); exact BK521.out) hb); have n21_ := am_ (below_step (by repeat (first | (with_reducible first | exact HB.out | apply bwA | apply bwN | apply bwD | refine bs_ ?_ GE459.out | refine bs_ ?_ GE469.out | refine bs_ ?_ GE495.out | refine bs_ ?_ GE505.out | refine bs_ ?_ GE515.out | refine bs_ ?_ GE521.out) | exact HB.out)) hb); clear HO_158; clear HO_460001; clear HO_460002; clear HO_470001; clear HO_470002; clear HO_496001; clear HO_496002; clear HO_506001; clear HO_506002; clear HO_516001; clear HO_516002; clear HL520_1; clear HL520_2; clear BK459; clear BK469; clear BK495; clear BK505; clear BK515; clear HR520_1; clear HR520_2; clear BK521; clear HB; have HO_158 := n0_; have HO_460001 := n1_; have HO_460002 := n2_; have HO_470001 := n3_; have HO_470002 := n4_; have HO_496001 := n5_; have HO_496002 := n6_; have HO_506001 := n7_; have HO_506002 := n8_; have HO_516001 := n9_; have HO_516002 := n10_; have HL520_1 := n11_; have HL520_2 := n12_; have BK459 := n13_; have BK469 := n14_; have BK495 := n15_; have BK505 := n16_; have BK515 := n17_; have HR520_1 := n18_; have HR520_2 := n19_; have BK521 := n20_; have HB := n21_; clear n0_ n1_ n2_ n3_ n4_ n5_ n6_ n7_ n8_ n9_ n10_ n11_ n12_ n13_ n14_ n15_ n16_ n17_ n18_ n19_ n20_ n21_; (try clear hb); (try clear hb2); (try clear hk); (try clear hi)))
                   go_roundg k4
                   case measure => have := HK1.out; have := HJ51.out; have := HJ61.out; have := HK4.out; omega
                   case rel => exact ⟨(wrap64 (x160_4 + 1)), (by first | rfl | (simp; done) | (simp [*]; done)), H', ⟨by have := HK1.out; have := HJ51.out; have := HJ61.out; have := HK4.out; omega⟩, ⟨by (with_reducible repeat (first | apply Kd.N_alloc | apply Kd.N_drewN | apply Kd.N_drew)); exact Kd.N_mono HO_158.out (fun _ hk => ⟨hk.1.1, ⟨hk.1.2.1, ⟨hk.1.2.2.1, ⟨hk.1.2.2.2.1, ⟨hk.1.2.2.2.2.1, ⟨hk.1.2.2.2.2.2.1, hk.1.2.2.2.2.2.2⟩⟩⟩⟩⟩⟩)⟩, ⟨by (with_reducible repeat first | apply rwA | apply rwN | apply rwD); exact HO_460001.out⟩, ⟨by (with_reducible repeat first | apply rwA | apply rwN | apply rwD); exact HO_460002.out⟩, ⟨by (with_reducible repeat (first | apply vA | apply vN | apply vD)); exact Kd.V_mono HO_470001.out (fun _ hk => ⟨hk.1.1, ⟨hk.1.2.1, ⟨hk.1.2.2.1, ⟨hk.1.2.2.2.1, ⟨hk.1.2.2.2.2.1, ⟨hk.1.2.2.2.2.2.1, ⟨hk.1.2.2.2.2.2.2.1, hk.1.2.2.2.2.2.2.2⟩⟩⟩⟩⟩⟩⟩)⟩, ⟨by (with_reducible repeat (first | apply vA | apply vN | apply vD)); exact Kd.V_mono HO_470002.out (fun _ hk => ⟨hk.1.1, ⟨hk.1.2.1, ⟨hk.1.2.2.1, ⟨hk.1.2.2.2.1, ⟨hk.1.2.2.2.2.1, ⟨hk.1.2.2.2.2.2.1, ⟨hk.1.2.2.2.2.2.2.1, hk.1.2.2.2.2.2.2.2⟩⟩⟩⟩⟩⟩⟩)⟩, ⟨by (with_reducible repeat (first | apply vA | apply vN | apply vD)); exact Kd.V_mono HO_496001.out (fun _ hk => ⟨hk.1.1, ⟨hk.1.2.1, ⟨hk.1.2.2.1, ⟨hk.1.2.2.2.1, ⟨hk.1.2.2.2.2.1, ⟨hk.1.2.2.2.2.2.1, ⟨hk.1.2.2.2.2.2.2.1, hk.1.2.2.2.2.2.2.2⟩⟩⟩⟩⟩⟩⟩)⟩, ⟨by (with_reducible repeat (first | apply vA | apply vN | apply vD)); exact Kd.V_mono HO_496002.out (fun _ hk => ⟨hk.1.1, ⟨hk.1.2.1, ⟨hk.1.2.2.1, ⟨hk.1.2.2.2.1, ⟨hk.1.2.2.2.2.1, ⟨hk.1.2.2.2.2.2.1, ⟨hk.1.2.2.2.2.2.2.1, hk.1.2.2.2.2.2.2.2⟩⟩⟩⟩⟩⟩⟩)⟩, ⟨by (with_reducible repeat (first | apply vA | apply vN | apply vD)); exact Kd.V_mono HO_506001.out (fun _ hk => ⟨hk.1.1, ⟨hk.1.2.1, ⟨hk.1.2.2.1, ⟨hk.1.2.2.2.1, ⟨hk.1.2.2.2.2.1, ⟨hk.1.2.2.2.2.2.1, ⟨hk.1.2.2.2.2.2.2.1, hk.1.2.2.2.2.2.2.2⟩⟩⟩⟩⟩⟩⟩)⟩, ⟨by (with_reducible repeat (first | apply vA | apply vN | apply vD)); exact Kd.V_mono HO_506002.out (fun _ hk => ⟨hk.1.1, ⟨hk.1.2.1, ⟨hk.1.2.2.1, ⟨hk.1.2.2.2.1, ⟨hk.1.2.2.2.2.1, ⟨hk.1.2.2.2.2.2.1, ⟨hk.1.2.2.2.2.2.2.1, hk.1.2.2.2.2.2.2.2⟩⟩⟩⟩⟩⟩⟩)⟩, ⟨by (with_reducible repeat (first | apply vA | apply vN | apply vD)); exact Kd.V_mono HO_516001.out (fun _ hk => ⟨hk.1.1, ⟨hk.1.2.1, ⟨hk.1.2.2.1, ⟨hk.1.2.2.2.1, ⟨hk.1.2.2.2.2.1, ⟨hk.1.2.2.2.2.2.1, ⟨hk.1.2.2.2.2.2.2.1, hk.1.2.2.2.2.2.2.2⟩⟩⟩⟩⟩⟩⟩)⟩, ⟨by (with_reducible repeat (first | apply vA | apply vN | apply vD)); exact Kd.V_mono HO_516002.out (fun _ hk => ⟨hk.1.1, ⟨hk.1.2.1, ⟨hk.1.2.2.1, ⟨hk.1.2.2.2.1, ⟨hk.1.2.2.2.2.1, ⟨hk.1.2.2.2.2.2.1, ⟨hk.1.2.2.2.2.2.2.1, hk.1.2.2.2.2.2.2.2⟩⟩⟩⟩⟩⟩⟩)⟩, ⟨by (with_reducible repeat first | apply bkN | apply bkD | apply bkA); exact BK459.out⟩, ⟨by (with_reducible repeat first | apply bkN | apply bkD | apply bkA); exact BK469.out⟩, ⟨by (with_reducible repeat first | apply bkN | apply bkD | apply bkA); exact BK495.out⟩, ⟨by (with_reducible repeat first | apply bkN | apply bkD | apply bkA); exact BK505.out⟩, ⟨by (with_reducible repeat first | apply bkN | apply bkD | apply bkA); exact BK515.out⟩, ⟨by repeat (first | (with_reducible first | exact HB.out | apply bwA | apply bwN | apply bwD | refine bs_ ?_ GE459.out | refine bs_ ?_ GE469.out | refine bs_ ?_ GE495.out | refine bs_ ?_ GE505.out | refine bs_ ?_ GE515.out | refine bs_ ?_ GE521.out) | exact HB.out)⟩⟩
                  ·rw [if_neg c156] at H
                   exact absurd (Option.some.inj H) (by rw [hr_.out]; decide)
                 ·replace c155 := Bool.eq_false_iff.mpr c155
                  subst c155
                  have H1 : (some false) = some r := by rw [if_neg (show ¬ (false = true) by decide)] at H; exact H
                  clear H
                  have H := H1
                  clear H1
                  exact absurd (Option.some.inj H) (by rw [hr_.out]; decide)
                ·rw [if_neg c153] at H
                 exact absurd H (by simp)
               ·rw [if_neg c152] at H
                exact absurd H (by simp)
              ·rw [if_neg c151] at H
               have c151b0 : decide (x160_4 < (y517.length : Int)) = false := decide_eq_false c151
               clear c151
               replace H := Option.bind_eq_some_iff.mp H
               obtain ⟨t524, A1650, H⟩ := H
               replace H : (some t524) = some r := H
               have A165 := am_ A1650
               clear A1650
               obtain rfl := Option.some.inj H
               go_wp2_with (first | ((with_reducible refine gate_callee (f := 24) rfl ?_); refine goesL_ (some 177) rfl rfl Try.func24 (by kernel_rfl) rfl #[] rfl (by (try simp only [List.map_toArray, List.map_cons, List.map_nil]); first | done | rfl | (simp only [List.length_drop, List.length_take]; rfl)) ?_; (with_reducible refine (tillerlaw21_awake.calls k4  t524 _ A165.out).mono ?_); rintro e w166 ⟨rfl, hb⟩; refine ⟨_, rfl, ?_⟩; have n0_ := am_ (Kd.N_below (by (with_reducible repeat (first | apply Kd.N_alloc | apply Kd.N_drewN | apply Kd.N_drew)); exact HO_158.out) hb); have n1_ := am_ (Kd.R_below (by (with_reducible repeat first | apply rwA | apply rwN | apply rwD); exact HO_460001.out) hb); have n2_ := am_ (Kd.R_below (by (with_reducible repeat first | apply rwA | apply rwN | apply rwD); exact HO_460002.out) hb); have n3_ := am_ (Kd.V_below (by (with_reducible repeat (first | apply vA | apply vN | apply vD)); exact HO_470001.out) hb); have n4_ := am_ (Kd.V_below (by (with_reducible repeat (first | apply vA | apply vN | apply vD)); exact HO_470002.out) hb); have n5_ := am_ (Kd.V_below (by (with_reducible repeat (first | apply vA | apply vN | apply vD)); exact HO_496001.out) hb); have n6_ := am_ (Kd.V_below (by (with_reducible repeat (first | apply vA | apply vN | apply vD)); exact HO_496002.out) hb); have n7_ := am_ (Kd.V_below (by (with_reducible repeat (first | apply vA | apply vN | apply vD)); exact HO_506001.out) hb); have n8_ := am_ (Kd.V_below (by (with_reducible repeat (first | apply vA | apply vN | apply vD)); exact HO_506002.out) hb); have n9_ := am_ (Kd.V_below (by (with_reducible repeat (first | apply vA | apply vN | apply vD)); exact HO_516001.out) hb); have n10_ := am_ (Kd.V_below (by (with_reducible repeat (first | apply vA | apply vN | apply vD)); exact HO_516002.out) hb); have n11_ := am_ (blk_below (g := gb459) (o := .cells #[.int .i64 t451, .slice Ao16 t452.length co16, .slice Ao17 t455.length co17] 32 (0, 0)) (by (with_reducible repeat first | apply bkN | apply bkD | apply bkA); exact BK459.out) hb); have n12_ := am_ (blk_below (g := gb469) (o := .cells #[.int .i64 x470000_1, .slice Ao66 x470001_1.length co66, .slice Ao67 x470002_1.length co67] 50 (0, 0)) (by (with_reducible repeat first | apply bkN | apply bkD | apply bkA); exact BK469.out) hb); have n13_ := am_ (blk_below (g := gb495) (o := .cells #[.int .i64 t486, .slice Ao73 t487.length co73, .slice Ao74 t490.length co74] 50 (0, 0)) (by (with_reducible repeat first | apply bkN | apply bkD | apply bkA); exact BK495.out) hb); have n14_ := am_ (blk_below (g := gb505) (o := .cells #[.int .i64 t496, .slice Ao83 t497.length co83, .slice Ao84 t500.length co84] 50 (0, 0)) (by (with_reducible repeat first | apply bkN | apply bkD | apply bkA); exact BK505.out) hb); have n15_ := am_ (blk_below (g := gb515) (o := .cells #[.int .i64 t506, .slice Ao94 t507.length co94, .slice Ao95 t510.length co95] 50 (0, 0)) (by (with_reducible repeat first | apply bkN | apply bkD | apply bkA); exact BK515.out) hb); have n16_ := am_ (below_step (by repeat (first | (with_reducible first | exact HB.out | apply bwA | apply bwN | apply bwD | refine bs_ ?_ GE459.out | refine bs_ ?_ GE469.out | refine bs_ ?_ GE495.out | refine bs_ ?_ GE505.out | refine bs_ ?_ GE515.out) | exact HB.out)) hb); clear HO_158; clear HO_460001; clear HO_460002; clear HO_470001; clear HO_470002; clear HO_496001; clear HO_496002; clear HO_506001; clear HO_506002; clear HO_516001; clear HO_516002; clear BK459; clear BK469; clear BK495; clear BK505; clear BK515; clear HB; have HO_158 := n0_; have HO_460001 := n1_; have HO_460002 := n2_; have HO_470001 := n3_; have HO_470002 := n4_; have HO_496001 := n5_; have HO_496002 := n6_; have HO_506001 := n7_; have HO_506002 := n8_; have HO_516001 := n9_; have HO_516002 := n10_; have BK459 := n11_; have BK469 := n12_; have BK495 := n13_; have BK505 := n14_; have BK515 := n15_; have HB := n16_; clear n0_ n1_ n2_ n3_ n4_ n5_ n6_ n7_ n8_ n9_ n10_ n11_ n12_ n13_ n14_ n15_ n16_; (try clear hb); (try clear hb2); (try clear hk); (try clear hi)))
               go_ret
               exact ⟨by first | rfl | (simp [errW_none, errW_some] <;> rfl) | (simp [*, errW_none, errW_some] <;> rfl), by repeat (first | (with_reducible first | exact HB.out | apply bwA | apply bwN | apply bwD | refine bs_ ?_ GE459.out | refine bs_ ?_ GE469.out | refine bs_ ?_ GE495.out | refine bs_ ?_ GE505.out | refine bs_ ?_ GE515.out) | exact HB.out)⟩
  ·rw [if_neg c11] at H
   exact absurd (Option.some.inj H) (by rw [hr_.out]; decide)
 ·rw [if_neg c9] at H
  have c9b0 : (t458 == 0) = false := beq_eq_false_iff_ne.mpr c9
  have c9b1 : (t458 != 0) = true := bne_iff_ne.mpr c9
  replace H := Option.bind_eq_some_iff.mp H
  obtain ⟨t460, A1670, H⟩ := H
  replace H : (some t460) = some r := H
  have A167 := am_ A1670
  clear A1670
  obtain rfl := Option.some.inj H
  go_enter Try.func9, Try.ntmps9
  go_wp2_with (first | ((with_reducible refine gate_callee (f := 11) rfl ?_); refine goesL_ (some 35) rfl rfl Try.func11 (by kernel_rfl) rfl #[.string a1, .int .i64 300] rfl (by (try simp only [List.map_toArray, List.map_cons, List.map_nil]); first | done | rfl | (simp only [List.length_drop, List.length_take]; rfl)) ?_; (with_reducible refine (tillerlaw14_Cut.calls a1 300 t449 _ A6.out).mono ?_); rintro e w' ⟨rfl, ⟨nd, rfl⟩⟩; refine ⟨_, rfl, ?_⟩) | ((with_reducible refine gate_callee (f := 11) rfl ?_); refine goesL_ (some 37) rfl rfl Try.func11 (by kernel_rfl) rfl #[.string a4, .int .i64 300] rfl (by (try simp only [List.map_toArray, List.map_cons, List.map_nil]); first | done | rfl | (simp only [List.length_drop, List.length_take]; rfl)) ?_; (with_reducible refine (tillerlaw14_Cut.calls a4 300 t450 _ A7.out).mono ?_); rintro e w' ⟨rfl, ⟨nd, rfl⟩⟩; refine ⟨_, rfl, ?_⟩) | ((with_reducible refine gate_callee (f := 14) rfl ?_); refine goesL_ (some 42) rfl rfl Try.func14 (by kernel_rfl) rfl #[.int .i64 a0, .string t449, .int .i64 a2] rfl (by (try simp only [List.map_toArray, List.map_cons, List.map_nil]); first | done | rfl | (simp only [List.length_drop, List.length_take]; rfl)) ?_; (with_reducible refine (send_Begin.calls k a0 t449 a2 t451 t452 t455 t458 _ A8.out).mono ?_); rintro e w168 ⟨v453, v456, rfl, ho0, ho1, hb⟩; refine ⟨_, rfl, ?_⟩; have n0_ := am_ (Kd.R_lower ho0 (below_size (by repeat (first | (with_reducible first | exact HB.out | apply bwA | apply bwN | apply bwD) | exact HB.out)))); have n1_ := am_ (Kd.R_lower ho1 (below_size (by repeat (first | (with_reducible first | exact HB.out | apply bwA | apply bwN | apply bwD) | exact HB.out)))); have n2_ := am_ (below_step (by repeat (first | (with_reducible first | exact HB.out | apply bwA | apply bwN | apply bwD) | exact HB.out)) hb); clear HB; have HO454 := n0_; have HO457 := n1_; have HB := n2_; clear n0_ n1_ n2_; (try clear hb); (try clear hb2); (try clear hk); (try clear hi); (try clear ho0); (try clear ho1)) | ((with_reducible refine gate_dst (N := 11) rfl ?_); (try (refine gate_guard (by rfl) ?_; dsimp only)); refine box_event ?hg (N := 11) ?hd (cs := #[.int .i64 0, .slice none 0 0, .slice none 0 0]) (t := 32) ?hr ?_; (case hd => rfl); (case hg => rfl); (case hr => first | (go_simp; done) | (go_simp; rfl)); intro gb459 hg w169 hbox hb; have n0_ := am_ (Kd.R_below (by (with_reducible repeat first | apply rwA | apply rwN | apply rwD); exact HO454.out) hb); have n1_ := am_ (Kd.R_below (by (with_reducible repeat first | apply rwA | apply rwN | apply rwD); exact HO457.out) hb); have n2_ := am_ (below_step (by repeat (first | (with_reducible first | exact HB.out | apply bwA | apply bwN | apply bwD) | exact HB.out)) hb); have n3_ := am_ (hbox); have n4_ := am_ ((by rw [hg]; exact (below_size (by repeat (first | (with_reducible first | exact HB.out | apply bwA | apply bwN | apply bwD) | exact HB.out))) : w.heap.size ≤ gb459)); have n5_ := am_ ((by rw [hg]; exact (below_size (by repeat (first | (with_reducible first | exact HB.out | apply bwA | apply bwN | apply bwD) | exact HB.out))) : w.heap.size ≤ gb459)); clear HO454; clear HO457; clear HB; have HO454 := n0_; have HO457 := n1_; have HB := n2_; have BK459 := n3_; have GW459 := n4_; have GE459 := n5_; clear n0_ n1_ n2_ n3_ n4_ n5_; clear hb hbox hg; have hcz170_0 : w169.cell? ⟨gb459, 0, none⟩ = some (.int .i64 0) := (blk_cell BK459.out 0).trans rfl; have hcz170_1 : w169.cell? ⟨gb459, 1, none⟩ = some (.slice none 0 0) := (blk_cell BK459.out 1).trans rfl; have hcz170_2 : w169.cell? ⟨gb459, 2, none⟩ = some (.slice none 0 0) := (blk_cell BK459.out 2).trans rfl; have hfz170_0 := blk_frozen BK459.out 0; have hfz170_1 := blk_frozen BK459.out 1; have hfz170_2 := blk_frozen BK459.out 2; obtain ⟨Ao171, co171, eo171⟩ := Kd.R_slice HO454.out; subst eo171; obtain ⟨Ao172, co172, eo172⟩ := Kd.R_slice HO457.out; subst eo172) | ((with_reducible refine gate_callee (f := 24) rfl ?_); refine goesL_ (some 47) rfl rfl Try.func24 (by kernel_rfl) rfl #[] rfl (by (try simp only [List.map_toArray, List.map_cons, List.map_nil]); first | done | rfl | (simp only [List.length_drop, List.length_take]; rfl)) ?_; (with_reducible refine (tillerlaw21_awake.calls k  t460 _ A167.out).mono ?_); rintro e w173 ⟨rfl, hb⟩; refine ⟨_, rfl, ?_⟩; have n0_ := am_ (Kd.R_below (by (with_reducible repeat first | apply rwA | apply rwN | apply rwD); exact (Kd.R_mono (rF gb459 2 (rF gb459 1 (rF gb459 0 (Kd.R_types HO454.out BK459.out (by decide)) sn_ (.int .i64 t451)) sn_ (.slice Ao171 t452.length co171)) sn_ (.slice Ao172 t455.length co172)) (fun _ h_ => h_.1))) hb); have n1_ := am_ (Kd.R_below (by (with_reducible repeat first | apply rwA | apply rwN | apply rwD); exact (Kd.R_mono (rF gb459 2 (rF gb459 1 (rF gb459 0 (Kd.R_types HO457.out BK459.out (by decide)) sn_ (.int .i64 t451)) sn_ (.slice Ao171 t452.length co171)) sn_ (.slice Ao172 t455.length co172)) (fun _ h_ => h_.1))) hb); have n2_ := am_ (blk_below (g := gb459) (o := .cells #[.int .i64 t451, .slice Ao171 t452.length co171, .slice Ao172 t455.length co172] 32 (0, 0)) (by (with_reducible repeat first | apply bkN | apply bkD | apply bkA); refine blk_put (cs := #[.int .i64 t451, .slice Ao171 t452.length co171, .slice none 0 0]) ?_ 2 _ rfl; (with_reducible repeat first | apply bkN | apply bkD | apply bkA); refine blk_put (cs := #[.int .i64 t451, .slice none 0 0, .slice none 0 0]) ?_ 1 _ rfl; (with_reducible repeat first | apply bkN | apply bkD | apply bkA); refine blk_put (cs := #[.int .i64 0, .slice none 0 0, .slice none 0 0]) ?_ 0 _ rfl; (with_reducible repeat first | apply bkN | apply bkD | apply bkA); exact BK459.out) hb); have n3_ := am_ (below_step (by repeat (first | (with_reducible first | exact HB.out | apply bwA | apply bwN | apply bwD | refine bs_ ?_ GE459.out) | exact HB.out)) hb); clear HO454; clear HO457; clear BK459; clear HB; have HO454 := n0_; have HO457 := n1_; have BK459 := n2_; have HB := n3_; clear n0_ n1_ n2_ n3_; (try clear hb); (try clear hb2); (try clear hk); (try clear hi)))
  go_ret
  exact ⟨by first | rfl | (simp [errW_none, errW_some] <;> rfl) | (simp [*, errW_none, errW_some] <;> rfl), by repeat (first | (with_reducible first | exact HB.out | apply bwA | apply bwN | apply bwD | refine bs_ ?_ GE459.out) | exact HB.out)⟩

end Go.Proofs.Ytfonfdpimbnfaaa.GQ
