-- written by this session's program gprint.py
import Derived.Test.YtfonfdpimbnfaaaGQx0
import Derived.Test.YtfonfdpimbnfaaaGQx12
import Derived.Test.YtfonfdpimbnfaaaGQx13
import Derived.Test.YtfonfdpimbnfaaaGQx16
import Derived.Test.YtfonfdpimbnfaaaWFoot
import Derived.Test.YtfonfdpimbnfaaaWGuard
import Derived.Test.YtfonfdpimbnfaaaWLast
import Derived.Test.YtfonfdpimbnfaaaWMore
import Derived.Test.YtfonfdpimbnfaaaWShare
import Derived.Test.YtfonfdpimbnfaaaWTab
import Derived.Test.YtfonfdpimbnfaaaWWords
namespace Go.Proofs.Ytfonfdpimbnfaaa.GQ
open Go.RowKit Go.Proofs.YtfonfdpimbnfaaaW.PrintWords Go.Proofs.YtfonfdpimbnfaaaW.PrintLast Go.Proofs.YtfonfdpimbnfaaaW.PrintMore Go.Proofs.Ytfonfdpimbnfaaa.GJoin Go.Proofs.Ytfonfdpimbnfaaa.GGot
attribute [local go_sem] max2_int min2_int max_two min_two max_three min_three max_four min_four   -- for this text's walks alone
set_option linter.unusedVariables false
set_option linter.unusedSimpArgs false
abbrev T46297_0 : Array Bool := #[false, false, false, false, false, false, false, false, false, false, false, false, false, false, false, false, false, false, false, false, false, false, false, false, false, false, false, false, false, false, false]
abbrev T46297_1 : Array Bool := #[true, false, false, false, false, false, false, false, false, false, false, false, false, false, false, false, false, false, false, false, false, false, false, false, false, false, false, false, false, false, false]
abbrev T46297_2 : Array Bool := #[true, true, false, false, false, false, false, false, false, false, false, false, false, false, false, false, false, false, false, false, false, false, false, false, false, false, false, false, false, false, false]
abbrev T46297_3 : Array Bool := #[true, true, true, false, false, false, false, false, false, false, false, false, false, false, false, false, false, false, false, false, false, false, false, false, false, false, false, false, false, false, false]
abbrev T46297_4 : Array Bool := #[true, true, true, true, false, false, false, false, false, false, false, false, false, false, false, false, false, false, false, false, false, false, false, false, false, false, false, false, false, false, false]
abbrev T46297_5 : Array Bool := #[true, true, true, true, true, false, false, false, false, false, false, false, false, false, false, false, false, false, false, false, false, false, false, false, false, false, false, false, false, false, false]
abbrev T46297_6 : Array Bool := #[true, true, true, true, true, true, false, false, false, false, false, false, false, false, false, false, false, false, false, false, false, false, false, false, false, false, false, false, false, false, false]
abbrev T46297_7 : Array Bool := #[true, true, true, true, true, true, true, false, false, false, false, false, false, false, false, false, false, false, false, false, false, false, false, false, false, false, false, false, false, false, false]
abbrev T46297_8 : Array Bool := #[true, true, true, true, true, true, true, true, false, false, false, false, false, false, false, false, false, false, false, false, false, false, false, false, false, false, false, false, false, false, false]
abbrev T46297_9 : Array Bool := #[true, true, true, true, true, true, true, true, true, false, false, false, false, false, false, false, false, false, false, false, false, false, false, false, false, false, false, false, false, false, false]
abbrev T46297_10 : Array Bool := #[true, true, true, true, true, true, true, true, true, true, false, false, false, false, false, false, false, false, false, false, false, false, false, false, false, false, false, false, false, false, false]
abbrev T46297_11 : Array Bool := #[true, true, true, true, true, true, true, true, true, true, true, false, false, false, false, false, false, false, false, false, false, false, false, false, false, false, false, false, false, false, false]
abbrev T46297_12 : Array Bool := #[true, true, true, true, true, true, true, true, true, true, true, true, false, false, false, false, false, false, false, false, false, false, false, false, false, false, false, false, false, false, false]
abbrev T46297_13 : Array Bool := #[true, true, true, true, true, true, true, true, true, true, true, true, true, false, false, false, false, false, false, false, false, false, false, false, false, false, false, false, false, false, false]
abbrev T46297_14 : Array Bool := #[true, true, true, true, true, true, true, true, true, true, true, true, true, true, false, false, false, false, false, false, false, false, false, false, false, false, false, false, false, false, false]
abbrev T46297_15 : Array Bool := #[true, true, true, true, true, true, true, true, true, true, true, true, true, true, true, false, false, false, false, false, false, false, false, false, false, false, false, false, false, false, false]
abbrev T46297_16 : Array Bool := #[true, true, true, true, true, true, true, true, true, true, true, true, true, true, true, true, false, false, false, false, false, false, false, false, false, false, false, false, false, false, false]
abbrev T46297_17 : Array Bool := #[true, true, true, true, true, true, true, true, true, true, true, true, true, true, true, true, true, false, false, false, false, false, false, false, false, false, false, false, false, false, false]
abbrev T46297_18 : Array Bool := #[true, true, true, true, true, true, true, true, true, true, true, true, true, true, true, true, true, true, false, false, false, false, false, false, false, false, false, false, false, false, false]
abbrev T46297_19 : Array Bool := #[true, true, true, true, true, true, true, true, true, true, true, true, true, true, true, true, true, true, true, false, false, false, false, false, false, false, false, false, false, false, false]
abbrev T46297_20 : Array Bool := #[true, true, true, true, true, true, true, true, true, true, true, true, true, true, true, true, true, true, true, true, false, false, false, false, false, false, false, false, false, false, false]
abbrev T46297_21 : Array Bool := #[true, true, true, true, true, true, true, true, true, true, true, true, true, true, true, true, true, true, true, true, true, false, false, false, false, false, false, false, false, false, false]
abbrev T46297_22 : Array Bool := #[true, true, true, true, true, true, true, true, true, true, true, true, true, true, true, true, true, true, true, true, true, true, false, false, false, false, false, false, false, false, false]
abbrev T46297_23 : Array Bool := #[true, true, true, true, true, true, true, true, true, true, true, true, true, true, true, true, true, true, true, true, true, true, true, false, false, false, false, false, false, false, false]
abbrev T46297_24 : Array Bool := #[true, true, true, true, true, true, true, true, true, true, true, true, true, true, true, true, true, true, true, true, true, true, true, false, false, true, false, false, false, false, false]
abbrev T46297_25 : Array Bool := #[true, true, true, true, true, true, true, true, true, true, true, true, true, true, true, true, true, true, true, true, true, true, true, true, false, true, false, false, false, false, false]
abbrev T46297_26 : Array Bool := #[true, true, true, true, true, true, true, true, true, true, true, true, true, true, true, true, true, true, true, true, true, true, true, true, false, true, true, false, false, false, false]
abbrev T46297_27 : Array Bool := #[true, true, true, true, true, true, true, true, true, true, true, true, true, true, true, true, true, true, true, true, true, true, true, true, false, true, true, true, false, false, false]
abbrev T46297_28 : Array Bool := #[true, true, true, true, true, true, true, true, true, true, true, true, true, true, true, true, true, true, true, true, true, true, true, true, true, true, true, true, false, false, false]
abbrev T46297_29 : Array Bool := #[true, true, true, true, true, true, true, true, true, true, true, true, true, true, true, true, true, true, true, true, true, true, true, true, true, true, true, true, true, false, false]
abbrev T46297_30 : Array Bool := #[true, true, true, true, true, true, true, true, true, true, true, true, true, true, true, true, true, true, true, true, true, true, true, true, true, true, true, true, true, true, false]
abbrev T46297_31 : Array Bool := #[true, true, true, true, true, true, true, true, true, true, true, true, true, true, true, true, true, true, true, true, true, true, true, true, true, true, true, true, true, true, true]

/-! ### tillerlaw21_RecvRaw: function 8 -/
def tillerlaw21_RecvRaw.j0 : Nat → Bool → Int → List ByteArray → List Bool → Int → Int → Int → ByteArray → Option (Bool)
 | 0, _, _, _, _, _, _, _, _ => none
 | k + 1, x22, x432000, x432001, x432002, x433000, x433001, x433002, x433003 => if x22 = true then ((tillerlaw21_awake.f k).bind fun t433 => (some t433)) else ((recv_Take.f k x432000 x432001 x432002 x433000 x433001 x433002 x433003).bind fun bt434 => ((recv_Whole.f k x432000 x432001 x432002).bind fun bt444 => ((tillerlaw21_awake.f k).bind fun t446 => (if t446 = true then (if bt434.2.2.2.1 = true then (some false) else (if bt434.2.2.2.2 = 4 then (if bt444.2 = true then (some false) else (if bt444.1.toList = ([] : List UInt8) then ((recv_Missing.f k x432000 x432001 x432002).bind fun t447 => (if t447 ≥ 0 then ((recv_Missing.f k x432000 x432001 x432002).bind fun t448 => (some (decide (t448 ≤ (x432001.length : Int))))) else (some false))) else (some false))) else (some false))) else (some false)))))
def tillerlaw21_RecvRaw.f (k : Nat) (a0_0 : Int) (l0_1 : List ByteArray) (l0_2 : List Bool) (a1_0 : Int) (a1_1 : Int) (a1_2 : Int) (a1_3 : ByteArray) : Option (Bool) := if (l0_1.length : Int) > 0 then (tillerlaw21_RecvRaw.j0 k ((l0_1.length : Int) == (l0_2.length : Int)) a0_0 l0_1 l0_2 a1_0 a1_1 a1_2 a1_3) else (tillerlaw21_RecvRaw.j0 k false a0_0 l0_1 l0_2 a1_0 a1_1 a1_2 a1_3)
theorem tillerlaw21_RecvRaw.mono_l : ∀ k, (∀ y0 y1 y2 y3 y4 y5 y6 y7, LeO (tillerlaw21_RecvRaw.j0 k y0 y1 y2 y3 y4 y5 y6 y7) (tillerlaw21_RecvRaw.j0 (k + 1) y0 y1 y2 y3 y4 y5 y6 y7))
 | 0 => fun _ _ _ _ _ _ _ _ r h => by simp [tillerlaw21_RecvRaw.j0] at h
 | k + 1 => by
  have ih0 := tillerlaw21_RecvRaw.mono_l k
  ·intro y0 y1 y2 y3 y4 y5 y6 y7
   unfold tillerlaw21_RecvRaw.j0
   repeat' first
   | (with_reducible exact ih0 _ _ _ _ _ _ _ _)
   | (with_reducible exact recv_Missing.mono _ _ _ _)
   | (with_reducible exact recv_Take.mono _ _ _ _ _ _ _ _)
   | (with_reducible exact recv_Whole.mono _ _ _ _)
   | (with_reducible exact tillerlaw21_awake.mono _)
   | (with_reducible exact LeO.refl _)
   | (with_reducible exact LeO.none _)
   | (with_reducible refine LeO.ite ?_ ?_)
   | (with_reducible refine LeO.bind ?_ (fun _ => ?_))
   | exact ih0 _ _ _ _ _ _ _ _
   | exact recv_Missing.mono _ _ _ _
   | exact recv_Take.mono _ _ _ _ _ _ _ _
   | exact recv_Whole.mono _ _ _ _
   | exact tillerlaw21_awake.mono _
   | exact LeO.none _
   | refine LeO.ite ?_ ?_
   | refine LeO.bind ?_ (fun _ => ?_)
theorem tillerlaw21_RecvRaw.mono : ∀ a0 a1 a2 a3 a4 a5 a6 k, LeO (tillerlaw21_RecvRaw.f k a0 a1 a2 a3 a4 a5 a6) (tillerlaw21_RecvRaw.f (k + 1) a0 a1 a2 a3 a4 a5 a6) := by
 intro a0 a1 a2 a3 a4 a5 a6 k
 have ih0 := tillerlaw21_RecvRaw.mono_l k
 unfold tillerlaw21_RecvRaw.f
 repeat' first
   | (with_reducible exact ih0 _ _ _ _ _ _ _ _)
   | (with_reducible exact recv_Missing.mono _ _ _ _)
   | (with_reducible exact recv_Take.mono _ _ _ _ _ _ _ _)
   | (with_reducible exact recv_Whole.mono _ _ _ _)
   | (with_reducible exact tillerlaw21_awake.mono _)
   | (with_reducible exact LeO.refl _)
   | (with_reducible exact LeO.none _)
   | (with_reducible refine LeO.ite ?_ ?_)
   | (with_reducible refine LeO.bind ?_ (fun _ => ?_))
   | exact ih0 _ _ _ _ _ _ _ _
   | exact recv_Missing.mono _ _ _ _
   | exact recv_Take.mono _ _ _ _ _ _ _ _
   | exact recv_Whole.mono _ _ _ _
   | exact tillerlaw21_awake.mono _
   | exact LeO.none _
   | refine LeO.ite ?_ ?_
   | refine LeO.bind ?_ (fun _ => ?_)
def tillerlaw21_RecvRaw.T5 : Bool × List (List Nat × List Nat) := (true, [([], []), ([0, 0], [0]), ([1], [1]), ([2, 1], [1, 2]), ([1, 3], [1, 3]), ([4, 1], [4]), ([5], [5]), ([6, 5], [5, 6]), ([5, 7], [5, 7]), ([8, 5], [8]), ([9], [9]), ([10, 9], [9, 10]), ([9, 11], [9, 11]), ([12, 9], [12]), ([13], [13]), ([14, 13], [13, 14]), ([13, 15], [13, 15]), ([16, 13], [16]), ([17], [17]), ([18, 17, 17], [17, 18]), ([19, 17], [17, 19]), ([17, 20], [17, 20]), ([21, 19], [21]), ([22], [22]), ([23, 22, 22], [22, 23]), ([22], [22]), ([25, 22], [22, 25]), ([26, 22], [22, 26]), ([24, 27, 22], [22, 24, 27]), ([22, 28], [22, 28]), ([29, 24, 0, 1, 2, 3, 4, 5, 6, 7, 8, 9, 10, 11, 12, 13, 14, 15, 16, 17, 18, 19, 20, 21, 22, 23, 24, 25, 26, 27, 28, 29], [29])])
def tillerlaw21_RecvRaw.B5 : List Nat := [0, 1, 3, 7, 15, 31, 63, 127, 255, 511, 1023, 2047, 4095, 8191, 16383, 32767, 65535, 131071, 262143, 524287, 1048575, 2097151, 4194303, 8388607, 16777215, 8388607, 41943039, 109051903, 268435455, 536870911, 1073741823]
theorem tillerlaw21_RecvRaw.tab5 : rtab .any (opsOf Try.f8 5) = tillerlaw21_RecvRaw.T5 := by kernel_rfl
theorem tillerlaw21_RecvRaw.bits5 : waitsOk tillerlaw21_RecvRaw.T5.2 tillerlaw21_RecvRaw.B5 = true := by kernel_rfl
set_option maxHeartbeats 8000000 in
set_option maxRecDepth 100000 in
theorem tillerlaw21_RecvRaw.calls (k : Nat) (a0_0 : Int) (A0_1 : Option Addr) (c0_1 : Nat) (l0_1 : List ByteArray) (A0_2 : Option Addr) (c0_2 : Nat) (l0_2 : List Bool) (a1_0 : Int) (a1_1 : Int) (a1_2 : Int) (a1_3 : ByteArray) (r : Bool) (w : World) (hr0_1 : Kd.C Kd.string w A0_1 l0_1.length l0_1) (hc0_1 : l0_1.length ≤ c0_1) (hr0_2 : Kd.C Kd.bool w A0_2 l0_2.length l0_2) (hc0_2 : l0_2.length ≤ c0_2) (hr_ : Aside0 (r = true)) (h : tillerlaw21_RecvRaw.f k a0_0 l0_1 l0_2 a1_0 a1_1 a1_2 a1_3 = some r) :
  Calls Try.prog 8 #[.agg #[.int .i64 a0_0, .slice A0_1 l0_1.length c0_1, .slice A0_2 l0_2.length c0_2], .agg #[.int .i64 a1_0, .int .i64 a1_1, .int .i64 a1_2, .string a1_3]] w fun e w' => e = .returned (.bool r) ∧ Below w.heap.size w w' := by
 have hu50 := Try.underlying50
 have hu46 := Try.underlying46
 have HR0_1 := Aside0.mk hr0_1
 have HC0_1 := Aside0.mk hc0_1
 clear hr0_1 hc0_1
 have HR0_2 := Aside0.mk hr0_2
 have HC0_2 := Aside0.mk hc0_2
 clear hr0_2 hc0_2
 have HB := Aside0.mk (Below.refl w.heap.size w)
 have H : (if (l0_1.length : Int) > 0 then (tillerlaw21_RecvRaw.j0 k ((l0_1.length : Int) == (l0_2.length : Int)) a0_0 l0_1 l0_2 a1_0 a1_1 a1_2 a1_3) else (tillerlaw21_RecvRaw.j0 k false a0_0 l0_1 l0_2 a1_0 a1_1 a1_2 a1_3)) = some r := h
 clear h
 have HC3 := Aside0.mk H
 clear H
 go_enter Try.func8, Try.ntmps8
 go_upto_region 1 with (first | ((with_reducible refine gate_dst (N := 2) rfl ?_); (try (refine gate_guard (by rfl) ?_; dsimp only)); refine box_event ?hg (N := 2) ?hd (cs := #[.int .i64 a0_0, .slice A0_1 l0_1.length c0_1, .slice A0_2 l0_2.length c0_2]) (t := 50) ?hr ?_; (case hd => rfl); (case hg => rfl); (case hr => first | (go_simp; done) | (go_simp; rfl)); intro gb431 hg w4 hbox hb; have n0_ := Aside0.mk (below_step (by repeat (first | (with_reducible first | exact HB.out | apply bwA | apply bwN | apply bwD) | exact HB.out)) hb); have n1_ := Aside0.mk (hbox); have n2_ := Aside0.mk ((by rw [hg]; exact (below_size (by repeat (first | (with_reducible first | exact HB.out | apply bwA | apply bwN | apply bwD) | exact HB.out))) : w.heap.size ≤ gb431)); have n3_ := Aside0.mk ((by rw [hg]; exact (below_size (by repeat (first | (with_reducible first | exact HB.out | apply bwA | apply bwN | apply bwD) | exact HB.out))) : w.heap.size ≤ gb431)); clear HB; have HB := n0_; have BK431 := n1_; have GW431 := n2_; have GE431 := n3_; clear n0_ n1_ n2_ n3_; clear hb hbox hg) | ((with_reducible refine gate_dst (N := 3) rfl ?_); (try (refine gate_guard (by rfl) ?_; dsimp only)); refine box_event ?hg (N := 3) ?hd (cs := #[.int .i64 a1_0, .int .i64 a1_1, .int .i64 a1_2, .string a1_3]) (t := 46) ?hr ?_; (case hd => rfl); (case hg => rfl); (case hr => first | (go_simp; done) | (go_simp; rfl)); intro gb432 hg w5 hbox hb; have n0_ := Aside0.mk (blk_below (g := gb431) (o := .cells #[.int .i64 a0_0, .slice A0_1 l0_1.length c0_1, .slice A0_2 l0_2.length c0_2] 50 (0, 0)) (by (with_reducible repeat (first | apply bkN | apply bkD | apply bkA)); exact BK431.out) hb); have n1_ := Aside0.mk (below_step (by repeat (first | (with_reducible first | exact HB.out | apply bwA | apply bwN | apply bwD | refine below_set ?_ GE431.out) | exact HB.out)) hb); have n2_ := Aside0.mk (hbox); have n3_ := Aside0.mk ((by rw [hg]; exact (below_size (by repeat (first | (with_reducible first | exact HB.out | apply bwA | apply bwN | apply bwD | refine below_set ?_ GE431.out) | exact HB.out))) : w.heap.size ≤ gb432)); have n4_ := Aside0.mk ((by rw [hg]; exact (below_size (by repeat (first | (with_reducible first | exact HB.out | apply bwA | apply bwN | apply bwD | refine below_set ?_ GE431.out) | exact HB.out))) : w.heap.size ≤ gb432)); have n5_ := Aside0.mk ((by rw [hg]; exact Nat.ne_of_lt (blk_lt (g := gb431) (o := .cells #[.int .i64 a0_0, .slice A0_1 l0_1.length c0_1, .slice A0_2 l0_2.length c0_2] 50 (0, 0)) (by (with_reducible repeat (first | apply bkN | apply bkD | apply bkA)); exact BK431.out)) : gb431 ≠ gb432)); have n6_ := Aside0.mk ((by rw [hg]; exact Nat.ne_of_gt (blk_lt (g := gb431) (o := .cells #[.int .i64 a0_0, .slice A0_1 l0_1.length c0_1, .slice A0_2 l0_2.length c0_2] 50 (0, 0)) (by (with_reducible repeat (first | apply bkN | apply bkD | apply bkA)); exact BK431.out)) : gb432 ≠ gb431)); clear BK431; clear HB; have BK431 := n0_; have HB := n1_; have BK432 := n2_; have GW432 := n3_; have GE432 := n4_; have NB431_432 := n5_; have NB432_431 := n6_; clear n0_ n1_ n2_ n3_ n4_ n5_ n6_; clear hb hbox hg))
 (try simp only [Act.put, List.setIfInBounds_toArray, List.set_cons_zero, List.set_cons_succ])
 go_cut [22] (fun v22 wc => ∃ (kq : Nat) (x22_2 : Bool), v22 = .bool x22_2 ∧ Aside0 (tillerlaw21_RecvRaw.j0 kq x22_2 a0_0 l0_1 l0_2 a1_0 a1_1 a1_2 a1_3 = some r) ∧ Aside0 (kq ≤ k) ∧ Aside0 (wc.heap[gb431]? = some (.cells #[.int .i64 a0_0, (.slice A0_1 l0_1.length c0_1), (.slice A0_2 l0_2.length c0_2)] 50 (0, 0))) ∧ Aside0 (wc.heap[gb432]? = some (.cells #[.int .i64 a1_0, .int .i64 a1_1, .int .i64 a1_2, .string a1_3] 46 (0, 0))) ∧ Aside0 (Below w.heap.size w wc))
 case first =>
  have H := HC3.out
  clear HC3
  by_cases c6 : (l0_1.length : Int) > 0
  ·rw [if_pos c6] at H
   have c6b0 : decide (0 < (l0_1.length : Int)) = true := decide_eq_true c6
   have c6b1 : decide (0 < l0_1.length) = true := decide_eq_true (by omega)
   clear c6
   (first | rw [c6b0] | (simp only [i64_w, i32_w]; rw [c6b0]) | skip)
   have H' := Aside0.mk H
   clear H
   have hnb7 := NB431_432.out
   have hnc7 := NB432_431.out
   have hcz8_0 : w5.cell? ⟨gb431, 0, none⟩ = some (.int .i64 a0_0) := (blk_cell BK431.out 0).trans rfl
   have hcz8_1 : w5.cell? ⟨gb431, 1, none⟩ = some (.slice A0_1 l0_1.length c0_1) := (blk_cell BK431.out 1).trans rfl
   have hcz8_2 : w5.cell? ⟨gb431, 2, none⟩ = some (.slice A0_2 l0_2.length c0_2) := (blk_cell BK431.out 2).trans rfl
   have hfz8_0 := blk_frozen BK431.out 0
   have hfz8_1 := blk_frozen BK431.out 1
   have hfz8_2 := blk_frozen BK431.out 2
   go_wp2
   go_meet
   case rel => exact ⟨_, (((l0_1.length : Int) == (l0_2.length : Int))), (by first | rfl | (simp; done) | (simp [*]; done) | (simp [ne_nil_]; done)), H', ⟨by first | omega | exact Nat.le_refl _⟩, ⟨by (with_reducible repeat (first | apply bkN | apply bkD | apply bkA)); exact BK431.out⟩, ⟨by (with_reducible repeat (first | apply bkN | apply bkD | apply bkA)); exact BK432.out⟩, ⟨by repeat (first | (with_reducible first | exact HB.out | apply bwA | apply bwN | apply bwD | refine below_set ?_ GE431.out | refine below_set ?_ GE432.out) | exact HB.out)⟩⟩
  ·rw [if_neg c6] at H
   have c6b0 : decide (0 < (l0_1.length : Int)) = false := decide_eq_false c6
   have c6b1 : decide (0 < l0_1.length) = false := decide_eq_false (by omega)
   clear c6
   (first | rw [c6b0] | (simp only [i64_w, i32_w]; rw [c6b0]) | skip)
   have H' := Aside0.mk H
   clear H
   have hnb9 := NB431_432.out
   have hnc9 := NB432_431.out
   have hcz10_0 : w5.cell? ⟨gb431, 0, none⟩ = some (.int .i64 a0_0) := (blk_cell BK431.out 0).trans rfl
   have hcz10_1 : w5.cell? ⟨gb431, 1, none⟩ = some (.slice A0_1 l0_1.length c0_1) := (blk_cell BK431.out 1).trans rfl
   have hcz10_2 : w5.cell? ⟨gb431, 2, none⟩ = some (.slice A0_2 l0_2.length c0_2) := (blk_cell BK431.out 2).trans rfl
   have hfz10_0 := blk_frozen BK431.out 0
   have hfz10_1 := blk_frozen BK431.out 1
   have hfz10_2 := blk_frozen BK431.out 2
   go_wp2
   go_meet
   case rel => exact ⟨_, (false), (by first | rfl | (simp; done) | (simp [*]; done) | (simp [ne_nil_]; done)), H', ⟨by first | omega | exact Nat.le_refl _⟩, ⟨by (with_reducible repeat (first | apply bkN | apply bkD | apply bkA)); exact BK431.out⟩, ⟨by (with_reducible repeat (first | apply bkN | apply bkD | apply bkA)); exact BK432.out⟩, ⟨by repeat (first | (with_reducible first | exact HB.out | apply bwA | apply bwN | apply bwD | refine below_set ?_ GE431.out | refine below_set ?_ GE432.out) | exact HB.out)⟩⟩
 case rest =>
  clear HC3
  try clear p2
  try clear c6
  try clear c6b0
  try clear c6b1
  try clear c7
  try clear c8
  try clear c9
  try clear hcz10_0
  try clear hcz10_1
  try clear hcz10_2
  try clear hcz8_0
  try clear hcz8_1
  try clear hcz8_2
  try clear hfz10_0
  try clear hfz10_1
  try clear hfz10_2
  try clear hfz8_0
  try clear hfz8_1
  try clear hfz8_2
  obtain ⟨kq, x22_2, rfl, HA, HJ2, BK431, BK432, HB⟩ := hcut
  cases kq with
  | zero => exact absurd HA.out (by simp [tillerlaw21_RecvRaw.j0])
  | succ kj2 =>
   have H := HA.out
   clear HA
   simp only [tillerlaw21_RecvRaw.j0] at H
   by_cases c11 : x22_2 = true
   ·subst c11
    have H1 : ((tillerlaw21_awake.f kj2).bind fun t433 => (some t433)) = some r := by rw [if_pos rfl] at H; exact H
    clear H
    have H := H1
    clear H1
    replace H := Option.bind_eq_some_iff.mp H
    obtain ⟨t433, A120, H⟩ := H
    replace H : (some t433) = some r := H
    have A12 := Aside0.mk A120
    clear A120
    obtain rfl := Option.some.inj H
    go_wp2_with (first | ((with_reducible refine gate_callee (f := 24) rfl ?_); refine goesL_ (some 23) rfl rfl Try.func24 (by kernel_rfl) rfl #[] rfl (by (try simp only [List.map_toArray, List.map_cons, List.map_nil]); first | done | rfl | (simp only [List.length_drop, List.length_take]; rfl)) ?_; (with_reducible refine (tillerlaw21_awake.calls kj2  t433 _ A12.out).mono ?_); rintro e w13 ⟨rfl, hb⟩; refine ⟨_, rfl, ?_⟩; have n0_ := Aside0.mk (blk_below (g := gb431) (o := .cells #[.int .i64 a0_0, .slice A0_1 l0_1.length c0_1, .slice A0_2 l0_2.length c0_2] 50 (0, 0)) (by (with_reducible repeat (first | apply bkN | apply bkD | apply bkA)); exact BK431.out) hb); have n1_ := Aside0.mk (blk_below (g := gb432) (o := .cells #[.int .i64 a1_0, .int .i64 a1_1, .int .i64 a1_2, .string a1_3] 46 (0, 0)) (by (with_reducible repeat (first | apply bkN | apply bkD | apply bkA)); exact BK432.out) hb); have n2_ := Aside0.mk (below_step (by repeat (first | (with_reducible first | exact HB.out | apply bwA | apply bwN | apply bwD | refine below_set ?_ GE431.out | refine below_set ?_ GE432.out) | exact HB.out)) hb); clear BK431; clear BK432; clear HB; have BK431 := n0_; have BK432 := n1_; have HB := n2_; clear n0_ n1_ n2_; (try clear hb); (try clear hb2); (try clear hk); (try clear hi)))
    go_ret
    exact ⟨by first | rfl | (simp [errW_none, errW_some] <;> rfl) | (simp [*, errW_none, errW_some] <;> rfl), by repeat (first | (with_reducible first | exact HB.out | apply bwA | apply bwN | apply bwD | refine below_set ?_ GE431.out | refine below_set ?_ GE432.out) | exact HB.out)⟩
   ·replace c11 := Bool.eq_false_iff.mpr c11
    subst c11
    have H1 : ((recv_Take.f kj2 a0_0 l0_1 l0_2 a1_0 a1_1 a1_2 a1_3).bind fun bt434 => ((recv_Whole.f kj2 a0_0 l0_1 l0_2).bind fun bt444 => ((tillerlaw21_awake.f kj2).bind fun t446 => (if t446 = true then (if bt434.2.2.2.1 = true then (some false) else (if bt434.2.2.2.2 = 4 then (if bt444.2 = true then (some false) else (if bt444.1.toList = ([] : List UInt8) then ((recv_Missing.f kj2 a0_0 l0_1 l0_2).bind fun t447 => (if t447 ≥ 0 then ((recv_Missing.f kj2 a0_0 l0_1 l0_2).bind fun t448 => (some (decide (t448 ≤ (l0_1.length : Int))))) else (some false))) else (some false))) else (some false))) else (some false))))) = some r := by rw [if_neg (show ¬ (false = true) by decide)] at H; exact H
    clear H
    have H := H1
    clear H1
    replace H := Option.bind_eq_some_iff.mp H
    obtain ⟨⟨t434, t435, t438, t441, t442⟩, A140, H⟩ := H
    replace H : ((recv_Whole.f kj2 a0_0 l0_1 l0_2).bind fun bt444 => ((tillerlaw21_awake.f kj2).bind fun t446 => (if t446 = true then (if t441 = true then (some false) else (if t442 = 4 then (if bt444.2 = true then (some false) else (if bt444.1.toList = ([] : List UInt8) then ((recv_Missing.f kj2 a0_0 l0_1 l0_2).bind fun t447 => (if t447 ≥ 0 then ((recv_Missing.f kj2 a0_0 l0_1 l0_2).bind fun t448 => (some (decide (t448 ≤ (l0_1.length : Int))))) else (some false))) else (some false))) else (some false))) else (some false)))) = some r := H
    have A14 := Aside0.mk A140
    clear A140
    replace H := Option.bind_eq_some_iff.mp H
    obtain ⟨⟨t444, t445⟩, A150, H⟩ := H
    replace H : ((tillerlaw21_awake.f kj2).bind fun t446 => (if t446 = true then (if t441 = true then (some false) else (if t442 = 4 then (if t445 = true then (some false) else (if t444.toList = ([] : List UInt8) then ((recv_Missing.f kj2 a0_0 l0_1 l0_2).bind fun t447 => (if t447 ≥ 0 then ((recv_Missing.f kj2 a0_0 l0_1 l0_2).bind fun t448 => (some (decide (t448 ≤ (l0_1.length : Int))))) else (some false))) else (some false))) else (some false))) else (some false))) = some r := H
    have A15 := Aside0.mk A150
    clear A150
    replace H := Option.bind_eq_some_iff.mp H
    obtain ⟨t446, A160, H⟩ := H
    replace H : (if t446 = true then (if t441 = true then (some false) else (if t442 = 4 then (if t445 = true then (some false) else (if t444.toList = ([] : List UInt8) then ((recv_Missing.f kj2 a0_0 l0_1 l0_2).bind fun t447 => (if t447 ≥ 0 then ((recv_Missing.f kj2 a0_0 l0_1 l0_2).bind fun t448 => (some (decide (t448 ≤ (l0_1.length : Int))))) else (some false))) else (some false))) else (some false))) else (some false)) = some r := H
    have A16 := Aside0.mk A160
    clear A160
    by_cases c17 : t446 = true
    ·subst c17
     have H1 : (if t441 = true then (some false) else (if t442 = 4 then (if t445 = true then (some false) else (if t444.toList = ([] : List UInt8) then ((recv_Missing.f kj2 a0_0 l0_1 l0_2).bind fun t447 => (if t447 ≥ 0 then ((recv_Missing.f kj2 a0_0 l0_1 l0_2).bind fun t448 => (some (decide (t448 ≤ (l0_1.length : Int))))) else (some false))) else (some false))) else (some false))) = some r := by rw [if_pos rfl] at H; exact H
     clear H
     have H := H1
     clear H1
     by_cases c18 : t441 = true
     ·subst c18
      have H1 : (some false) = some r := by rw [if_pos rfl] at H; exact H
      clear H
      have H := H1
      clear H1
      exact absurd (Option.some.inj H) (by rw [hr_.out]; decide)
     ·replace c18 := Bool.eq_false_iff.mpr c18
      subst c18
      have H1 : (if t442 = 4 then (if t445 = true then (some false) else (if t444.toList = ([] : List UInt8) then ((recv_Missing.f kj2 a0_0 l0_1 l0_2).bind fun t447 => (if t447 ≥ 0 then ((recv_Missing.f kj2 a0_0 l0_1 l0_2).bind fun t448 => (some (decide (t448 ≤ (l0_1.length : Int))))) else (some false))) else (some false))) else (some false)) = some r := by rw [if_neg (show ¬ (false = true) by decide)] at H; exact H
      clear H
      have H := H1
      clear H1
      by_cases c19 : t442 = 4
      ·rw [if_pos c19] at H
       have c19b0 : (t442 == 4) = true := beq_iff_eq.mpr c19
       have c19b1 : (t442 != 4) = false := bne_eq_false_iff_eq.mpr c19
       clear c19
       by_cases c20 : t445 = true
       ·subst c20
        have H1 : (some false) = some r := by rw [if_pos rfl] at H; exact H
        clear H
        have H := H1
        clear H1
        exact absurd (Option.some.inj H) (by rw [hr_.out]; decide)
       ·replace c20 := Bool.eq_false_iff.mpr c20
        subst c20
        have H1 : (if t444.toList = ([] : List UInt8) then ((recv_Missing.f kj2 a0_0 l0_1 l0_2).bind fun t447 => (if t447 ≥ 0 then ((recv_Missing.f kj2 a0_0 l0_1 l0_2).bind fun t448 => (some (decide (t448 ≤ (l0_1.length : Int))))) else (some false))) else (some false)) = some r := by rw [if_neg (show ¬ (false = true) by decide)] at H; exact H
        clear H
        have H := H1
        clear H1
        by_cases c21 : t444.toList = ([] : List UInt8)
        ·rw [if_pos c21] at H
         have c21b0 : (t444.toList == ([] : List UInt8)) = true := beq_iff_eq.mpr c21
         have c21b1 : (t444.toList != ([] : List UInt8)) = false := bne_eq_false_iff_eq.mpr c21
         clear c21
         replace H := Option.bind_eq_some_iff.mp H
         obtain ⟨t447, A220, H⟩ := H
         replace H : (if t447 ≥ 0 then ((recv_Missing.f kj2 a0_0 l0_1 l0_2).bind fun t448 => (some (decide (t448 ≤ (l0_1.length : Int))))) else (some false)) = some r := H
         have A22 := Aside0.mk A220
         clear A220
         by_cases c23 : t447 ≥ 0
         ·rw [if_pos c23] at H
          have c23b0 : decide (0 ≤ t447) = true := decide_eq_true c23
          clear c23
          replace H := Option.bind_eq_some_iff.mp H
          obtain ⟨t448, A240, H⟩ := H
          replace H : (some (decide (t448 ≤ (l0_1.length : Int)))) = some r := H
          have A24 := Aside0.mk A240
          clear A240
          obtain rfl := Option.some.inj H
          have hnb25 := NB431_432.out
          have hnc25 := NB432_431.out
          have hcz26_0 : wc.cell? ⟨gb431, 0, none⟩ = some (.int .i64 a0_0) := (blk_cell BK431.out 0).trans rfl
          have hcz26_1 : wc.cell? ⟨gb431, 1, none⟩ = some (.slice A0_1 l0_1.length c0_1) := (blk_cell BK431.out 1).trans rfl
          have hcz26_2 : wc.cell? ⟨gb431, 2, none⟩ = some (.slice A0_2 l0_2.length c0_2) := (blk_cell BK431.out 2).trans rfl
          have hfz26_0 := blk_frozen BK431.out 0
          have hfz26_1 := blk_frozen BK431.out 1
          have hfz26_2 := blk_frozen BK431.out 2
          have hcz27_0 : wc.cell? ⟨gb432, 0, none⟩ = some (.int .i64 a1_0) := (blk_cell BK432.out 0).trans rfl
          have hcz27_1 : wc.cell? ⟨gb432, 1, none⟩ = some (.int .i64 a1_1) := (blk_cell BK432.out 1).trans rfl
          have hcz27_2 : wc.cell? ⟨gb432, 2, none⟩ = some (.int .i64 a1_2) := (blk_cell BK432.out 2).trans rfl
          have hcz27_3 : wc.cell? ⟨gb432, 3, none⟩ = some (.string a1_3) := (blk_cell BK432.out 3).trans rfl
          have hfz27_0 := blk_frozen BK432.out 0
          have hfz27_1 := blk_frozen BK432.out 1
          have hfz27_2 := blk_frozen BK432.out 2
          have hfz27_3 := blk_frozen BK432.out 3
          try go_wp2_with (first | ((with_reducible refine gate_callee (f := 25) rfl ?_); refine goesL_ (some 27) rfl rfl Try.func25 (by kernel_rfl) rfl #[.agg #[.int .i64 a0_0, .slice A0_1 l0_1.length c0_1, .slice A0_2 l0_2.length c0_2], .agg #[.int .i64 a1_0, .int .i64 a1_1, .int .i64 a1_2, .string a1_3]] rfl (by (try simp only [List.map_toArray, List.map_cons, List.map_nil]); first | done | rfl | (simp only [List.length_drop, List.length_take]; rfl)) ?_; (with_reducible refine (recv_Take.calls kj2 a0_0 (fun k_ => k_ < w.heap.size) _ _ l0_1 (fun k_ => k_ < w.heap.size) _ _ l0_2 a1_0 a1_1 a1_2 a1_3 t434 t435 t438 false t442 _ ?side1 ?side2 A14.out).mono ?_); (case side1 => exact Kd.V_mk HC0_1.out (Kd.F_below (Kd.C_F Kd.heap_string HR0_1.out) (by repeat (first | (with_reducible first | exact HB.out | apply bwA | apply bwN | apply bwD | refine below_set ?_ GE431.out | refine below_set ?_ GE432.out) | exact HB.out)))); (case side2 => exact Kd.V_mk HC0_2.out (Kd.F_below (Kd.C_F Kd.heap_bool HR0_2.out) (by repeat (first | (with_reducible first | exact HB.out | apply bwA | apply bwN | apply bwD | refine below_set ?_ GE431.out | refine below_set ?_ GE432.out) | exact HB.out)))); rintro e w28 ⟨v436, v439, rfl, ho0, ho1, hb⟩; refine ⟨_, rfl, ?_⟩; have n0_ := Aside0.mk (Kd.V_lower (Kd.V_mono (ok' := fun k_ => k_ ≠ gb431 ∧ k_ ≠ gb432) ho0 (fun k_ hk_ => ⟨Or.elim hk_ (fun hs_ => Or.elim hs_ (fun hs_ => fun e_ => Nat.not_le.2 hs_ (by rw [e_]; exact GW431.out)) (fun hs_ => fun e_ => Nat.not_le.2 hs_ (by rw [e_]; exact GW431.out))) (fun hn_ => (Kd.freshB (g := gb431) (o := .cells #[.int .i64 a0_0, .slice A0_1 l0_1.length c0_1, .slice A0_2 l0_2.length c0_2] 50 (0, 0)) (by (with_reducible repeat (first | apply bkN | apply bkD | apply bkA)); exact BK431.out) k_ hn_)), Or.elim hk_ (fun hs_ => Or.elim hs_ (fun hs_ => fun e_ => Nat.not_le.2 hs_ (by rw [e_]; exact GW432.out)) (fun hs_ => fun e_ => Nat.not_le.2 hs_ (by rw [e_]; exact GW432.out))) (fun hn_ => (Kd.freshB (g := gb432) (o := .cells #[.int .i64 a1_0, .int .i64 a1_1, .int .i64 a1_2, .string a1_3] 46 (0, 0)) (by (with_reducible repeat (first | apply bkN | apply bkD | apply bkA)); exact BK432.out) k_ hn_))⟩)) (below_size (by repeat (first | (with_reducible first | exact HB.out | apply bwA | apply bwN | apply bwD | refine below_set ?_ GE431.out | refine below_set ?_ GE432.out) | exact HB.out)))); have n1_ := Aside0.mk (Kd.V_lower (Kd.V_mono (ok' := fun k_ => k_ ≠ gb431 ∧ k_ ≠ gb432) ho1 (fun k_ hk_ => ⟨Or.elim hk_ (fun hs_ => Or.elim hs_ (fun hs_ => fun e_ => Nat.not_le.2 hs_ (by rw [e_]; exact GW431.out)) (fun hs_ => fun e_ => Nat.not_le.2 hs_ (by rw [e_]; exact GW431.out))) (fun hn_ => (Kd.freshB (g := gb431) (o := .cells #[.int .i64 a0_0, .slice A0_1 l0_1.length c0_1, .slice A0_2 l0_2.length c0_2] 50 (0, 0)) (by (with_reducible repeat (first | apply bkN | apply bkD | apply bkA)); exact BK431.out) k_ hn_)), Or.elim hk_ (fun hs_ => Or.elim hs_ (fun hs_ => fun e_ => Nat.not_le.2 hs_ (by rw [e_]; exact GW432.out)) (fun hs_ => fun e_ => Nat.not_le.2 hs_ (by rw [e_]; exact GW432.out))) (fun hn_ => (Kd.freshB (g := gb432) (o := .cells #[.int .i64 a1_0, .int .i64 a1_1, .int .i64 a1_2, .string a1_3] 46 (0, 0)) (by (with_reducible repeat (first | apply bkN | apply bkD | apply bkA)); exact BK432.out) k_ hn_))⟩)) (below_size (by repeat (first | (with_reducible first | exact HB.out | apply bwA | apply bwN | apply bwD | refine below_set ?_ GE431.out | refine below_set ?_ GE432.out) | exact HB.out)))); have n2_ := Aside0.mk (blk_below (g := gb431) (o := .cells #[.int .i64 a0_0, .slice A0_1 l0_1.length c0_1, .slice A0_2 l0_2.length c0_2] 50 (0, 0)) (by (with_reducible repeat (first | apply bkN | apply bkD | apply bkA)); exact BK431.out) hb); have n3_ := Aside0.mk (blk_below (g := gb432) (o := .cells #[.int .i64 a1_0, .int .i64 a1_1, .int .i64 a1_2, .string a1_3] 46 (0, 0)) (by (with_reducible repeat (first | apply bkN | apply bkD | apply bkA)); exact BK432.out) hb); have n4_ := Aside0.mk (below_step (by repeat (first | (with_reducible first | exact HB.out | apply bwA | apply bwN | apply bwD | refine below_set ?_ GE431.out | refine below_set ?_ GE432.out) | exact HB.out)) hb); clear BK431; clear BK432; clear HB; have HO437 := n0_; have HO440 := n1_; have BK431 := n2_; have BK432 := n3_; have HB := n4_; clear n0_ n1_ n2_ n3_ n4_; (try clear hb); (try clear hb2); (try clear hk); (try clear hi); (try clear ho0); (try clear ho1)) | ((with_reducible refine gate_dst (N := 5) rfl ?_); (try (refine gate_guard (by rfl) ?_; dsimp only)); refine box_event ?hg (N := 5) ?hd (cs := #[.int .i64 0, .slice none 0 0, .slice none 0 0]) (t := 50) ?hr ?_; (case hd => rfl); (case hg => rfl); (case hr => first | (go_simp; done) | (go_simp; rfl)); intro gb443 hg w29 hbox hb; have n0_ := Aside0.mk (Kd.V_below (Kd.V_elderB (by (with_reducible repeat (first | apply Kd.V_alloc | apply Kd.V_drewN | apply Kd.V_drew)); exact HO437.out) gb443 (Nat.le_of_eq hg.symm)) hb); have n1_ := Aside0.mk (Kd.V_below (Kd.V_elderB (by (with_reducible repeat (first | apply Kd.V_alloc | apply Kd.V_drewN | apply Kd.V_drew)); exact HO440.out) gb443 (Nat.le_of_eq hg.symm)) hb); have n2_ := Aside0.mk (blk_below (g := gb431) (o := .cells #[.int .i64 a0_0, .slice A0_1 l0_1.length c0_1, .slice A0_2 l0_2.length c0_2] 50 (0, 0)) (by (with_reducible repeat (first | apply bkN | apply bkD | apply bkA)); exact BK431.out) hb); have n3_ := Aside0.mk (blk_below (g := gb432) (o := .cells #[.int .i64 a1_0, .int .i64 a1_1, .int .i64 a1_2, .string a1_3] 46 (0, 0)) (by (with_reducible repeat (first | apply bkN | apply bkD | apply bkA)); exact BK432.out) hb); have n4_ := Aside0.mk (below_step (by repeat (first | (with_reducible first | exact HB.out | apply bwA | apply bwN | apply bwD | refine below_set ?_ GE431.out | refine below_set ?_ GE432.out) | exact HB.out)) hb); have n5_ := Aside0.mk (hbox); have n6_ := Aside0.mk ((by rw [hg]; exact (below_size (by repeat (first | (with_reducible first | exact HB.out | apply bwA | apply bwN | apply bwD | refine below_set ?_ GE431.out | refine below_set ?_ GE432.out) | exact HB.out))) : w.heap.size ≤ gb443)); have n7_ := Aside0.mk ((by rw [hg]; exact (below_size (by repeat (first | (with_reducible first | exact HB.out | apply bwA | apply bwN | apply bwD | refine below_set ?_ GE431.out | refine below_set ?_ GE432.out) | exact HB.out))) : w.heap.size ≤ gb443)); have n8_ := Aside0.mk ((by rw [hg]; exact Nat.ne_of_lt (blk_lt (g := gb431) (o := .cells #[.int .i64 a0_0, .slice A0_1 l0_1.length c0_1, .slice A0_2 l0_2.length c0_2] 50 (0, 0)) (by (with_reducible repeat (first | apply bkN | apply bkD | apply bkA)); exact BK431.out)) : gb431 ≠ gb443)); have n9_ := Aside0.mk ((by rw [hg]; exact Nat.ne_of_gt (blk_lt (g := gb431) (o := .cells #[.int .i64 a0_0, .slice A0_1 l0_1.length c0_1, .slice A0_2 l0_2.length c0_2] 50 (0, 0)) (by (with_reducible repeat (first | apply bkN | apply bkD | apply bkA)); exact BK431.out)) : gb443 ≠ gb431)); have n10_ := Aside0.mk ((by rw [hg]; exact Nat.ne_of_lt (blk_lt (g := gb432) (o := .cells #[.int .i64 a1_0, .int .i64 a1_1, .int .i64 a1_2, .string a1_3] 46 (0, 0)) (by (with_reducible repeat (first | apply bkN | apply bkD | apply bkA)); exact BK432.out)) : gb432 ≠ gb443)); have n11_ := Aside0.mk ((by rw [hg]; exact Nat.ne_of_gt (blk_lt (g := gb432) (o := .cells #[.int .i64 a1_0, .int .i64 a1_1, .int .i64 a1_2, .string a1_3] 46 (0, 0)) (by (with_reducible repeat (first | apply bkN | apply bkD | apply bkA)); exact BK432.out)) : gb443 ≠ gb432)); clear HO437; clear HO440; clear BK431; clear BK432; clear HB; have HO437 := n0_; have HO440 := n1_; have BK431 := n2_; have BK432 := n3_; have HB := n4_; have BK443 := n5_; have GW443 := n6_; have GE443 := n7_; have NB431_443 := n8_; have NB443_431 := n9_; have NB432_443 := n10_; have NB443_432 := n11_; clear n0_ n1_ n2_ n3_ n4_ n5_ n6_ n7_ n8_ n9_ n10_ n11_; clear hb hbox hg; have hnb30 := NB443_431.out; have hnc30 := NB431_443.out; have hnb31 := NB443_432.out; have hnc31 := NB432_443.out; have hcz32_0 : w29.cell? ⟨gb443, 0, none⟩ = some (.int .i64 0) := (blk_cell BK443.out 0).trans rfl; have hcz32_1 : w29.cell? ⟨gb443, 1, none⟩ = some (.slice none 0 0) := (blk_cell BK443.out 1).trans rfl; have hcz32_2 : w29.cell? ⟨gb443, 2, none⟩ = some (.slice none 0 0) := (blk_cell BK443.out 2).trans rfl; have hfz32_0 := blk_frozen BK443.out 0; have hfz32_1 := blk_frozen BK443.out 1; have hfz32_2 := blk_frozen BK443.out 2; obtain ⟨Ao33, co33, eo33⟩ := Kd.V_slice HO437.out; subst eo33; obtain ⟨Ao34, co34, eo34⟩ := Kd.V_slice HO440.out; subst eo34; have hcz35_0 : w29.cell? ⟨gb431, 0, none⟩ = some (.int .i64 a0_0) := (blk_cell BK431.out 0).trans rfl; have hcz35_1 : w29.cell? ⟨gb431, 1, none⟩ = some (.slice A0_1 l0_1.length c0_1) := (blk_cell BK431.out 1).trans rfl; have hcz35_2 : w29.cell? ⟨gb431, 2, none⟩ = some (.slice A0_2 l0_2.length c0_2) := (blk_cell BK431.out 2).trans rfl; have hfz35_0 := blk_frozen BK431.out 0; have hfz35_1 := blk_frozen BK431.out 1; have hfz35_2 := blk_frozen BK431.out 2) | ((with_reducible refine gate_callee (f := 27) rfl ?_); refine goesL_ (some 33) rfl rfl Try.func27 (by kernel_rfl) rfl #[.agg #[.int .i64 a0_0, .slice A0_1 l0_1.length c0_1, .slice A0_2 l0_2.length c0_2]] rfl (by (try simp only [List.map_toArray, List.map_cons, List.map_nil]); first | done | rfl | (simp only [List.length_drop, List.length_take]; rfl)) ?_; (with_reducible refine (recv_Whole.calls kj2 a0_0 _ _ l0_1 _ _ l0_2 t444 false _ ?side1 ?side2 ?side3 ?side4 A15.out).mono ?_); (case side1 => exact Kd.C_below HR0_1.out (by repeat (first | (with_reducible first | exact HB.out | apply bwA | apply bwN | apply bwD | refine below_set ?_ GE431.out | refine below_set ?_ GE432.out | refine below_set ?_ GE443.out) | exact HB.out))); (case side2 => exact HC0_1.out); (case side3 => exact Kd.C_below HR0_2.out (by repeat (first | (with_reducible first | exact HB.out | apply bwA | apply bwN | apply bwD | refine below_set ?_ GE431.out | refine below_set ?_ GE432.out | refine below_set ?_ GE443.out) | exact HB.out))); (case side4 => exact HC0_2.out); rintro e w36 ⟨rfl, hb⟩; refine ⟨_, rfl, ?_⟩; have n0_ := Aside0.mk (Kd.V_below (by (with_reducible repeat (first | apply Kd.V_alloc | apply Kd.V_drewN | apply Kd.V_drew)); exact (Kd.V_mono (Kd.V_far (p := ⟨gb443, 2, none⟩) (Kd.V_far (p := ⟨gb443, 1, none⟩) (Kd.V_far (p := ⟨gb443, 0, none⟩) (Kd.V_mono HO437.out (fun k_ hk => (⟨hk, hk.2⟩ : _ ∧ k_ ≠ gb443))) (fun _ hk => hk.2) (.int .i64 t434)) (fun _ hk => hk.2) (.slice Ao33 t435.length co33)) (fun _ hk => hk.2) (.slice Ao34 t438.length co34)) (fun _ h_ => h_.1))) hb); have n1_ := Aside0.mk (Kd.V_below (by (with_reducible repeat (first | apply Kd.V_alloc | apply Kd.V_drewN | apply Kd.V_drew)); exact (Kd.V_mono (Kd.V_far (p := ⟨gb443, 2, none⟩) (Kd.V_far (p := ⟨gb443, 1, none⟩) (Kd.V_far (p := ⟨gb443, 0, none⟩) (Kd.V_mono HO440.out (fun k_ hk => (⟨hk, hk.2⟩ : _ ∧ k_ ≠ gb443))) (fun _ hk => hk.2) (.int .i64 t434)) (fun _ hk => hk.2) (.slice Ao33 t435.length co33)) (fun _ hk => hk.2) (.slice Ao34 t438.length co34)) (fun _ h_ => h_.1))) hb); have n2_ := Aside0.mk (blk_below (g := gb431) (o := .cells #[.int .i64 a0_0, .slice A0_1 l0_1.length c0_1, .slice A0_2 l0_2.length c0_2] 50 (0, 0)) (by (with_reducible repeat (first | apply bkN | apply bkD | apply bkA)); refine blk_far ?_ NB431_443.out _; (with_reducible repeat (first | apply bkN | apply bkD | apply bkA)); refine blk_far ?_ NB431_443.out _; (with_reducible repeat (first | apply bkN | apply bkD | apply bkA)); refine blk_far ?_ NB431_443.out _; (with_reducible repeat (first | apply bkN | apply bkD | apply bkA)); exact BK431.out) hb); have n3_ := Aside0.mk (blk_below (g := gb432) (o := .cells #[.int .i64 a1_0, .int .i64 a1_1, .int .i64 a1_2, .string a1_3] 46 (0, 0)) (by (with_reducible repeat (first | apply bkN | apply bkD | apply bkA)); refine blk_far ?_ NB432_443.out _; (with_reducible repeat (first | apply bkN | apply bkD | apply bkA)); refine blk_far ?_ NB432_443.out _; (with_reducible repeat (first | apply bkN | apply bkD | apply bkA)); refine blk_far ?_ NB432_443.out _; (with_reducible repeat (first | apply bkN | apply bkD | apply bkA)); exact BK432.out) hb); have n4_ := Aside0.mk (blk_below (g := gb443) (o := .cells #[.int .i64 t434, .slice Ao33 t435.length co33, .slice Ao34 t438.length co34] 50 (0, 0)) (by (with_reducible repeat (first | apply bkN | apply bkD | apply bkA)); refine blk_put (cs := #[.int .i64 t434, .slice Ao33 t435.length co33, .slice none 0 0]) ?_ 2 _ rfl; (with_reducible repeat (first | apply bkN | apply bkD | apply bkA)); refine blk_put (cs := #[.int .i64 t434, .slice none 0 0, .slice none 0 0]) ?_ 1 _ rfl; (with_reducible repeat (first | apply bkN | apply bkD | apply bkA)); refine blk_put (cs := #[.int .i64 0, .slice none 0 0, .slice none 0 0]) ?_ 0 _ rfl; (with_reducible repeat (first | apply bkN | apply bkD | apply bkA)); exact BK443.out) hb); have n5_ := Aside0.mk (below_step (by repeat (first | (with_reducible first | exact HB.out | apply bwA | apply bwN | apply bwD | refine below_set ?_ GE431.out | refine below_set ?_ GE432.out | refine below_set ?_ GE443.out) | exact HB.out)) hb); clear HO437; clear HO440; clear BK431; clear BK432; clear BK443; clear HB; have HO437 := n0_; have HO440 := n1_; have BK431 := n2_; have BK432 := n3_; have BK443 := n4_; have HB := n5_; clear n0_ n1_ n2_ n3_ n4_ n5_; (try clear hb); (try clear hb2); (try clear hk); (try clear hi)))
          have n0_ := Aside0.mk (Kd.V_drew HO437.out)
          have n1_ := Aside0.mk (Kd.V_drew HO440.out)
          have n2_ := Aside0.mk (blk_drew BK431.out)
          have n3_ := Aside0.mk (blk_drew BK432.out)
          have n4_ := Aside0.mk (blk_drew BK443.out)
          have n5_ := Aside0.mk (below_drew1 HB.out)
          clear HO437
          clear HO440
          clear BK431
          clear BK432
          clear BK443
          clear HB
          have HO437 := n0_
          have HO440 := n1_
          have BK431 := n2_
          have BK432 := n3_
          have BK443 := n4_
          have HB := n5_
          clear n0_ n1_ n2_ n3_ n4_ n5_
          refine start_ (n := 31) (S := fun w' => w'.cell? ⟨gb431, 0, none⟩ = some (.int .i64 a0_0) ∧ w'.cell? ⟨gb431, 1, none⟩ = some (.slice A0_1 l0_1.length c0_1) ∧ w'.cell? ⟨gb431, 2, none⟩ = some (.slice A0_2 l0_2.length c0_2)) (ds := []) T46297_0 (by kernel_rfl) rfl rfl ⟨(blk_cell BK431.out 0).trans rfl, (blk_cell BK431.out 1).trans rfl, (blk_cell BK431.out 2).trans rfl⟩ (fun hHeld => ?_); refine with_tabW tillerlaw21_RecvRaw.tab5 tillerlaw21_RecvRaw.bits5 (fun HT_ HW_ => ?_)
          generalize w36.drew = w37 at HO437 HO440 BK431 BK432 BK443 HB hHeld ⊢
          refine one_ (i := 0) (N := some 36) T46297_1 rfl rfl (one_of HT_.out (by kernel_rfl)) (by decide) (fun K hK => ?_)
          refine goes_ Try.func24 (by kernel_rfl) rfl #[] (by rfl) rfl rfl (by (try simp only [List.map_toArray, List.map_cons, List.map_nil]); first | done | rfl | (simp only [List.length_drop, List.length_take]; rfl)) ?_
          with_reducible refine (tillerlaw21_awake.calls kj2  true _ A16.out).mono ?_
          rintro e w38 ⟨rfl, hb⟩
          refine ⟨_, rfl, ?_⟩
          have n0_ := Aside0.mk (Kd.V_below (by (with_reducible repeat (first | apply Kd.V_alloc | apply Kd.V_drewN | apply Kd.V_drew)); exact HO437.out) hb)
          have n1_ := Aside0.mk (Kd.V_below (by (with_reducible repeat (first | apply Kd.V_alloc | apply Kd.V_drewN | apply Kd.V_drew)); exact HO440.out) hb)
          have n2_ := Aside0.mk (blk_below (g := gb431) (o := .cells #[.int .i64 a0_0, .slice A0_1 l0_1.length c0_1, .slice A0_2 l0_2.length c0_2] 50 (0, 0)) (by (with_reducible repeat (first | apply bkN | apply bkD | apply bkA)); exact BK431.out) hb)
          have n3_ := Aside0.mk (blk_below (g := gb432) (o := .cells #[.int .i64 a1_0, .int .i64 a1_1, .int .i64 a1_2, .string a1_3] 46 (0, 0)) (by (with_reducible repeat (first | apply bkN | apply bkD | apply bkA)); exact BK432.out) hb)
          have n4_ := Aside0.mk (blk_below (g := gb443) (o := .cells #[.int .i64 t434, .slice Ao33 t435.length co33, .slice Ao34 t438.length co34] 50 (0, 0)) (by (with_reducible repeat (first | apply bkN | apply bkD | apply bkA)); exact BK443.out) hb)
          have n5_ := Aside0.mk (below_step (by repeat (first | (with_reducible first | exact HB.out | apply bwA | apply bwN | apply bwD | refine below_set ?_ GE431.out | refine below_set ?_ GE432.out | refine below_set ?_ GE443.out) | exact HB.out)) hb)
          clear HO437
          clear HO440
          clear BK431
          clear BK432
          clear BK443
          clear HB
          have HO437 := n0_
          have HO440 := n1_
          have BK431 := n2_
          have BK432 := n3_
          have BK443 := n4_
          have HB := n5_
          clear n0_ n1_ n2_ n3_ n4_ n5_
          (try clear hb)
          (try clear hb2)
          (try clear hk)
          (try clear hi)
          refine hK.out _ _ ⟨(blk_cell BK431.out 0).trans rfl, (blk_cell BK431.out 1).trans rfl, (blk_cell BK431.out 2).trans rfl⟩ (fun hHeld => ?_)
          clear hK K
          refine norm_ (a' := ?_) ?_ ?_
          rotate_left
          ·show Act.put _ (some 36) _ = _
           simp only [Act.put, sqA, sqB, sqC, i64_w, i32_w]
           rfl
          refine pure_ (i := 1) (N := some 37) (v := ?_) (a' := ?_) T46297_2 rfl rfl (any_of HT_.out (by kernel_rfl)) idq (.inl ⟨by rfl, ?_⟩) ?_ ?_
          rotate_left; ·intro w'; go_simp; with_reducible rfl
          rotate_left; ·simp only [Act.put, sqA, sqB, sqC, i64_w, i32_w]; rfl
          refine pure_ (i := 2) (N := some 38) (v := ?_) (a' := ?_) T46297_3 rfl rfl (any_of HT_.out (by kernel_rfl)) idq (.inl ⟨by rfl, ?_⟩) ?_ ?_
          rotate_left; ·intro w'; go_simp; with_reducible rfl
          rotate_left; ·simp only [Act.put, sqA, sqB, sqC, i64_w, i32_w]; rfl
          refine pure_ (i := 3) (N := some 39) (v := ?_) (a' := ?_) T46297_4 rfl rfl (any_of HT_.out (by kernel_rfl)) idq (.inl ⟨by rfl, ?_⟩) ?_ ?_
          rotate_left; ·intro w'; go_simp; with_reducible rfl
          rotate_left; ·simp only [Act.put, sqA, sqB, sqC, i64_w, i32_w]; rfl
          refine pure_ (i := 4) (N := some 40) (v := ?_) (a' := ?_) T46297_5 rfl rfl (any_of HT_.out (by kernel_rfl)) idq (.inl ⟨by rfl, ?_⟩) ?_ ?_
          rotate_left; ·intro w'; go_simp; with_reducible rfl
          rotate_left; ·simp only [Act.put, sqA, sqB, sqC, i64_w, i32_w]; rfl
          refine pure_ (i := 5) (N := some 41) (v := ?_) (a' := ?_) T46297_6 rfl rfl (any_of HT_.out (by kernel_rfl)) idq (.inl ⟨by rfl, ?_⟩) ?_ ?_
          rotate_left; ·intro w'; go_simp; with_reducible rfl
          rotate_left; ·simp only [Act.put, sqA, sqB, sqC, i64_w, i32_w]; rfl
          refine pure_ (i := 6) (N := some 42) (v := ?_) (a' := ?_) T46297_7 rfl rfl (any_of HT_.out (by kernel_rfl)) idq (.inl ⟨by rfl, ?_⟩) ?_ ?_
          rotate_left; ·intro w'; go_simp; with_reducible rfl
          rotate_left; ·simp only [Act.put, sqA, sqB, sqC, i64_w, i32_w]; rfl
          refine pure_ (i := 7) (N := some 43) (v := ?_) (a' := ?_) T46297_8 rfl rfl (any_of HT_.out (by kernel_rfl)) idq (.inl ⟨by rfl, ?_⟩) ?_ ?_
          rotate_left; ·intro w'; go_simp; with_reducible rfl
          rotate_left; ·simp only [Act.put, sqA, sqB, sqC, i64_w, i32_w]; rfl
          refine pure_ (i := 8) (N := some 44) (v := ?_) (a' := ?_) T46297_9 rfl rfl (any_of HT_.out (by kernel_rfl)) idq (.inl ⟨by rfl, ?_⟩) ?_ ?_
          rotate_left; ·intro w'; go_simp; with_reducible rfl
          rotate_left; ·simp only [Act.put, sqA, sqB, sqC, i64_w, i32_w]; rfl
          refine pure_ (i := 9) (N := some 45) (v := ?_) (a' := ?_) T46297_10 rfl rfl (any_of HT_.out (by kernel_rfl)) idq (.inl ⟨by rfl, ?_⟩) ?_ ?_
          rotate_left; ·intro w'; go_simp; with_reducible rfl
          rotate_left; ·simp only [Act.put, sqA, sqB, sqC, i64_w, i32_w]; rfl
          refine pure_ (i := 10) (N := some 46) (v := ?_) (a' := ?_) T46297_11 rfl rfl (any_of HT_.out (by kernel_rfl)) idq (.inl ⟨by rfl, ?_⟩) ?_ ?_
          rotate_left; ·intro w'; go_simp; with_reducible rfl
          rotate_left; ·simp only [Act.put, sqA, sqB, sqC, i64_w, i32_w]; rfl
          refine pure_ (i := 11) (N := some 47) (v := ?_) (a' := ?_) T46297_12 rfl rfl (any_of HT_.out (by kernel_rfl)) idq (.inl ⟨by rfl, ?_⟩) ?_ ?_
          rotate_left; ·intro w'; go_simp; with_reducible rfl
          rotate_left; ·simp only [Act.put, sqA, sqB, sqC, i64_w, i32_w]; rfl
          refine pure_ (i := 12) (N := some 48) (v := ?_) (a' := ?_) T46297_13 rfl rfl (any_of HT_.out (by kernel_rfl)) idq (.inl ⟨by rfl, ?_⟩) ?_ ?_
          rotate_left; ·intro w'; go_simp; with_reducible rfl
          rotate_left; ·simp only [Act.put, sqA, sqB, sqC, i64_w, i32_w]; rfl
          refine pure_ (i := 13) (N := some 49) (v := ?_) (a' := ?_) T46297_14 rfl rfl (any_of HT_.out (by kernel_rfl)) idq (.inl ⟨by rfl, ?_⟩) ?_ ?_
          rotate_left; ·intro w'; go_simp; with_reducible rfl
          rotate_left; ·simp only [Act.put, sqA, sqB, sqC, i64_w, i32_w]; rfl
          refine pure_ (i := 14) (N := some 50) (v := ?_) (a' := ?_) T46297_15 rfl rfl (any_of HT_.out (by kernel_rfl)) idq (.inl ⟨by rfl, ?_⟩) ?_ ?_
          rotate_left; ·intro w'; go_simp; with_reducible rfl
          rotate_left; ·simp only [Act.put, sqA, sqB, sqC, i64_w, i32_w]; rfl
          refine pure_ (i := 15) (N := some 51) (v := ?_) (a' := ?_) T46297_16 rfl rfl (any_of HT_.out (by kernel_rfl)) idq (.inl ⟨by rfl, ?_⟩) ?_ ?_
          rotate_left; ·intro w'; go_simp; with_reducible rfl
          rotate_left; ·simp only [Act.put, sqA, sqB, sqC, i64_w, i32_w]; rfl
          refine pure_ (i := 16) (N := some 52) (v := ?_) (a' := ?_) T46297_17 rfl rfl (any_of HT_.out (by kernel_rfl)) idq (.inl ⟨by rfl, ?_⟩) ?_ ?_
          rotate_left; ·intro w'; go_simp; with_reducible rfl
          rotate_left; ·simp only [Act.put, sqA, sqB, sqC, i64_w, i32_w]; rfl
          refine pure_ (i := 17) (N := some 53) (v := ?_) (a' := ?_) T46297_18 rfl rfl (any_of HT_.out (by kernel_rfl)) idq (.inl ⟨by rfl, ?_⟩) ?_ ?_
          rotate_left; ·intro w'; go_simp; with_reducible rfl
          rotate_left; ·simp only [Act.put, sqA, sqB, sqC, i64_w, i32_w]; rfl
          refine take_ (i := 18) (N := some 54) (v := ?_) (a' := ?_) T46297_19 rfl rfl (take_ofW HT_.out HW_.out (by kernel_rfl)) idq (.inl ⟨by rfl, ?_⟩) hHeld ?_ ?_
          rotate_left
          ·rintro w' ⟨s0, s1, s2⟩
           go_simp
           with_reducible rfl
          rotate_left; ·simp only [Act.put, sqA, sqB, sqC, i64_w, i32_w]; rfl
          refine one_ (i := 19) (N := some 55) T46297_20 rfl rfl (one_of HT_.out (by kernel_rfl)) (by decide) (fun K hK => ?_)
          refine goes_ Try.func29 (by kernel_rfl) rfl #[.agg #[.int .i64 a0_0, .slice A0_1 l0_1.length c0_1, .slice A0_2 l0_2.length c0_2]] (by rfl) rfl rfl (by (try simp only [List.map_toArray, List.map_cons, List.map_nil]); first | done | rfl | (simp only [List.length_drop, List.length_take]; rfl)) ?_
          with_reducible refine (recv_Missing.calls kj2 a0_0 _ _ l0_1 _ _ l0_2 t447 _ ?side1 ?side2 ?side3 ?side4 A22.out).mono ?_
          (case side1 => repeat (first | exact (Kd.C_below HR0_1.out HB.out) | (with_reducible refine Kd.C_alloc ?_ _) | (with_reducible refine Kd.C_drewN ?_ _) | (with_reducible refine Kd.C_drew ?_)))
          (case side2 => exact HC0_1.out)
          (case side3 => repeat (first | exact (Kd.C_below HR0_2.out HB.out) | (with_reducible refine Kd.C_alloc ?_ _) | (with_reducible refine Kd.C_drewN ?_ _) | (with_reducible refine Kd.C_drew ?_)))
          (case side4 => exact HC0_2.out)
          rintro e w39 ⟨rfl, hb⟩
          refine ⟨_, rfl, ?_⟩
          have n0_ := Aside0.mk (Kd.V_below (by (with_reducible repeat (first | apply Kd.V_alloc | apply Kd.V_drewN | apply Kd.V_drew)); exact HO437.out) hb)
          have n1_ := Aside0.mk (Kd.V_below (by (with_reducible repeat (first | apply Kd.V_alloc | apply Kd.V_drewN | apply Kd.V_drew)); exact HO440.out) hb)
          have n2_ := Aside0.mk (blk_below (g := gb431) (o := .cells #[.int .i64 a0_0, .slice A0_1 l0_1.length c0_1, .slice A0_2 l0_2.length c0_2] 50 (0, 0)) (by (with_reducible repeat (first | apply bkN | apply bkD | apply bkA)); exact BK431.out) hb)
          have n3_ := Aside0.mk (blk_below (g := gb432) (o := .cells #[.int .i64 a1_0, .int .i64 a1_1, .int .i64 a1_2, .string a1_3] 46 (0, 0)) (by (with_reducible repeat (first | apply bkN | apply bkD | apply bkA)); exact BK432.out) hb)
          have n4_ := Aside0.mk (blk_below (g := gb443) (o := .cells #[.int .i64 t434, .slice Ao33 t435.length co33, .slice Ao34 t438.length co34] 50 (0, 0)) (by (with_reducible repeat (first | apply bkN | apply bkD | apply bkA)); exact BK443.out) hb)
          have n5_ := Aside0.mk (below_step (by repeat (first | (with_reducible first | exact HB.out | apply bwA | apply bwN | apply bwD | refine below_set ?_ GE431.out | refine below_set ?_ GE432.out | refine below_set ?_ GE443.out) | exact HB.out)) hb)
          clear HO437
          clear HO440
          clear BK431
          clear BK432
          clear BK443
          clear HB
          have HO437 := n0_
          have HO440 := n1_
          have BK431 := n2_
          have BK432 := n3_
          have BK443 := n4_
          have HB := n5_
          clear n0_ n1_ n2_ n3_ n4_ n5_
          (try clear hb)
          (try clear hb2)
          (try clear hk)
          (try clear hi)
          refine hK.out _ _ ⟨(blk_cell BK431.out 0).trans rfl, (blk_cell BK431.out 1).trans rfl, (blk_cell BK431.out 2).trans rfl⟩ (fun hHeld => ?_)
          clear hK K
          refine norm_ (a' := ?_) ?_ ?_
          rotate_left
          ·show Act.put _ (some 55) _ = _
           simp only [Act.put, sqA, sqB, sqC, i64_w, i32_w]
           rfl
          refine pure_ (i := 20) (N := some 56) (v := ?_) (a' := ?_) T46297_21 rfl rfl (any_of HT_.out (by kernel_rfl)) idq (.inl ⟨by rfl, ?_⟩) ?_ ?_
          rotate_left; ·intro w'; go_simp; with_reducible rfl
          rotate_left; ·simp only [Act.put, sqA, sqB, sqC, i64_w, i32_w]; rfl
          refine pure_ (i := 21) (N := some 57) (v := ?_) (a' := ?_) T46297_22 rfl rfl (any_of HT_.out (by kernel_rfl)) idq (.inl ⟨by rfl, ?_⟩) ?_ ?_
          rotate_left; ·intro w'; go_simp; with_reducible rfl
          rotate_left; ·simp only [Act.put, sqA, sqB, sqC, i64_w, i32_w]; rfl
          refine pure_ (i := 22) (N := some 58) (v := ?_) (a' := ?_) T46297_23 rfl rfl (any_of HT_.out (by kernel_rfl)) idq (.inl ⟨by rfl, ?_⟩) ?_ ?_
          rotate_left; ·intro w'; go_simp; with_reducible rfl
          rotate_left; ·simp only [Act.put, sqA, sqB, sqC, i64_w, i32_w]; rfl
          refine pure_ (i := 25) (N := some 61) (v := ?_) (a' := ?_) T46297_24 rfl rfl (any_of HT_.out (by kernel_rfl)) idq (.inl ⟨by rfl, ?_⟩) ?_ ?_
          rotate_left; ·intro w'; go_simp; with_reducible rfl
          rotate_left; ·simp only [Act.put, sqA, sqB, sqC, i64_w, i32_w]; rfl
          refine take_ (i := 23) (N := some 59) (v := ?_) (a' := ?_) T46297_25 rfl rfl (take_ofW HT_.out HW_.out (by kernel_rfl)) idq (.inl ⟨by rfl, ?_⟩) hHeld ?_ ?_
          rotate_left
          ·rintro w' ⟨s0, s1, s2⟩
           go_simp
           with_reducible rfl
          rotate_left; ·simp only [Act.put, sqA, sqB, sqC, i64_w, i32_w]; rfl
          refine take_ (i := 26) (N := some 62) (v := ?_) (a' := ?_) T46297_26 rfl rfl (take_ofW HT_.out HW_.out (by kernel_rfl)) idq (.inl ⟨by rfl, ?_⟩) hHeld ?_ ?_
          rotate_left
          ·rintro w' ⟨s0, s1, s2⟩
           go_simp
           with_reducible rfl
          rotate_left; ·simp only [Act.put, sqA, sqB, sqC, i64_w, i32_w]; rfl
          refine pure_ (i := 27) (N := some 63) (v := ?_) (a' := ?_) T46297_27 rfl rfl (any_of HT_.out (by kernel_rfl)) idq (.inl ⟨by rfl, ?_⟩) ?_ ?_
          rotate_left; ·intro w'; go_simp; with_reducible rfl
          rotate_left; ·simp only [Act.put, sqA, sqB, sqC, i64_w, i32_w]; rfl
          refine one_ (i := 24) (N := some 60) T46297_28 rfl rfl (one_of HT_.out (by kernel_rfl)) (by decide) (fun K hK => ?_)
          refine goes_ Try.func29 (by kernel_rfl) rfl #[.agg #[.int .i64 a0_0, .slice A0_1 l0_1.length c0_1, .slice A0_2 l0_2.length c0_2]] (by rfl) rfl rfl (by (try simp only [List.map_toArray, List.map_cons, List.map_nil]); first | done | rfl | (simp only [List.length_drop, List.length_take]; rfl)) ?_
          with_reducible refine (recv_Missing.calls kj2 a0_0 _ _ l0_1 _ _ l0_2 t448 _ ?side1 ?side2 ?side3 ?side4 A24.out).mono ?_
          (case side1 => repeat (first | exact (Kd.C_below HR0_1.out HB.out) | (with_reducible refine Kd.C_alloc ?_ _) | (with_reducible refine Kd.C_drewN ?_ _) | (with_reducible refine Kd.C_drew ?_)))
          (case side2 => exact HC0_1.out)
          (case side3 => repeat (first | exact (Kd.C_below HR0_2.out HB.out) | (with_reducible refine Kd.C_alloc ?_ _) | (with_reducible refine Kd.C_drewN ?_ _) | (with_reducible refine Kd.C_drew ?_)))
          (case side4 => exact HC0_2.out)
          rintro e w40 ⟨rfl, hb⟩
          refine ⟨_, rfl, ?_⟩
          have n0_ := Aside0.mk (Kd.V_below (by (with_reducible repeat (first | apply Kd.V_alloc | apply Kd.V_drewN | apply Kd.V_drew)); exact HO437.out) hb)
          have n1_ := Aside0.mk (Kd.V_below (by (with_reducible repeat (first | apply Kd.V_alloc | apply Kd.V_drewN | apply Kd.V_drew)); exact HO440.out) hb)
          have n2_ := Aside0.mk (blk_below (g := gb431) (o := .cells #[.int .i64 a0_0, .slice A0_1 l0_1.length c0_1, .slice A0_2 l0_2.length c0_2] 50 (0, 0)) (by (with_reducible repeat (first | apply bkN | apply bkD | apply bkA)); exact BK431.out) hb)
          have n3_ := Aside0.mk (blk_below (g := gb432) (o := .cells #[.int .i64 a1_0, .int .i64 a1_1, .int .i64 a1_2, .string a1_3] 46 (0, 0)) (by (with_reducible repeat (first | apply bkN | apply bkD | apply bkA)); exact BK432.out) hb)
          have n4_ := Aside0.mk (blk_below (g := gb443) (o := .cells #[.int .i64 t434, .slice Ao33 t435.length co33, .slice Ao34 t438.length co34] 50 (0, 0)) (by (with_reducible repeat (first | apply bkN | apply bkD | apply bkA)); exact BK443.out) hb)
          have n5_ := Aside0.mk (below_step (by repeat (first | (with_reducible first | exact HB.out | apply bwA | apply bwN | apply bwD | refine below_set ?_ GE431.out | refine below_set ?_ GE432.out | refine below_set ?_ GE443.out) | exact HB.out)) hb)
          clear HO437
          clear HO440
          clear BK431
          clear BK432
          clear BK443
          clear HB
          have HO437 := n0_
          have HO440 := n1_
          have BK431 := n2_
          have BK432 := n3_
          have BK443 := n4_
          have HB := n5_
          clear n0_ n1_ n2_ n3_ n4_ n5_
          (try clear hb)
          (try clear hb2)
          (try clear hk)
          (try clear hi)
          refine hK.out _ _ ⟨(blk_cell BK431.out 0).trans rfl, (blk_cell BK431.out 1).trans rfl, (blk_cell BK431.out 2).trans rfl⟩ (fun hHeld => ?_)
          clear hK K
          refine norm_ (a' := ?_) ?_ ?_
          rotate_left
          ·show Act.put _ (some 60) _ = _
           simp only [Act.put, sqA, sqB, sqC, i64_w, i32_w]
           rfl
          refine pure_ (i := 28) (N := some 64) (v := ?_) (a' := ?_) T46297_29 rfl rfl (any_of HT_.out (by kernel_rfl)) idq (.inl ⟨by rfl, ?_⟩) ?_ ?_
          rotate_left; ·intro w'; go_simp; with_reducible rfl
          rotate_left; ·simp only [Act.put, sqA, sqB, sqC, i64_w, i32_w]; rfl
          refine pure_ (i := 29) (N := some 65) (v := ?_) (a' := ?_) T46297_30 rfl rfl (any_of HT_.out (by kernel_rfl)) idq (.inl ⟨by rfl, ?_⟩) ?_ ?_
          rotate_left; ·intro w'; go_simp; with_reducible rfl
          rotate_left; ·simp only [Act.put, sqA, sqB, sqC, i64_w, i32_w]; rfl
          refine pure_ (i := 30) (N := some 4) (v := ?_) (a' := ?_) T46297_31 rfl rfl (any_of HT_.out (by kernel_rfl)) idq (.inl ⟨by rfl, ?_⟩) ?_ ?_
          rotate_left; ·intro w'; go_simp; with_reducible rfl
          rotate_left; ·simp only [Act.put, sqA, sqB, sqC, i64_w, i32_w]; rfl
          refine done_ (done_of HT_.out (by kernel_rfl)) ?_
          try go_wp2
          go_ret
          exact ⟨by first | rfl | (simp [errW_none, errW_some] <;> rfl) | (simp [*, errW_none, errW_some] <;> rfl), by repeat (first | (with_reducible first | exact HB.out | apply bwA | apply bwN | apply bwD | refine below_set ?_ GE431.out | refine below_set ?_ GE432.out | refine below_set ?_ GE443.out) | exact HB.out)⟩
         ·rw [if_neg c23] at H
          have c23b0 : decide (0 ≤ t447) = false := decide_eq_false c23
          clear c23
          exact absurd (Option.some.inj H) (by rw [hr_.out]; decide)
        ·rw [if_neg c21] at H
         have c21b0 : (t444.toList == ([] : List UInt8)) = false := beq_eq_false_iff_ne.mpr c21
         have c21b1 : (t444.toList != ([] : List UInt8)) = true := bne_iff_ne.mpr c21
         exact absurd (Option.some.inj H) (by rw [hr_.out]; decide)
      ·rw [if_neg c19] at H
       have c19b0 : (t442 == 4) = false := beq_eq_false_iff_ne.mpr c19
       have c19b1 : (t442 != 4) = true := bne_iff_ne.mpr c19
       exact absurd (Option.some.inj H) (by rw [hr_.out]; decide)
    ·replace c17 := Bool.eq_false_iff.mpr c17
     subst c17
     have H1 : (some false) = some r := by rw [if_neg (show ¬ (false = true) by decide)] at H; exact H
     clear H
     have H := H1
     clear H1
     exact absurd (Option.some.inj H) (by rw [hr_.out]; decide)

end Go.Proofs.Ytfonfdpimbnfaaa.GQ
