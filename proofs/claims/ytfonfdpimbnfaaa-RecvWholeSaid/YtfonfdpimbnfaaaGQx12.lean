-- written by this session's program gprint.py
import Derived.Test.YtfonfdpimbnfaaaGQx0
import Derived.Test.YtfonfdpimbnfaaaGQx11
import Derived.Test.YtfonfdpimbnfaaaWGuard
import Derived.Test.YtfonfdpimbnfaaaWLast
import Derived.Test.YtfonfdpimbnfaaaWMore
import Derived.Test.YtfonfdpimbnfaaaWTab
import Derived.Test.YtfonfdpimbnfaaaWWords
namespace Go.Proofs.Ytfonfdpimbnfaaa.GQ
open Go.RowKit Go.Proofs.YtfonfdpimbnfaaaW.PrintWords Go.Proofs.YtfonfdpimbnfaaaW.PrintLast Go.Proofs.YtfonfdpimbnfaaaW.PrintMore Go.Proofs.Ytfonfdpimbnfaaa.GJoin Go.Proofs.Ytfonfdpimbnfaaa.GGot
attribute [local go_sem] max2_int min2_int max_two min_two max_three min_three max_four min_four   -- for this text's walks alone
set_option linter.unusedVariables false
set_option linter.unusedSimpArgs false
abbrev T33_0 : Array Bool := #[false, false, false, false, false, false, false, false, false, false, false, false, false, false, false, false, false, false]
abbrev T33_1 : Array Bool := #[true, false, false, false, false, false, false, false, false, false, false, false, false, false, false, false, false, false]
abbrev T33_2 : Array Bool := #[true, false, true, false, false, false, false, false, false, false, false, false, false, false, false, false, false, false]
abbrev T33_3 : Array Bool := #[true, true, true, false, false, false, false, false, false, false, false, false, false, false, false, false, false, false]
abbrev T33_4 : Array Bool := #[true, true, true, true, false, false, false, false, false, false, false, false, false, false, false, false, false, false]
abbrev T33_5 : Array Bool := #[true, true, true, true, true, false, false, false, false, false, false, false, false, false, false, false, false, false]
abbrev T33_6 : Array Bool := #[true, true, true, true, true, true, false, false, false, false, false, false, false, false, false, false, false, false]
abbrev T33_7 : Array Bool := #[true, true, true, true, true, true, true, false, false, false, false, false, false, false, false, false, false, false]
abbrev T33_8 : Array Bool := #[true, true, true, true, true, true, true, true, false, false, false, false, false, false, false, false, false, false]
abbrev T33_9 : Array Bool := #[true, true, true, true, true, true, true, true, false, true, false, false, false, false, false, false, false, false]
abbrev T33_10 : Array Bool := #[true, true, true, true, true, true, true, true, false, true, false, false, false, true, false, false, false, false]
abbrev T33_11 : Array Bool := #[true, true, true, true, true, true, true, true, true, true, false, false, false, true, false, false, false, false]
abbrev T33_12 : Array Bool := #[true, true, true, true, true, true, true, true, true, true, true, false, false, true, false, false, false, false]
abbrev T33_13 : Array Bool := #[true, true, true, true, true, true, true, true, true, true, true, true, false, true, false, false, false, false]
abbrev T33_14 : Array Bool := #[true, true, true, true, true, true, true, true, true, true, true, true, true, true, false, false, false, false]
abbrev T33_15 : Array Bool := #[true, true, true, true, true, true, true, true, true, true, true, true, true, true, true, false, false, false]
abbrev T33_16 : Array Bool := #[true, true, true, true, true, true, true, true, true, true, true, true, true, true, true, true, false, false]
abbrev T33_17 : Array Bool := #[true, true, true, true, true, true, true, true, true, true, true, true, true, true, true, true, true, false]
abbrev T33_18 : Array Bool := #[true, true, true, true, true, true, true, true, true, true, true, true, true, true, true, true, true, true]
abbrev T33_19 : Array Bool := #[true, true, true, true, true, true, true, true, true, false, false, false, false, false, false, false, false, false]
abbrev T33_20 : Array Bool := #[true, true, true, true, true, true, true, true, true, true, false, false, false, false, false, false, false, false]
abbrev T33_21 : Array Bool := #[true, true, true, true, true, true, true, true, true, true, true, false, false, false, false, false, false, false]
abbrev T33_22 : Array Bool := #[true, true, true, true, true, true, true, true, true, true, true, true, false, false, false, false, false, false]
abbrev T33_23 : Array Bool := #[true, true, true, true, true, true, true, true, true, true, true, true, true, false, false, false, false, false]
abbrev T33_24 : Array Bool := #[false, false, false, false, false, false, false, false, false, false]
abbrev T33_25 : Array Bool := #[true, false, false, false, false, false, false, false, false, false]
abbrev T33_26 : Array Bool := #[true, false, false, true, false, false, false, false, false, false]
abbrev T33_27 : Array Bool := #[true, true, false, true, false, false, false, false, false, false]
abbrev T33_28 : Array Bool := #[true, true, false, true, true, false, false, false, false, false]
abbrev T33_29 : Array Bool := #[true, true, true, true, true, false, false, false, false, false]
abbrev T33_30 : Array Bool := #[true, true, true, true, true, false, true, false, false, false]
abbrev T33_31 : Array Bool := #[true, true, true, true, true, true, true, false, false, false]
abbrev T33_32 : Array Bool := #[true, true, true, true, true, true, true, true, false, false]
abbrev T33_33 : Array Bool := #[true, true, true, true, true, true, true, true, true, false]
abbrev T33_34 : Array Bool := #[true, true, true, true, true, true, true, true, true, true]
abbrev T33_35 : Array Bool := #[false, false, false, false, false, false, false, false, false, false, false, false, false, false]
abbrev T33_36 : Array Bool := #[true, false, false, false, false, false, false, false, false, false, false, false, false, false]
abbrev T33_37 : Array Bool := #[true, false, true, false, false, false, false, false, false, false, false, false, false, false]
abbrev T33_38 : Array Bool := #[true, false, true, false, true, false, false, false, false, false, false, false, false, false]
abbrev T33_39 : Array Bool := #[true, false, true, false, true, false, true, false, false, false, false, false, false, false]
abbrev T33_40 : Array Bool := #[true, false, true, false, true, false, true, false, true, false, false, false, false, false]
abbrev T33_41 : Array Bool := #[true, true, true, false, true, false, true, false, true, false, false, false, false, false]
abbrev T33_42 : Array Bool := #[true, true, true, true, true, false, true, false, true, false, false, false, false, false]
abbrev T33_43 : Array Bool := #[true, true, true, true, true, true, true, false, true, false, false, false, false, false]
abbrev T33_44 : Array Bool := #[true, true, true, true, true, true, true, true, true, false, false, false, false, false]
abbrev T33_45 : Array Bool := #[true, true, true, true, true, true, true, true, true, true, false, false, false, false]
abbrev T33_46 : Array Bool := #[true, true, true, true, true, true, true, true, true, true, true, false, false, false]
abbrev T33_47 : Array Bool := #[true, true, true, true, true, true, true, true, true, true, true, true, false, false]
abbrev T33_48 : Array Bool := #[true, true, true, true, true, true, true, true, true, true, true, true, true, false]
abbrev T33_49 : Array Bool := #[true, true, true, true, true, true, true, true, true, true, true, true, true, true]

/-! ### recv_Take: function 25 -/
mutual
def recv_Take.j0 : Nat → Bool → Int → List ByteArray → List Bool → Int → Int → Int → ByteArray → Option (Int × List ByteArray × List Bool × Bool × Int)
 | 0, _, _, _, _, _, _, _, _ => none
 | k + 1, x19, x252000, x252001, x252002, x253000, x253001, x253002, x253003 => if x19 = true then (some (x252000, x252001, x252002, false, 1)) else (if (x253003.size : Int) > 4096 then (some (x252000, x252001, x252002, false, 2)) else (if 0 ≤ x253001 then (if x253001 < (x252002.length : Int) then (if rdOf false x252002 x253001 = true then (if x253001 < (x252001.length : Int) then (recv_Take.j1 k ((rdOf ByteArray.empty x252001 x253001).toList != x253003.toList) x252000 x252001 x252002 x253000 x253001 x253002 x253003) else (none)) else (recv_Take.j1 k false x252000 x252001 x252002 x253000 x253001 x253002 x253003)) else (none)) else (none)))
def recv_Take.j1 : Nat → Bool → Int → List ByteArray → List Bool → Int → Int → Int → ByteArray → Option (Int × List ByteArray × List Bool × Bool × Int)
 | 0, _, _, _, _, _, _, _, _ => none
 | k + 1, x46, x252000, x252001, x252002, x253000, x253001, x253002, x253003 => if x46 = true then (some (x252000, x252001, x252002, false, 9)) else (if 0 ≤ x253001 then (if x253001 < (x252002.length : Int) then (if rdOf false x252002 x253001 = true then (some (x252000, x252001, x252002, false, 0)) else ((slices_Clone_string_string.f x252001).bind fun t258 => ((slices_Clone_bool_bool.f x252002).bind fun t261 => (if x253001 < (t258.length : Int) then (if x253001 < (t261.length : Int) then (some (x252000, (t258.set (x253001 : Int).toNat x253003), (t261.set (x253001 : Int).toNat true), true, 0)) else (none)) else (none))))) else (none)) else (none))
end
def recv_Take.f (k : Nat) (a0_0 : Int) (l0_1 : List ByteArray) (l0_2 : List Bool) (a1_0 : Int) (a1_1 : Int) (a1_2 : Int) (a1_3 : ByteArray) : Option (Int × List ByteArray × List Bool × Bool × Int) := (recv_right.f a0_0 l0_1 l0_2).bind fun t254 => (if t254 = true then (if a1_0 = a0_0 then (if a1_2 = (l0_1.length : Int) then (if a1_1 < 0 then (recv_Take.j0 k true a0_0 l0_1 l0_2 a1_0 a1_1 a1_2 a1_3) else (recv_Take.j0 k (decide (a1_1 ≥ (l0_1.length : Int))) a0_0 l0_1 l0_2 a1_0 a1_1 a1_2 a1_3)) else (recv_Take.j0 k true a0_0 l0_1 l0_2 a1_0 a1_1 a1_2 a1_3)) else (some (a0_0, l0_1, l0_2, false, 14))) else (some (a0_0, l0_1, l0_2, false, 4)))
theorem recv_Take.mono_l : ∀ k, (∀ y0 y1 y2 y3 y4 y5 y6 y7, LeO (recv_Take.j0 k y0 y1 y2 y3 y4 y5 y6 y7) (recv_Take.j0 (k + 1) y0 y1 y2 y3 y4 y5 y6 y7)) ∧ (∀ y0 y1 y2 y3 y4 y5 y6 y7, LeO (recv_Take.j1 k y0 y1 y2 y3 y4 y5 y6 y7) (recv_Take.j1 (k + 1) y0 y1 y2 y3 y4 y5 y6 y7))
 | 0 => ⟨fun _ _ _ _ _ _ _ _ r h => by simp [recv_Take.j0] at h, fun _ _ _ _ _ _ _ _ r h => by simp [recv_Take.j1] at h⟩
 | k + 1 => by
  obtain ⟨ih0, ih1⟩ := recv_Take.mono_l k
  refine ⟨?_, ?_⟩
  ·intro y0 y1 y2 y3 y4 y5 y6 y7
   unfold recv_Take.j0
   repeat' first
   | (with_reducible exact ih0 _ _ _ _ _ _ _ _)
   | (with_reducible exact ih1 _ _ _ _ _ _ _ _)
   | (with_reducible exact LeO.refl _)
   | (with_reducible exact LeO.none _)
   | (with_reducible refine LeO.ite ?_ ?_)
   | (with_reducible refine LeO.bind ?_ (fun _ => ?_))
   | exact ih0 _ _ _ _ _ _ _ _
   | exact ih1 _ _ _ _ _ _ _ _
   | exact LeO.none _
   | refine LeO.ite ?_ ?_
   | refine LeO.bind ?_ (fun _ => ?_)
  ·intro y0 y1 y2 y3 y4 y5 y6 y7
   unfold recv_Take.j1
   repeat' first
   | (with_reducible exact ih0 _ _ _ _ _ _ _ _)
   | (with_reducible exact ih1 _ _ _ _ _ _ _ _)
   | (with_reducible exact LeO.refl _)
   | (with_reducible exact LeO.none _)
   | (with_reducible refine LeO.ite ?_ ?_)
   | (with_reducible refine LeO.bind ?_ (fun _ => ?_))
   | exact ih0 _ _ _ _ _ _ _ _
   | exact ih1 _ _ _ _ _ _ _ _
   | exact LeO.none _
   | refine LeO.ite ?_ ?_
   | refine LeO.bind ?_ (fun _ => ?_)
theorem recv_Take.mono : ∀ a0 a1 a2 a3 a4 a5 a6 k, LeO (recv_Take.f k a0 a1 a2 a3 a4 a5 a6) (recv_Take.f (k + 1) a0 a1 a2 a3 a4 a5 a6) := by
 intro a0 a1 a2 a3 a4 a5 a6 k
 obtain ⟨ih0, ih1⟩ := recv_Take.mono_l k
 unfold recv_Take.f
 repeat' first
   | (with_reducible exact ih0 _ _ _ _ _ _ _ _)
   | (with_reducible exact ih1 _ _ _ _ _ _ _ _)
   | (with_reducible exact LeO.refl _)
   | (with_reducible exact LeO.none _)
   | (with_reducible refine LeO.ite ?_ ?_)
   | (with_reducible refine LeO.bind ?_ (fun _ => ?_))
   | exact ih0 _ _ _ _ _ _ _ _
   | exact ih1 _ _ _ _ _ _ _ _
   | exact LeO.none _
   | refine LeO.ite ?_ ?_
   | refine LeO.bind ?_ (fun _ => ?_)
def recv_Take.T9 : Bool × List (List Nat × List Nat) := (true, [([], []), ([0], [0]), ([], []), ([2], [2]), ([1, 3], [1, 3]), ([4], [4]), ([5], [5]), ([6], [6]), ([7, 6], [6, 7]), ([6], [6]), ([9, 6], [6, 9]), ([8, 10, 6], [6, 8, 10]), ([11, 6], [6, 11]), ([6], [6]), ([13, 6], [6, 13]), ([12, 14, 6], [6, 12, 14]), ([6, 15], [6, 15]), ([16, 6], [16])])
def recv_Take.B9 : List Nat := [0, 1, 0, 4, 15, 31, 63, 127, 255, 127, 639, 2047, 4095, 127, 8319, 32767, 65535, 131071]
theorem recv_Take.tab9 : rtab .any (opsOf Try.f25 9) = recv_Take.T9 := by kernel_rfl
theorem recv_Take.bits9 : waitsOk recv_Take.T9.2 recv_Take.B9 = true := by kernel_rfl
def recv_Take.T13 : Bool × List (List Nat × List Nat) := (true, [([], []), ([0], [0]), ([1], [1]), ([], []), ([3], [3]), ([4, 2], [4]), ([0, 1, 2, 3, 4], []), ([6, 2, 5, 0, 1, 2, 3, 4], [2, 6]), ([0, 1, 2, 3, 4, 5, 6, 7], []), ([8, 5, 7, 0, 1, 2, 3, 4, 5, 6, 7], [5, 8])])
def recv_Take.B13 : List Nat := [0, 1, 3, 0, 8, 31, 31, 127, 255, 511]
theorem recv_Take.tab13 : rtab .any (opsOf Try.f25 13) = recv_Take.T13 := by kernel_rfl
theorem recv_Take.bits13 : waitsOk recv_Take.T13.2 recv_Take.B13 = true := by kernel_rfl
def recv_Take.T14 : Bool × List (List Nat × List Nat) := (true, [([], []), ([0], [0]), ([], []), ([2], [2]), ([], []), ([4], [4]), ([], []), ([6], [6]), ([], []), ([8], [8]), ([1, 3, 0, 1, 2, 3, 8, 9], [1, 3]), ([10, 9, 0, 1, 2, 3, 8, 9], [9, 10]), ([5, 7, 0, 1, 2, 3, 4, 5, 6, 7, 8, 9, 10, 11], [5, 7]), ([12, 11, 0, 1, 2, 3, 4, 5, 6, 7, 8, 9, 10, 11], [12])])
def recv_Take.B14 : List Nat := [0, 1, 0, 4, 0, 16, 0, 64, 0, 256, 783, 1807, 4095, 8191]
theorem recv_Take.tab14 : rtab .any (opsOf Try.f25 14) = recv_Take.T14 := by kernel_rfl
theorem recv_Take.bits14 : waitsOk recv_Take.T14.2 recv_Take.B14 = true := by kernel_rfl
set_option maxHeartbeats 8000000 in
set_option maxRecDepth 100000 in
theorem recv_Take.calls (k : Nat) (a0_0 : Int) (P0_1_ : Nat → Prop) (A0_1 : Option Addr) (c0_1 : Nat) (l0_1 : List ByteArray) (P0_2_ : Nat → Prop) (A0_2 : Option Addr) (c0_2 : Nat) (l0_2 : List Bool) (a1_0 : Int) (a1_1 : Int) (a1_2 : Int) (a1_3 : ByteArray) (r1 : Int) (r2 : List ByteArray) (r3 : List Bool) (r4 : Bool) (r5 : Int) (w : World) (hs0_1 : Kd.V Kd.string 9 w w.heap.size (fun k_ => P0_1_ k_) (.slice A0_1 l0_1.length c0_1) l0_1) (hs0_2 : Kd.V Kd.bool 4 w w.heap.size (fun k_ => P0_2_ k_) (.slice A0_2 l0_2.length c0_2) l0_2) (h : recv_Take.f k a0_0 l0_1 l0_2 a1_0 a1_1 a1_2 a1_3 = some (r1, r2, r3, r4, r5)) :
  Calls Try.prog 25 #[.agg #[.int .i64 a0_0, .slice A0_1 l0_1.length c0_1, .slice A0_2 l0_2.length c0_2], .agg #[.int .i64 a1_0, .int .i64 a1_1, .int .i64 a1_2, .string a1_3]] w fun e w' => ∃ v1_ v2_ : Value, e = .returned (.tuple #[.agg #[.int .i64 r1, v1_, v2_], .bool r4, .int .i64 r5]) ∧ Kd.V Kd.string 9 w' w.heap.size (fun k_ => ((P0_1_ k_ ∨ P0_2_ k_) ∨ w.heap.size ≤ k_)) v1_ r2 ∧ Kd.V Kd.bool 4 w' w.heap.size (fun k_ => ((P0_1_ k_ ∨ P0_2_ k_) ∨ w.heap.size ≤ k_)) v2_ r3 ∧ Below w.heap.size w w' := by
 have hu50 := Try.underlying50
 have hu46 := Try.underlying46
 have HO0_1 := Aside0.mk (show Kd.V Kd.string 9 w w.heap.size (fun k_ => ((P0_1_ k_ ∨ P0_2_ k_) ∨ w.heap.size ≤ k_)) (.slice A0_1 l0_1.length c0_1) l0_1 from Kd.V_mono hs0_1 (fun k_ hk => .inl (.inl hk)))
 have HO0_2 := Aside0.mk (show Kd.V Kd.bool 4 w w.heap.size (fun k_ => ((P0_1_ k_ ∨ P0_2_ k_) ∨ w.heap.size ≤ k_)) (.slice A0_2 l0_2.length c0_2) l0_2 from Kd.V_mono hs0_2 (fun k_ hk => .inl (.inr hk)))
 have HB := Aside0.mk (Below.refl w.heap.size w)
 have H : ((recv_right.f a0_0 l0_1 l0_2).bind fun t254 => (if t254 = true then (if a1_0 = a0_0 then (if a1_2 = (l0_1.length : Int) then (if a1_1 < 0 then (recv_Take.j0 k true a0_0 l0_1 l0_2 a1_0 a1_1 a1_2 a1_3) else (recv_Take.j0 k (decide (a1_1 ≥ (l0_1.length : Int))) a0_0 l0_1 l0_2 a1_0 a1_1 a1_2 a1_3)) else (recv_Take.j0 k true a0_0 l0_1 l0_2 a1_0 a1_1 a1_2 a1_3)) else (some (a0_0, l0_1, l0_2, false, 14))) else (some (a0_0, l0_1, l0_2, false, 4)))) = some (r1, r2, r3, r4, r5) := h
 clear h
 replace H := Option.bind_eq_some_iff.mp H
 obtain ⟨t254, A30, H⟩ := H
 replace H : (if t254 = true then (if a1_0 = a0_0 then (if a1_2 = (l0_1.length : Int) then (if a1_1 < 0 then (recv_Take.j0 k true a0_0 l0_1 l0_2 a1_0 a1_1 a1_2 a1_3) else (recv_Take.j0 k (decide (a1_1 ≥ (l0_1.length : Int))) a0_0 l0_1 l0_2 a1_0 a1_1 a1_2 a1_3)) else (recv_Take.j0 k true a0_0 l0_1 l0_2 a1_0 a1_1 a1_2 a1_3)) else (some (a0_0, l0_1, l0_2, false, 14))) else (some (a0_0, l0_1, l0_2, false, 4))) = some (r1, r2, r3, r4, r5) := H
 have A3 := Aside0.mk A30
 clear A30
 by_cases c4 : t254 = true
 ·subst c4
  have H1 : (if a1_0 = a0_0 then (if a1_2 = (l0_1.length : Int) then (if a1_1 < 0 then (recv_Take.j0 k true a0_0 l0_1 l0_2 a1_0 a1_1 a1_2 a1_3) else (recv_Take.j0 k (decide (a1_1 ≥ (l0_1.length : Int))) a0_0 l0_1 l0_2 a1_0 a1_1 a1_2 a1_3)) else (recv_Take.j0 k true a0_0 l0_1 l0_2 a1_0 a1_1 a1_2 a1_3)) else (some (a0_0, l0_1, l0_2, false, 14))) = some (r1, r2, r3, r4, r5) := by rw [if_pos rfl] at H; exact H
  clear H
  have H := H1
  clear H1
  by_cases c5 : a1_0 = a0_0
  ·rw [if_pos c5] at H
   have c5b0 : (a1_0 == a0_0) = true := beq_iff_eq.mpr c5
   have c5b1 : (a1_0 != a0_0) = false := bne_eq_false_iff_eq.mpr c5
   clear c5
   have HC6 := Aside0.mk H
   clear H
   go_enter Try.func25, Try.ntmps25
   go_upto_region 5 with (first | ((with_reducible refine gate_dst (N := 2) rfl ?_); (try (refine gate_guard (by rfl) ?_; dsimp only)); refine box_event ?hg (N := 2) ?hd (cs := #[.int .i64 a0_0, .slice A0_1 l0_1.length c0_1, .slice A0_2 l0_2.length c0_2]) (t := 50) ?hr ?_; (case hd => rfl); (case hg => rfl); (case hr => first | (go_simp; done) | (go_simp; rfl)); intro gb251 hg w7 hbox hb; have n0_ := Aside0.mk (Kd.V_below (Kd.V_elderB (by (with_reducible repeat (first | apply Kd.V_alloc | apply Kd.V_drewN | apply Kd.V_drew)); exact HO0_1.out) gb251 (Nat.le_of_eq hg.symm)) hb); have n1_ := Aside0.mk (Kd.V_below (Kd.V_elderB (by (with_reducible repeat (first | apply Kd.V_alloc | apply Kd.V_drewN | apply Kd.V_drew)); exact HO0_2.out) gb251 (Nat.le_of_eq hg.symm)) hb); have n2_ := Aside0.mk (below_step (by repeat (first | (with_reducible first | exact HB.out | apply bwA | apply bwN | apply bwD) | exact HB.out)) hb); have n3_ := Aside0.mk (hbox); have n4_ := Aside0.mk ((by rw [hg]; exact (below_size (by repeat (first | (with_reducible first | exact HB.out | apply bwA | apply bwN | apply bwD) | exact HB.out))) : w.heap.size ≤ gb251)); have n5_ := Aside0.mk ((by rw [hg]; exact (below_size (by repeat (first | (with_reducible first | exact HB.out | apply bwA | apply bwN | apply bwD) | exact HB.out))) : w.heap.size ≤ gb251)); clear HO0_1; clear HO0_2; clear HB; have HO0_1 := n0_; have HO0_2 := n1_; have HB := n2_; have BK251 := n3_; have GW251 := n4_; have GE251 := n5_; clear n0_ n1_ n2_ n3_ n4_ n5_; clear hb hbox hg) | ((with_reducible refine gate_dst (N := 3) rfl ?_); (try (refine gate_guard (by rfl) ?_; dsimp only)); refine box_event ?hg (N := 3) ?hd (cs := #[.int .i64 a1_0, .int .i64 a1_1, .int .i64 a1_2, .string a1_3]) (t := 46) ?hr ?_; (case hd => rfl); (case hg => rfl); (case hr => first | (go_simp; done) | (go_simp; rfl)); intro gb252 hg w8 hbox hb; have n0_ := Aside0.mk (Kd.V_below (Kd.V_elderB (by (with_reducible repeat (first | apply Kd.V_alloc | apply Kd.V_drewN | apply Kd.V_drew)); exact HO0_1.out) gb252 (Nat.le_of_eq hg.symm)) hb); have n1_ := Aside0.mk (Kd.V_below (Kd.V_elderB (by (with_reducible repeat (first | apply Kd.V_alloc | apply Kd.V_drewN | apply Kd.V_drew)); exact HO0_2.out) gb252 (Nat.le_of_eq hg.symm)) hb); have n2_ := Aside0.mk (blk_below (g := gb251) (o := .cells #[.int .i64 a0_0, .slice A0_1 l0_1.length c0_1, .slice A0_2 l0_2.length c0_2] 50 (0, 0)) (by (with_reducible repeat (first | apply bkN | apply bkD | apply bkA)); exact BK251.out) hb); have n3_ := Aside0.mk (below_step (by repeat (first | (with_reducible first | exact HB.out | apply bwA | apply bwN | apply bwD | refine below_set ?_ GE251.out) | exact HB.out)) hb); have n4_ := Aside0.mk (hbox); have n5_ := Aside0.mk ((by rw [hg]; exact (below_size (by repeat (first | (with_reducible first | exact HB.out | apply bwA | apply bwN | apply bwD | refine below_set ?_ GE251.out) | exact HB.out))) : w.heap.size ≤ gb252)); have n6_ := Aside0.mk ((by rw [hg]; exact (below_size (by repeat (first | (with_reducible first | exact HB.out | apply bwA | apply bwN | apply bwD | refine below_set ?_ GE251.out) | exact HB.out))) : w.heap.size ≤ gb252)); have n7_ := Aside0.mk ((by rw [hg]; exact Nat.ne_of_lt (blk_lt (g := gb251) (o := .cells #[.int .i64 a0_0, .slice A0_1 l0_1.length c0_1, .slice A0_2 l0_2.length c0_2] 50 (0, 0)) (by (with_reducible repeat (first | apply bkN | apply bkD | apply bkA)); exact BK251.out)) : gb251 ≠ gb252)); have n8_ := Aside0.mk ((by rw [hg]; exact Nat.ne_of_gt (blk_lt (g := gb251) (o := .cells #[.int .i64 a0_0, .slice A0_1 l0_1.length c0_1, .slice A0_2 l0_2.length c0_2] 50 (0, 0)) (by (with_reducible repeat (first | apply bkN | apply bkD | apply bkA)); exact BK251.out)) : gb252 ≠ gb251)); clear HO0_1; clear HO0_2; clear BK251; clear HB; have HO0_1 := n0_; have HO0_2 := n1_; have BK251 := n2_; have HB := n3_; have BK252 := n4_; have GW252 := n5_; have GE252 := n6_; have NB251_252 := n7_; have NB252_251 := n8_; clear n0_ n1_ n2_ n3_ n4_ n5_ n6_ n7_ n8_; clear hb hbox hg) | ((with_reducible refine gate_dst (N := 4) rfl ?_); (try (refine gate_guard (by rfl) ?_; dsimp only)); refine box_event ?hg (N := 4) ?hd (cs := #[.int .i64 0, .slice none 0 0, .slice none 0 0]) (t := 50) ?hr ?_; (case hd => rfl); (case hg => rfl); (case hr => first | (go_simp; done) | (go_simp; rfl)); intro gb253 hg w9 hbox hb; have n0_ := Aside0.mk (Kd.V_below (Kd.V_elderB (by (with_reducible repeat (first | apply Kd.V_alloc | apply Kd.V_drewN | apply Kd.V_drew)); exact HO0_1.out) gb253 (Nat.le_of_eq hg.symm)) hb); have n1_ := Aside0.mk (Kd.V_below (Kd.V_elderB (by (with_reducible repeat (first | apply Kd.V_alloc | apply Kd.V_drewN | apply Kd.V_drew)); exact HO0_2.out) gb253 (Nat.le_of_eq hg.symm)) hb); have n2_ := Aside0.mk (blk_below (g := gb251) (o := .cells #[.int .i64 a0_0, .slice A0_1 l0_1.length c0_1, .slice A0_2 l0_2.length c0_2] 50 (0, 0)) (by (with_reducible repeat (first | apply bkN | apply bkD | apply bkA)); exact BK251.out) hb); have n3_ := Aside0.mk (blk_below (g := gb252) (o := .cells #[.int .i64 a1_0, .int .i64 a1_1, .int .i64 a1_2, .string a1_3] 46 (0, 0)) (by (with_reducible repeat (first | apply bkN | apply bkD | apply bkA)); exact BK252.out) hb); have n4_ := Aside0.mk (below_step (by repeat (first | (with_reducible first | exact HB.out | apply bwA | apply bwN | apply bwD | refine below_set ?_ GE251.out | refine below_set ?_ GE252.out) | exact HB.out)) hb); have n5_ := Aside0.mk (hbox); have n6_ := Aside0.mk ((by rw [hg]; exact (below_size (by repeat (first | (with_reducible first | exact HB.out | apply bwA | apply bwN | apply bwD | refine below_set ?_ GE251.out | refine below_set ?_ GE252.out) | exact HB.out))) : w.heap.size ≤ gb253)); have n7_ := Aside0.mk ((by rw [hg]; exact (below_size (by repeat (first | (with_reducible first | exact HB.out | apply bwA | apply bwN | apply bwD | refine below_set ?_ GE251.out | refine below_set ?_ GE252.out) | exact HB.out))) : w.heap.size ≤ gb253)); have n8_ := Aside0.mk ((by rw [hg]; exact Nat.ne_of_lt (blk_lt (g := gb251) (o := .cells #[.int .i64 a0_0, .slice A0_1 l0_1.length c0_1, .slice A0_2 l0_2.length c0_2] 50 (0, 0)) (by (with_reducible repeat (first | apply bkN | apply bkD | apply bkA)); exact BK251.out)) : gb251 ≠ gb253)); have n9_ := Aside0.mk ((by rw [hg]; exact Nat.ne_of_gt (blk_lt (g := gb251) (o := .cells #[.int .i64 a0_0, .slice A0_1 l0_1.length c0_1, .slice A0_2 l0_2.length c0_2] 50 (0, 0)) (by (with_reducible repeat (first | apply bkN | apply bkD | apply bkA)); exact BK251.out)) : gb253 ≠ gb251)); have n10_ := Aside0.mk ((by rw [hg]; exact Nat.ne_of_lt (blk_lt (g := gb252) (o := .cells #[.int .i64 a1_0, .int .i64 a1_1, .int .i64 a1_2, .string a1_3] 46 (0, 0)) (by (with_reducible repeat (first | apply bkN | apply bkD | apply bkA)); exact BK252.out)) : gb252 ≠ gb253)); have n11_ := Aside0.mk ((by rw [hg]; exact Nat.ne_of_gt (blk_lt (g := gb252) (o := .cells #[.int .i64 a1_0, .int .i64 a1_1, .int .i64 a1_2, .string a1_3] 46 (0, 0)) (by (with_reducible repeat (first | apply bkN | apply bkD | apply bkA)); exact BK252.out)) : gb253 ≠ gb252)); clear HO0_1; clear HO0_2; clear BK251; clear BK252; clear HB; have HO0_1 := n0_; have HO0_2 := n1_; have BK251 := n2_; have BK252 := n3_; have HB := n4_; have BK253 := n5_; have GW253 := n6_; have GE253 := n7_; have NB251_253 := n8_; have NB253_251 := n9_; have NB252_253 := n10_; have NB253_252 := n11_; clear n0_ n1_ n2_ n3_ n4_ n5_ n6_ n7_ n8_ n9_ n10_ n11_; clear hb hbox hg; have hnb10 := NB251_252.out; have hnc10 := NB252_251.out; have hnb11 := NB251_253.out; have hnc11 := NB253_251.out; have hcz12_0 : w9.cell? ⟨gb251, 0, none⟩ = some (.int .i64 a0_0) := (blk_cell BK251.out 0).trans rfl; have hcz12_1 : w9.cell? ⟨gb251, 1, none⟩ = some (.slice A0_1 l0_1.length c0_1) := (blk_cell BK251.out 1).trans rfl; have hcz12_2 : w9.cell? ⟨gb251, 2, none⟩ = some (.slice A0_2 l0_2.length c0_2) := (blk_cell BK251.out 2).trans rfl; have hfz12_0 := blk_frozen BK251.out 0; have hfz12_1 := blk_frozen BK251.out 1; have hfz12_2 := blk_frozen BK251.out 2) | ((with_reducible refine gate_callee (f := 30) rfl ?_); refine goesL_ (some 9) rfl rfl Try.func30 (by kernel_rfl) rfl #[.agg #[.int .i64 a0_0, .slice A0_1 l0_1.length c0_1, .slice A0_2 l0_2.length c0_2]] rfl (by (try simp only [List.map_toArray, List.map_cons, List.map_nil]); first | done | rfl | (simp only [List.length_drop, List.length_take]; rfl)) ?_; (with_reducible refine (recv_right.calls a0_0 _ _ l0_1 _ _ l0_2 true _ ?side1 ?side2 ?side3 ?side4 A3.out).mono ?_); (case side1 => repeat (first | exact (Kd.V_reads' HO0_1.out).2.2 | (with_reducible refine Kd.C_alloc ?_ _) | (with_reducible refine Kd.C_drewN ?_ _) | (with_reducible refine Kd.C_drew ?_))); (case side2 => exact (Kd.V_reads' HO0_1.out).2.1); (case side3 => repeat (first | exact (Kd.V_reads' HO0_2.out).2.2 | (with_reducible refine Kd.C_alloc ?_ _) | (with_reducible refine Kd.C_drewN ?_ _) | (with_reducible refine Kd.C_drew ?_))); (case side4 => exact (Kd.V_reads' HO0_2.out).2.1); rintro e w13 ⟨rfl, hb⟩; refine ⟨_, rfl, ?_⟩; have n0_ := Aside0.mk (Kd.V_below (by (with_reducible repeat (first | apply Kd.V_alloc | apply Kd.V_drewN | apply Kd.V_drew)); exact HO0_1.out) hb); have n1_ := Aside0.mk (Kd.V_below (by (with_reducible repeat (first | apply Kd.V_alloc | apply Kd.V_drewN | apply Kd.V_drew)); exact HO0_2.out) hb); have n2_ := Aside0.mk (blk_below (g := gb251) (o := .cells #[.int .i64 a0_0, .slice A0_1 l0_1.length c0_1, .slice A0_2 l0_2.length c0_2] 50 (0, 0)) (by (with_reducible repeat (first | apply bkN | apply bkD | apply bkA)); exact BK251.out) hb); have n3_ := Aside0.mk (blk_below (g := gb252) (o := .cells #[.int .i64 a1_0, .int .i64 a1_1, .int .i64 a1_2, .string a1_3] 46 (0, 0)) (by (with_reducible repeat (first | apply bkN | apply bkD | apply bkA)); exact BK252.out) hb); have n4_ := Aside0.mk (blk_below (g := gb253) (o := .cells #[.int .i64 0, .slice none 0 0, .slice none 0 0] 50 (0, 0)) (by (with_reducible repeat (first | apply bkN | apply bkD | apply bkA)); exact BK253.out) hb); have n5_ := Aside0.mk (below_step (by repeat (first | (with_reducible first | exact HB.out | apply bwA | apply bwN | apply bwD | refine below_set ?_ GE251.out | refine below_set ?_ GE252.out | refine below_set ?_ GE253.out) | exact HB.out)) hb); clear HO0_1; clear HO0_2; clear BK251; clear BK252; clear BK253; clear HB; have HO0_1 := n0_; have HO0_2 := n1_; have BK251 := n2_; have BK252 := n3_; have BK253 := n4_; have HB := n5_; clear n0_ n1_ n2_ n3_ n4_ n5_; (try clear hb); (try clear hb2); (try clear hk); (try clear hi); have hnb14 := NB252_253.out; have hnc14 := NB253_252.out; have hcz15_0 : w13.cell? ⟨gb252, 0, none⟩ = some (.int .i64 a1_0) := (blk_cell BK252.out 0).trans rfl; have hcz15_1 : w13.cell? ⟨gb252, 1, none⟩ = some (.int .i64 a1_1) := (blk_cell BK252.out 1).trans rfl; have hcz15_2 : w13.cell? ⟨gb252, 2, none⟩ = some (.int .i64 a1_2) := (blk_cell BK252.out 2).trans rfl; have hcz15_3 : w13.cell? ⟨gb252, 3, none⟩ = some (.string a1_3) := (blk_cell BK252.out 3).trans rfl; have hfz15_0 := blk_frozen BK252.out 0; have hfz15_1 := blk_frozen BK252.out 1; have hfz15_2 := blk_frozen BK252.out 2; have hfz15_3 := blk_frozen BK252.out 3; have hcz16_0 : w13.cell? ⟨gb251, 0, none⟩ = some (.int .i64 a0_0) := (blk_cell BK251.out 0).trans rfl; have hcz16_1 : w13.cell? ⟨gb251, 1, none⟩ = some (.slice A0_1 l0_1.length c0_1) := (blk_cell BK251.out 1).trans rfl; have hcz16_2 : w13.cell? ⟨gb251, 2, none⟩ = some (.slice A0_2 l0_2.length c0_2) := (blk_cell BK251.out 2).trans rfl; have hfz16_0 := blk_frozen BK251.out 0; have hfz16_1 := blk_frozen BK251.out 1; have hfz16_2 := blk_frozen BK251.out 2))
   (try simp only [Act.put, List.setIfInBounds_toArray, List.set_cons_zero, List.set_cons_succ])
   go_cut [19] (fun v19 wc => ∃ (kq : Nat) (x19_5 : Bool), v19 = .bool x19_5 ∧ Aside0 (recv_Take.j0 kq x19_5 a0_0 l0_1 l0_2 a1_0 a1_1 a1_2 a1_3 = some (r1, r2, r3, r4, r5)) ∧ Aside0 (kq ≤ k) ∧ Aside0 (Kd.V Kd.string 9 wc w.heap.size (fun k_ => ((P0_1_ k_ ∨ P0_2_ k_) ∨ w.heap.size ≤ k_) ∧ k_ ≠ gb251 ∧ k_ ≠ gb252 ∧ k_ ≠ gb253) (.slice A0_1 l0_1.length c0_1) l0_1) ∧ Aside0 (Kd.V Kd.bool 4 wc w.heap.size (fun k_ => ((P0_1_ k_ ∨ P0_2_ k_) ∨ w.heap.size ≤ k_) ∧ k_ ≠ gb251 ∧ k_ ≠ gb252 ∧ k_ ≠ gb253) (.slice A0_2 l0_2.length c0_2) l0_2) ∧ Aside0 (wc.heap[gb251]? = some (.cells #[.int .i64 a0_0, (.slice A0_1 l0_1.length c0_1), (.slice A0_2 l0_2.length c0_2)] 50 (0, 0))) ∧ Aside0 (wc.heap[gb252]? = some (.cells #[.int .i64 a1_0, .int .i64 a1_1, .int .i64 a1_2, .string a1_3] 46 (0, 0))) ∧ Aside0 (wc.heap[gb253]? = some (.cells #[.int .i64 0, (.slice none 0 0), (.slice none 0 0)] 50 (0, 0))) ∧ Aside0 (Below w.heap.size w wc))
   case first =>
    have H := HC6.out
    clear HC6
    by_cases c17 : a1_2 = (l0_1.length : Int)
    ·rw [if_pos c17] at H
     have c17b0 : (a1_2 == (l0_1.length : Int)) = true := beq_iff_eq.mpr c17
     have c17b1 : (a1_2 != (l0_1.length : Int)) = false := bne_eq_false_iff_eq.mpr c17
     clear c17
     (first | rw [c17b0] | (simp only [i64_w, i32_w]; rw [c17b0]) | skip)
     by_cases c18 : a1_1 < 0
     ·rw [if_pos c18] at H
      have c18b0 : decide (a1_1 < 0) = true := decide_eq_true c18
      clear c18
      have H' := Aside0.mk H
      clear H
      have hnb19 := NB252_251.out
      have hnc19 := NB251_252.out
      have hnb20 := NB252_253.out
      have hnc20 := NB253_252.out
      have hcz21_0 : w13.cell? ⟨gb252, 0, none⟩ = some (.int .i64 a1_0) := (blk_cell BK252.out 0).trans rfl
      have hcz21_1 : w13.cell? ⟨gb252, 1, none⟩ = some (.int .i64 a1_1) := (blk_cell BK252.out 1).trans rfl
      have hcz21_2 : w13.cell? ⟨gb252, 2, none⟩ = some (.int .i64 a1_2) := (blk_cell BK252.out 2).trans rfl
      have hcz21_3 : w13.cell? ⟨gb252, 3, none⟩ = some (.string a1_3) := (blk_cell BK252.out 3).trans rfl
      have hfz21_0 := blk_frozen BK252.out 0
      have hfz21_1 := blk_frozen BK252.out 1
      have hfz21_2 := blk_frozen BK252.out 2
      have hfz21_3 := blk_frozen BK252.out 3
      have hnb22 := NB251_253.out
      have hnc22 := NB253_251.out
      have hcz23_0 : w13.cell? ⟨gb251, 0, none⟩ = some (.int .i64 a0_0) := (blk_cell BK251.out 0).trans rfl
      have hcz23_1 : w13.cell? ⟨gb251, 1, none⟩ = some (.slice A0_1 l0_1.length c0_1) := (blk_cell BK251.out 1).trans rfl
      have hcz23_2 : w13.cell? ⟨gb251, 2, none⟩ = some (.slice A0_2 l0_2.length c0_2) := (blk_cell BK251.out 2).trans rfl
      have hfz23_0 := blk_frozen BK251.out 0
      have hfz23_1 := blk_frozen BK251.out 1
      have hfz23_2 := blk_frozen BK251.out 2
      go_wp2
      go_meet
      case rel => exact ⟨_, (true), (by first | rfl | (simp; done) | (simp [*]; done)), H', ⟨by first | omega | exact Nat.le_refl _⟩, ⟨by (with_reducible repeat (first | apply Kd.V_alloc | apply Kd.V_drewN | apply Kd.V_drew)); exact Kd.V_mono HO0_1.out (fun _ hk => ⟨hk.1.1.1, ⟨hk.1.1.2, ⟨hk.1.2, hk.2⟩⟩⟩)⟩, ⟨by (with_reducible repeat (first | apply Kd.V_alloc | apply Kd.V_drewN | apply Kd.V_drew)); exact Kd.V_mono HO0_2.out (fun _ hk => ⟨hk.1.1.1, ⟨hk.1.1.2, ⟨hk.1.2, hk.2⟩⟩⟩)⟩, ⟨by (with_reducible repeat (first | apply bkN | apply bkD | apply bkA)); exact BK251.out⟩, ⟨by (with_reducible repeat (first | apply bkN | apply bkD | apply bkA)); exact BK252.out⟩, ⟨by (with_reducible repeat (first | apply bkN | apply bkD | apply bkA)); exact BK253.out⟩, ⟨by repeat (first | (with_reducible first | exact HB.out | apply bwA | apply bwN | apply bwD | refine below_set ?_ GE251.out | refine below_set ?_ GE252.out | refine below_set ?_ GE253.out) | exact HB.out)⟩⟩
     ·rw [if_neg c18] at H
      have c18b0 : decide (a1_1 < 0) = false := decide_eq_false c18
      clear c18
      have H' := Aside0.mk H
      clear H
      have hnb24 := NB252_251.out
      have hnc24 := NB251_252.out
      have hnb25 := NB252_253.out
      have hnc25 := NB253_252.out
      have hcz26_0 : w13.cell? ⟨gb252, 0, none⟩ = some (.int .i64 a1_0) := (blk_cell BK252.out 0).trans rfl
      have hcz26_1 : w13.cell? ⟨gb252, 1, none⟩ = some (.int .i64 a1_1) := (blk_cell BK252.out 1).trans rfl
      have hcz26_2 : w13.cell? ⟨gb252, 2, none⟩ = some (.int .i64 a1_2) := (blk_cell BK252.out 2).trans rfl
      have hcz26_3 : w13.cell? ⟨gb252, 3, none⟩ = some (.string a1_3) := (blk_cell BK252.out 3).trans rfl
      have hfz26_0 := blk_frozen BK252.out 0
      have hfz26_1 := blk_frozen BK252.out 1
      have hfz26_2 := blk_frozen BK252.out 2
      have hfz26_3 := blk_frozen BK252.out 3
      have hnb27 := NB251_253.out
      have hnc27 := NB253_251.out
      have hcz28_0 : w13.cell? ⟨gb251, 0, none⟩ = some (.int .i64 a0_0) := (blk_cell BK251.out 0).trans rfl
      have hcz28_1 : w13.cell? ⟨gb251, 1, none⟩ = some (.slice A0_1 l0_1.length c0_1) := (blk_cell BK251.out 1).trans rfl
      have hcz28_2 : w13.cell? ⟨gb251, 2, none⟩ = some (.slice A0_2 l0_2.length c0_2) := (blk_cell BK251.out 2).trans rfl
      have hfz28_0 := blk_frozen BK251.out 0
      have hfz28_1 := blk_frozen BK251.out 1
      have hfz28_2 := blk_frozen BK251.out 2
      go_wp2
      go_meet
      case rel => exact ⟨_, (decide (a1_1 ≥ (l0_1.length : Int))), (by first | rfl | (simp; done) | (simp [*]; done)), H', ⟨by first | omega | exact Nat.le_refl _⟩, ⟨by (with_reducible repeat (first | apply Kd.V_alloc | apply Kd.V_drewN | apply Kd.V_drew)); exact Kd.V_mono HO0_1.out (fun _ hk => ⟨hk.1.1.1, ⟨hk.1.1.2, ⟨hk.1.2, hk.2⟩⟩⟩)⟩, ⟨by (with_reducible repeat (first | apply Kd.V_alloc | apply Kd.V_drewN | apply Kd.V_drew)); exact Kd.V_mono HO0_2.out (fun _ hk => ⟨hk.1.1.1, ⟨hk.1.1.2, ⟨hk.1.2, hk.2⟩⟩⟩)⟩, ⟨by (with_reducible repeat (first | apply bkN | apply bkD | apply bkA)); exact BK251.out⟩, ⟨by (with_reducible repeat (first | apply bkN | apply bkD | apply bkA)); exact BK252.out⟩, ⟨by (with_reducible repeat (first | apply bkN | apply bkD | apply bkA)); exact BK253.out⟩, ⟨by repeat (first | (with_reducible first | exact HB.out | apply bwA | apply bwN | apply bwD | refine below_set ?_ GE251.out | refine below_set ?_ GE252.out | refine below_set ?_ GE253.out) | exact HB.out)⟩⟩
    ·rw [if_neg c17] at H
     have c17b0 : (a1_2 == (l0_1.length : Int)) = false := beq_eq_false_iff_ne.mpr c17
     have c17b1 : (a1_2 != (l0_1.length : Int)) = true := bne_iff_ne.mpr c17
     (first | rw [c17b0] | (simp only [i64_w, i32_w]; rw [c17b0]) | skip)
     have H' := Aside0.mk H
     clear H
     have hnb29 := NB252_251.out
     have hnc29 := NB251_252.out
     have hnb30 := NB252_253.out
     have hnc30 := NB253_252.out
     have hcz31_0 : w13.cell? ⟨gb252, 0, none⟩ = some (.int .i64 a1_0) := (blk_cell BK252.out 0).trans rfl
     have hcz31_1 : w13.cell? ⟨gb252, 1, none⟩ = some (.int .i64 a1_1) := (blk_cell BK252.out 1).trans rfl
     have hcz31_2 : w13.cell? ⟨gb252, 2, none⟩ = some (.int .i64 a1_2) := (blk_cell BK252.out 2).trans rfl
     have hcz31_3 : w13.cell? ⟨gb252, 3, none⟩ = some (.string a1_3) := (blk_cell BK252.out 3).trans rfl
     have hfz31_0 := blk_frozen BK252.out 0
     have hfz31_1 := blk_frozen BK252.out 1
     have hfz31_2 := blk_frozen BK252.out 2
     have hfz31_3 := blk_frozen BK252.out 3
     have hnb32 := NB251_253.out
     have hnc32 := NB253_251.out
     have hcz33_0 : w13.cell? ⟨gb251, 0, none⟩ = some (.int .i64 a0_0) := (blk_cell BK251.out 0).trans rfl
     have hcz33_1 : w13.cell? ⟨gb251, 1, none⟩ = some (.slice A0_1 l0_1.length c0_1) := (blk_cell BK251.out 1).trans rfl
     have hcz33_2 : w13.cell? ⟨gb251, 2, none⟩ = some (.slice A0_2 l0_2.length c0_2) := (blk_cell BK251.out 2).trans rfl
     have hfz33_0 := blk_frozen BK251.out 0
     have hfz33_1 := blk_frozen BK251.out 1
     have hfz33_2 := blk_frozen BK251.out 2
     go_wp2
     go_meet
     case rel => exact ⟨_, (true), (by first | rfl | (simp; done) | (simp [*]; done)), H', ⟨by first | omega | exact Nat.le_refl _⟩, ⟨by (with_reducible repeat (first | apply Kd.V_alloc | apply Kd.V_drewN | apply Kd.V_drew)); exact Kd.V_mono HO0_1.out (fun _ hk => ⟨hk.1.1.1, ⟨hk.1.1.2, ⟨hk.1.2, hk.2⟩⟩⟩)⟩, ⟨by (with_reducible repeat (first | apply Kd.V_alloc | apply Kd.V_drewN | apply Kd.V_drew)); exact Kd.V_mono HO0_2.out (fun _ hk => ⟨hk.1.1.1, ⟨hk.1.1.2, ⟨hk.1.2, hk.2⟩⟩⟩)⟩, ⟨by (with_reducible repeat (first | apply bkN | apply bkD | apply bkA)); exact BK251.out⟩, ⟨by (with_reducible repeat (first | apply bkN | apply bkD | apply bkA)); exact BK252.out⟩, ⟨by (with_reducible repeat (first | apply bkN | apply bkD | apply bkA)); exact BK253.out⟩, ⟨by repeat (first | (with_reducible first | exact HB.out | apply bwA | apply bwN | apply bwD | refine below_set ?_ GE251.out | refine below_set ?_ GE252.out | refine below_set ?_ GE253.out) | exact HB.out)⟩⟩
   case rest =>
    clear HC6
    try clear c1
    try clear c2
    try clear p2
    try clear c3
    try clear c4
    try clear c5
    try clear c5b0
    try clear c5b1
    try clear c10
    try clear c11
    try clear c14
    try clear c17
    try clear c17b0
    try clear c17b1
    try clear c18
    try clear c18b0
    try clear c19
    try clear c20
    try clear c22
    try clear c24
    try clear c25
    try clear c27
    try clear c29
    try clear c30
    try clear c32
    try clear hcz12_0
    try clear hcz12_1
    try clear hcz12_2
    try clear hcz15_0
    try clear hcz15_1
    try clear hcz15_2
    try clear hcz15_3
    try clear hcz16_0
    try clear hcz16_1
    try clear hcz16_2
    try clear hcz21_0
    try clear hcz21_1
    try clear hcz21_2
    try clear hcz21_3
    try clear hcz23_0
    try clear hcz23_1
    try clear hcz23_2
    try clear hcz26_0
    try clear hcz26_1
    try clear hcz26_2
    try clear hcz26_3
    try clear hcz28_0
    try clear hcz28_1
    try clear hcz28_2
    try clear hcz31_0
    try clear hcz31_1
    try clear hcz31_2
    try clear hcz31_3
    try clear hcz33_0
    try clear hcz33_1
    try clear hcz33_2
    try clear hfz12_0
    try clear hfz12_1
    try clear hfz12_2
    try clear hfz15_0
    try clear hfz15_1
    try clear hfz15_2
    try clear hfz15_3
    try clear hfz16_0
    try clear hfz16_1
    try clear hfz16_2
    try clear hfz21_0
    try clear hfz21_1
    try clear hfz21_2
    try clear hfz21_3
    try clear hfz23_0
    try clear hfz23_1
    try clear hfz23_2
    try clear hfz26_0
    try clear hfz26_1
    try clear hfz26_2
    try clear hfz26_3
    try clear hfz28_0
    try clear hfz28_1
    try clear hfz28_2
    try clear hfz31_0
    try clear hfz31_1
    try clear hfz31_2
    try clear hfz31_3
    try clear hfz33_0
    try clear hfz33_1
    try clear hfz33_2
    obtain ⟨kq, x19_5, rfl, HA, HJ5, HO_252001, HO_252002, BK251, BK252, BK253, HB⟩ := hcut
    cases kq with
    | zero => exact absurd HA.out (by simp [recv_Take.j0])
    | succ kj5 =>
     have H := HA.out
     clear HA
     simp only [recv_Take.j0] at H
     by_cases c34 : x19_5 = true
     ·subst c34
      have H1 : (some (a0_0, l0_1, l0_2, false, 1)) = some (r1, r2, r3, r4, r5) := by rw [if_pos rfl] at H; exact H
      clear H
      have H := H1
      clear H1
      simp only [Option.some.injEq, Prod.mk.injEq] at H
      obtain ⟨rfl, rfl, rfl, rfl, rfl⟩ := H
      have hnb35 := NB251_252.out
      have hnc35 := NB252_251.out
      have hnb36 := NB251_253.out
      have hnc36 := NB253_251.out
      have hcz37_0 : wc.cell? ⟨gb251, 0, none⟩ = some (.int .i64 a0_0) := (blk_cell BK251.out 0).trans rfl
      have hcz37_1 : wc.cell? ⟨gb251, 1, none⟩ = some (.slice A0_1 l0_1.length c0_1) := (blk_cell BK251.out 1).trans rfl
      have hcz37_2 : wc.cell? ⟨gb251, 2, none⟩ = some (.slice A0_2 l0_2.length c0_2) := (blk_cell BK251.out 2).trans rfl
      have hfz37_0 := blk_frozen BK251.out 0
      have hfz37_1 := blk_frozen BK251.out 1
      have hfz37_2 := blk_frozen BK251.out 2
      have hnb38 := NB253_252.out
      have hnc38 := NB252_253.out
      have hcz39_0 : wc.cell? ⟨gb253, 0, none⟩ = some (.int .i64 0) := (blk_cell BK253.out 0).trans rfl
      have hcz39_1 : wc.cell? ⟨gb253, 1, none⟩ = some (.slice none 0 0) := (blk_cell BK253.out 1).trans rfl
      have hcz39_2 : wc.cell? ⟨gb253, 2, none⟩ = some (.slice none 0 0) := (blk_cell BK253.out 2).trans rfl
      have hfz39_0 := blk_frozen BK253.out 0
      have hfz39_1 := blk_frozen BK253.out 1
      have hfz39_2 := blk_frozen BK253.out 2
      go_wp2
      refine bodyPost_ret (results_ctt rfl _ _ gb253 50 #[.int .i64 a0_0, .slice A0_1 l0_1.length c0_1, .slice A0_2 l0_2.length c0_2] (0, 0) _ rfl (by (with_reducible repeat (first | apply bkN | apply bkD | apply bkA)); refine blk_put (cs := #[.int .i64 a0_0, .slice A0_1 l0_1.length c0_1, .slice none 0 0]) ?_ 2 _ rfl; (with_reducible repeat (first | apply bkN | apply bkD | apply bkA)); refine blk_put (cs := #[.int .i64 a0_0, .slice none 0 0, .slice none 0 0]) ?_ 1 _ rfl; (with_reducible repeat (first | apply bkN | apply bkD | apply bkA)); refine blk_put (cs := #[.int .i64 0, .slice none 0 0, .slice none 0 0]) ?_ 0 _ rfl; (with_reducible repeat (first | apply bkN | apply bkD | apply bkA)); exact BK253.out) Try.underlying50 rfl (by kernel_rfl)) rfl ?_
      exact ⟨_, _, by first | rfl | (simp [errW_none, errW_some] <;> rfl) | (simp [*, errW_none, errW_some] <;> rfl), by (with_reducible repeat (first | apply Kd.V_alloc | apply Kd.V_drewN | apply Kd.V_drew)); exact Kd.V_mono (Kd.V_far (p := ⟨gb253, 2, none⟩) (Kd.V_far (p := ⟨gb253, 1, none⟩) (Kd.V_far (p := ⟨gb253, 0, none⟩) (Kd.V_mono HO_252001.out (fun k_ hk => (⟨hk, hk.2.2.2⟩ : _ ∧ k_ ≠ gb253))) (fun _ hk => hk.2) (.int .i64 a0_0)) (fun _ hk => hk.2) (.slice A0_1 l0_1.length c0_1)) (fun _ hk => hk.2) (.slice A0_2 l0_2.length c0_2)) (fun _ hk => hk.1.1), by (with_reducible repeat (first | apply Kd.V_alloc | apply Kd.V_drewN | apply Kd.V_drew)); exact Kd.V_mono (Kd.V_far (p := ⟨gb253, 2, none⟩) (Kd.V_far (p := ⟨gb253, 1, none⟩) (Kd.V_far (p := ⟨gb253, 0, none⟩) (Kd.V_mono HO_252002.out (fun k_ hk => (⟨hk, hk.2.2.2⟩ : _ ∧ k_ ≠ gb253))) (fun _ hk => hk.2) (.int .i64 a0_0)) (fun _ hk => hk.2) (.slice A0_1 l0_1.length c0_1)) (fun _ hk => hk.2) (.slice A0_2 l0_2.length c0_2)) (fun _ hk => hk.1.1), by repeat (first | (with_reducible first | exact HB.out | apply bwA | apply bwN | apply bwD | refine below_set ?_ GE251.out | refine below_set ?_ GE252.out | refine below_set ?_ GE253.out) | exact HB.out)⟩
     ·replace c34 := Bool.eq_false_iff.mpr c34
      subst c34
      have H1 : (if (a1_3.size : Int) > 4096 then (some (a0_0, l0_1, l0_2, false, 2)) else (if 0 ≤ a1_1 then (if a1_1 < (l0_2.length : Int) then (if rdOf false l0_2 a1_1 = true then (if a1_1 < (l0_1.length : Int) then (recv_Take.j1 kj5 ((rdOf ByteArray.empty l0_1 a1_1).toList != a1_3.toList) a0_0 l0_1 l0_2 a1_0 a1_1 a1_2 a1_3) else (none)) else (recv_Take.j1 kj5 false a0_0 l0_1 l0_2 a1_0 a1_1 a1_2 a1_3)) else (none)) else (none))) = some (r1, r2, r3, r4, r5) := by rw [if_neg (show ¬ (false = true) by decide)] at H; exact H
      clear H
      have H := H1
      clear H1
      by_cases c40 : (a1_3.size : Int) > 4096
      ·rw [if_pos c40] at H
       have c40b0 : decide (4096 < (a1_3.size : Int)) = true := decide_eq_true c40
       have c40b1 : decide (4096 < a1_3.size) = true := decide_eq_true (by omega)
       clear c40
       simp only [Option.some.injEq, Prod.mk.injEq] at H
       obtain ⟨rfl, rfl, rfl, rfl, rfl⟩ := H
       have hnb41 := NB252_251.out
       have hnc41 := NB251_252.out
       have hnb42 := NB252_253.out
       have hnc42 := NB253_252.out
       have hcz43_0 : wc.cell? ⟨gb252, 0, none⟩ = some (.int .i64 a1_0) := (blk_cell BK252.out 0).trans rfl
       have hcz43_1 : wc.cell? ⟨gb252, 1, none⟩ = some (.int .i64 a1_1) := (blk_cell BK252.out 1).trans rfl
       have hcz43_2 : wc.cell? ⟨gb252, 2, none⟩ = some (.int .i64 a1_2) := (blk_cell BK252.out 2).trans rfl
       have hcz43_3 : wc.cell? ⟨gb252, 3, none⟩ = some (.string a1_3) := (blk_cell BK252.out 3).trans rfl
       have hfz43_0 := blk_frozen BK252.out 0
       have hfz43_1 := blk_frozen BK252.out 1
       have hfz43_2 := blk_frozen BK252.out 2
       have hfz43_3 := blk_frozen BK252.out 3
       have hnb44 := NB251_253.out
       have hnc44 := NB253_251.out
       have hcz45_0 : wc.cell? ⟨gb251, 0, none⟩ = some (.int .i64 a0_0) := (blk_cell BK251.out 0).trans rfl
       have hcz45_1 : wc.cell? ⟨gb251, 1, none⟩ = some (.slice A0_1 l0_1.length c0_1) := (blk_cell BK251.out 1).trans rfl
       have hcz45_2 : wc.cell? ⟨gb251, 2, none⟩ = some (.slice A0_2 l0_2.length c0_2) := (blk_cell BK251.out 2).trans rfl
       have hfz45_0 := blk_frozen BK251.out 0
       have hfz45_1 := blk_frozen BK251.out 1
       have hfz45_2 := blk_frozen BK251.out 2
       have hcz46_0 : wc.cell? ⟨gb253, 0, none⟩ = some (.int .i64 0) := (blk_cell BK253.out 0).trans rfl
       have hcz46_1 : wc.cell? ⟨gb253, 1, none⟩ = some (.slice none 0 0) := (blk_cell BK253.out 1).trans rfl
       have hcz46_2 : wc.cell? ⟨gb253, 2, none⟩ = some (.slice none 0 0) := (blk_cell BK253.out 2).trans rfl
       have hfz46_0 := blk_frozen BK253.out 0
       have hfz46_1 := blk_frozen BK253.out 1
       have hfz46_2 := blk_frozen BK253.out 2
       go_wp2
       refine bodyPost_ret (results_ctt rfl _ _ gb253 50 #[.int .i64 a0_0, .slice A0_1 l0_1.length c0_1, .slice A0_2 l0_2.length c0_2] (0, 0) _ rfl (by (with_reducible repeat (first | apply bkN | apply bkD | apply bkA)); refine blk_put (cs := #[.int .i64 a0_0, .slice A0_1 l0_1.length c0_1, .slice none 0 0]) ?_ 2 _ rfl; (with_reducible repeat (first | apply bkN | apply bkD | apply bkA)); refine blk_put (cs := #[.int .i64 a0_0, .slice none 0 0, .slice none 0 0]) ?_ 1 _ rfl; (with_reducible repeat (first | apply bkN | apply bkD | apply bkA)); refine blk_put (cs := #[.int .i64 0, .slice none 0 0, .slice none 0 0]) ?_ 0 _ rfl; (with_reducible repeat (first | apply bkN | apply bkD | apply bkA)); exact BK253.out) Try.underlying50 rfl (by kernel_rfl)) rfl ?_
       exact ⟨_, _, by first | rfl | (simp [errW_none, errW_some] <;> rfl) | (simp [*, errW_none, errW_some] <;> rfl), by (with_reducible repeat (first | apply Kd.V_alloc | apply Kd.V_drewN | apply Kd.V_drew)); exact Kd.V_mono (Kd.V_far (p := ⟨gb253, 2, none⟩) (Kd.V_far (p := ⟨gb253, 1, none⟩) (Kd.V_far (p := ⟨gb253, 0, none⟩) (Kd.V_mono HO_252001.out (fun k_ hk => (⟨hk, hk.2.2.2⟩ : _ ∧ k_ ≠ gb253))) (fun _ hk => hk.2) (.int .i64 a0_0)) (fun _ hk => hk.2) (.slice A0_1 l0_1.length c0_1)) (fun _ hk => hk.2) (.slice A0_2 l0_2.length c0_2)) (fun _ hk => hk.1.1), by (with_reducible repeat (first | apply Kd.V_alloc | apply Kd.V_drewN | apply Kd.V_drew)); exact Kd.V_mono (Kd.V_far (p := ⟨gb253, 2, none⟩) (Kd.V_far (p := ⟨gb253, 1, none⟩) (Kd.V_far (p := ⟨gb253, 0, none⟩) (Kd.V_mono HO_252002.out (fun k_ hk => (⟨hk, hk.2.2.2⟩ : _ ∧ k_ ≠ gb253))) (fun _ hk => hk.2) (.int .i64 a0_0)) (fun _ hk => hk.2) (.slice A0_1 l0_1.length c0_1)) (fun _ hk => hk.2) (.slice A0_2 l0_2.length c0_2)) (fun _ hk => hk.1.1), by repeat (first | (with_reducible first | exact HB.out | apply bwA | apply bwN | apply bwD | refine below_set ?_ GE251.out | refine below_set ?_ GE252.out | refine below_set ?_ GE253.out) | exact HB.out)⟩
      ·rw [if_neg c40] at H
       have c40b0 : decide (4096 < (a1_3.size : Int)) = false := decide_eq_false c40
       have c40b1 : decide (4096 < a1_3.size) = false := decide_eq_false (by omega)
       clear c40
       have HC47 := Aside0.mk H
       clear H
       have hnb48 := NB252_251.out
       have hnc48 := NB251_252.out
       have hnb49 := NB252_253.out
       have hnc49 := NB253_252.out
       have hcz50_0 : wc.cell? ⟨gb252, 0, none⟩ = some (.int .i64 a1_0) := (blk_cell BK252.out 0).trans rfl
       have hcz50_1 : wc.cell? ⟨gb252, 1, none⟩ = some (.int .i64 a1_1) := (blk_cell BK252.out 1).trans rfl
       have hcz50_2 : wc.cell? ⟨gb252, 2, none⟩ = some (.int .i64 a1_2) := (blk_cell BK252.out 2).trans rfl
       have hcz50_3 : wc.cell? ⟨gb252, 3, none⟩ = some (.string a1_3) := (blk_cell BK252.out 3).trans rfl
       have hfz50_0 := blk_frozen BK252.out 0
       have hfz50_1 := blk_frozen BK252.out 1
       have hfz50_2 := blk_frozen BK252.out 2
       have hfz50_3 := blk_frozen BK252.out 3
       go_upto_region 9 with (fail)
       go_cut [46] (fun v46 wc => ∃ (kq : Nat) (x46_46 : Bool), v46 = .bool x46_46 ∧ Aside0 (recv_Take.j1 kq x46_46 a0_0 l0_1 l0_2 a1_0 a1_1 a1_2 a1_3 = some (r1, r2, r3, r4, r5)) ∧ Aside0 (kq ≤ kj5) ∧ Aside0 (Kd.V Kd.string 9 wc w.heap.size (fun k_ => ((P0_1_ k_ ∨ P0_2_ k_) ∨ w.heap.size ≤ k_) ∧ k_ ≠ gb251 ∧ k_ ≠ gb252 ∧ k_ ≠ gb253) (.slice A0_1 l0_1.length c0_1) l0_1) ∧ Aside0 (Kd.V Kd.bool 4 wc w.heap.size (fun k_ => ((P0_1_ k_ ∨ P0_2_ k_) ∨ w.heap.size ≤ k_) ∧ k_ ≠ gb251 ∧ k_ ≠ gb252 ∧ k_ ≠ gb253) (.slice A0_2 l0_2.length c0_2) l0_2) ∧ Aside0 (wc.heap[gb251]? = some (.cells #[.int .i64 a0_0, (.slice A0_1 l0_1.length c0_1), (.slice A0_2 l0_2.length c0_2)] 50 (0, 0))) ∧ Aside0 (wc.heap[gb252]? = some (.cells #[.int .i64 a1_0, .int .i64 a1_1, .int .i64 a1_2, .string a1_3] 46 (0, 0))) ∧ Aside0 (wc.heap[gb253]? = some (.cells #[.int .i64 0, (.slice none 0 0), (.slice none 0 0)] 50 (0, 0))) ∧ Aside0 (Below w.heap.size w wc))
       case first =>
        have H := HC47.out
        clear HC47
        by_cases c51 : 0 ≤ a1_1
        ·rw [if_pos c51] at H
         have c51b0 : decide (0 ≤ a1_1) = true := decide_eq_true c51
         clear c51
         (first | rw [c51b0] | (simp only [i64_w, i32_w]; rw [c51b0]) | skip)
         by_cases c52 : a1_1 < (l0_2.length : Int)
         ·rw [if_pos c52] at H
          have c52b0 : decide (a1_1 < (l0_2.length : Int)) = true := decide_eq_true c52
          clear c52
          obtain ⟨bq53, hbq53⟩ : ∃ b_ : Bool, b_ = (rdOf false l0_2 a1_1) := ⟨_, rfl⟩
          replace H : (if bq53 = true then (if a1_1 < (l0_1.length : Int) then (recv_Take.j1 kj5 ((rdOf ByteArray.empty l0_1 a1_1).toList != a1_3.toList) a0_0 l0_1 l0_2 a1_0 a1_1 a1_2 a1_3) else (none)) else (recv_Take.j1 kj5 false a0_0 l0_1 l0_2 a1_0 a1_1 a1_2 a1_3)) = some (r1, r2, r3, r4, r5) := by rw [← hbq53] at H; exact H
          have Nbq53 := Aside0.mk hbq53
          clear hbq53
          by_cases c54 : bq53 = true
          ·subst c54
           have H1 : (if a1_1 < (l0_1.length : Int) then (recv_Take.j1 kj5 ((rdOf ByteArray.empty l0_1 a1_1).toList != a1_3.toList) a0_0 l0_1 l0_2 a1_0 a1_1 a1_2 a1_3) else (none)) = some (r1, r2, r3, r4, r5) := by rw [if_pos rfl] at H; exact H
           clear H
           have H := H1
           clear H1
           by_cases c55 : a1_1 < (l0_1.length : Int)
           ·rw [if_pos c55] at H
            have c55b0 : decide (a1_1 < (l0_1.length : Int)) = true := decide_eq_true c55
            clear c55
            have H' := Aside0.mk H
            clear H
            try go_wp2
            have n0_ := Aside0.mk (Kd.V_drew HO_252001.out)
            have n1_ := Aside0.mk (Kd.V_drew HO_252002.out)
            have n2_ := Aside0.mk (blk_drew BK251.out)
            have n3_ := Aside0.mk (blk_drew BK252.out)
            have n4_ := Aside0.mk (blk_drew BK253.out)
            have n5_ := Aside0.mk (below_drew1 HB.out)
            clear HO_252001
            clear HO_252002
            clear BK251
            clear BK252
            clear BK253
            clear HB
            have HO_252001 := n0_
            have HO_252002 := n1_
            have BK251 := n2_
            have BK252 := n3_
            have BK253 := n4_
            have HB := n5_
            clear n0_ n1_ n2_ n3_ n4_ n5_
            have p255 : 0 ≤ (a1_1 : Int) := ofd_
            have q255 : a1_1 < (l0_2.length : Int) := ofd_
            (first | obtain ⟨ad255, e255, hx255_0⟩ := Kd.at_bool (Kd.V_reads' HO_252002.out).2.2 a1_1 p255 q255 | (obtain ⟨Az_, cz_, ez_⟩ := Kd.V_slice HO_252002.out; subst ez_; obtain ⟨ad255, e255, hx255_0⟩ := Kd.at_bool (Kd.V_reads' HO_252002.out).2.2 a1_1 p255 q255))
            (try rw [← Nbq53.out] at hx255_0)
            cases e255
            replace p255 := eq_true p255
            replace q255 := eq_true q255
            have p256 : 0 ≤ (a1_1 : Int) := ofd_
            have q256 : a1_1 < (l0_1.length : Int) := ofd_
            (first | obtain ⟨ad256, e256, hx256_0⟩ := Kd.at_string (Kd.V_reads' HO_252001.out).2.2 a1_1 p256 q256 | (obtain ⟨Az_, cz_, ez_⟩ := Kd.V_slice HO_252001.out; subst ez_; obtain ⟨ad256, e256, hx256_0⟩ := Kd.at_string (Kd.V_reads' HO_252001.out).2.2 a1_1 p256 q256))
            cases e256
            replace p256 := eq_true p256
            replace q256 := eq_true q256
            refine start_ (n := 18) (S := fun w' => w'.cell? ⟨gb251, 0, none⟩ = some (.int .i64 a0_0) ∧ w'.cell? ⟨gb251, 1, none⟩ = some (.slice (some ad256) l0_1.length c0_1) ∧ w'.cell? ⟨gb251, 2, none⟩ = some (.slice (some ad255) l0_2.length c0_2) ∧ w'.cell? ⟨gb252, 0, none⟩ = some (.int .i64 a1_0) ∧ w'.cell? ⟨gb252, 1, none⟩ = some (.int .i64 a1_1) ∧ w'.cell? ⟨gb252, 2, none⟩ = some (.int .i64 a1_2) ∧ w'.cell? ⟨gb252, 3, none⟩ = some (.string a1_3) ∧ w'.cell? (ad255.add (a1_1).toNat) = some (.bool true) ∧ w'.cell? (ad256.add (a1_1).toNat) = some (.string (rdOf ByteArray.empty l0_1 a1_1))) (ds := []) T33_0 (by kernel_rfl) rfl rfl ⟨(blk_cell BK251.out 0).trans rfl, (blk_cell BK251.out 1).trans rfl, (blk_cell BK251.out 2).trans rfl, (blk_cell BK252.out 0).trans rfl, (blk_cell BK252.out 1).trans rfl, (blk_cell BK252.out 2).trans rfl, (blk_cell BK252.out 3).trans rfl, hx255_0, hx256_0⟩ (fun hHeld => ?_); refine with_tabW recv_Take.tab9 recv_Take.bits9 (fun HT_ HW_ => ?_)
            generalize wc.drew = w56 at HO_252001 HO_252002 BK251 BK252 BK253 HB hx255_0 hx256_0 hHeld ⊢
            refine pure_ (i := 0) (N := some 47) (v := ?_) (a' := ?_) T33_1 rfl rfl (any_of HT_.out (by kernel_rfl)) idq (.inl ⟨by rfl, ?_⟩) ?_ ?_
            rotate_left; ·intro w'; go_simp; with_reducible rfl
            rotate_left; ·simp only [Act.put, sqA, sqB, sqC, i64_w, i32_w]; rfl
            refine pure_ (i := 2) (N := some 49) (v := ?_) (a' := ?_) T33_2 rfl rfl (any_of HT_.out (by kernel_rfl)) idq (.inl ⟨by rfl, ?_⟩) ?_ ?_
            rotate_left; ·intro w'; go_simp; with_reducible rfl
            rotate_left; ·simp only [Act.put, sqA, sqB, sqC, i64_w, i32_w]; rfl
            refine take_ (i := 1) (N := some 48) (v := ?_) (a' := ?_) T33_3 rfl rfl (take_ofW HT_.out HW_.out (by kernel_rfl)) idq (.inl ⟨by rfl, ?_⟩) hHeld ?_ ?_
            rotate_left
            ·rintro w' ⟨s0, s1, s2, s3, s4, s5, s6, s7, s8⟩
             go_simp
             with_reducible rfl
            rotate_left; ·simp only [Act.put, sqA, sqB, sqC, i64_w, i32_w]; rfl
            refine take_ (i := 3) (N := some 50) (v := ?_) (a' := ?_) T33_4 rfl rfl (take_ofW HT_.out HW_.out (by kernel_rfl)) idq (.inl ⟨by rfl, ?_⟩) hHeld ?_ ?_
            rotate_left
            ·rintro w' ⟨s0, s1, s2, s3, s4, s5, s6, s7, s8⟩
             go_simp
             with_reducible rfl
            rotate_left; ·simp only [Act.put, sqA, sqB, sqC, i64_w, i32_w]; rfl
            refine pure_ (i := 4) (N := some 51) (v := ?_) (a' := ?_) T33_5 rfl rfl (any_of HT_.out (by kernel_rfl)) idq (.inl ⟨by rfl, ?_⟩) ?_ ?_
            rotate_left; ·intro w'; go_simp; with_reducible rfl
            rotate_left; ·simp only [Act.put, sqA, sqB, sqC, i64_w, i32_w]; rfl
            refine take_ (i := 5) (N := some 52) (v := ?_) (a' := ?_) T33_6 rfl rfl (take_ofW HT_.out HW_.out (by kernel_rfl)) idq (.inl ⟨by rfl, ?_⟩) hHeld ?_ ?_
            rotate_left
            ·rintro w' ⟨s0, s1, s2, s3, s4, s5, s6, s7, s8⟩
             go_simp
             with_reducible rfl
            rotate_left; ·simp only [Act.put, sqA, sqB, sqC, i64_w, i32_w]; rfl
            refine pure_ (i := 6) (N := some 53) (v := ?_) (a' := ?_) T33_7 rfl rfl (any_of HT_.out (by kernel_rfl)) idq (.inl ⟨by rfl, ?_⟩) ?_ ?_
            rotate_left; ·intro w'; go_simp; with_reducible rfl
            rotate_left; ·simp only [Act.put, sqA, sqB, sqC, i64_w, i32_w]; rfl
            refine pure_ (i := 7) (N := some 54) (v := ?_) (a' := ?_) T33_8 rfl rfl (any_of HT_.out (by kernel_rfl)) idq (.inl ⟨by rfl, ?_⟩) ?_ ?_
            rotate_left; ·intro w'; go_simp; with_reducible rfl
            rotate_left; ·simp only [Act.put, sqA, sqB, sqC, i64_w, i32_w]; rfl
            refine pure_ (i := 9) (N := some 56) (v := ?_) (a' := ?_) T33_9 rfl rfl (any_of HT_.out (by kernel_rfl)) idq (.inl ⟨by rfl, ?_⟩) ?_ ?_
            rotate_left; ·intro w'; go_simp; with_reducible rfl
            rotate_left; ·simp only [Act.put, sqA, sqB, sqC, i64_w, i32_w]; rfl
            refine pure_ (i := 13) (N := some 60) (v := ?_) (a' := ?_) T33_10 rfl rfl (any_of HT_.out (by kernel_rfl)) idq (.inl ⟨by rfl, ?_⟩) ?_ ?_
            rotate_left; ·intro w'; go_simp; with_reducible rfl
            rotate_left; ·simp only [Act.put, sqA, sqB, sqC, i64_w, i32_w]; rfl
            refine take_ (i := 8) (N := some 55) (v := ?_) (a' := ?_) T33_11 rfl rfl (take_ofW HT_.out HW_.out (by kernel_rfl)) idq (.inl ⟨by rfl, ?_⟩) hHeld ?_ ?_
            rotate_left
            ·rintro w' ⟨s0, s1, s2, s3, s4, s5, s6, s7, s8⟩
             go_simp
             with_reducible rfl
            rotate_left; ·simp only [Act.put, sqA, sqB, sqC, i64_w, i32_w]; rfl
            refine take_ (i := 10) (N := some 57) (v := ?_) (a' := ?_) T33_12 rfl rfl (take_ofW HT_.out HW_.out (by kernel_rfl)) idq (.inl ⟨by rfl, ?_⟩) hHeld ?_ ?_
            rotate_left
            ·rintro w' ⟨s0, s1, s2, s3, s4, s5, s6, s7, s8⟩
             go_simp
             with_reducible rfl
            rotate_left; ·simp only [Act.put, sqA, sqB, sqC, i64_w, i32_w]; rfl
            refine pure_ (i := 11) (N := some 58) (v := ?_) (a' := ?_) T33_13 rfl rfl (any_of HT_.out (by kernel_rfl)) idq (.inl ⟨by rfl, ?_⟩) ?_ ?_
            rotate_left; ·intro w'; go_simp; with_reducible rfl
            rotate_left; ·simp only [Act.put, sqA, sqB, sqC, i64_w, i32_w]; rfl
            refine take_ (i := 12) (N := some 59) (v := ?_) (a' := ?_) T33_14 rfl rfl (take_ofW HT_.out HW_.out (by kernel_rfl)) idq (.inl ⟨by rfl, ?_⟩) hHeld ?_ ?_
            rotate_left
            ·rintro w' ⟨s0, s1, s2, s3, s4, s5, s6, s7, s8⟩
             go_simp
             with_reducible rfl
            rotate_left; ·simp only [Act.put, sqA, sqB, sqC, i64_w, i32_w]; rfl
            refine take_ (i := 14) (N := some 61) (v := ?_) (a' := ?_) T33_15 rfl rfl (take_ofW HT_.out HW_.out (by kernel_rfl)) idq (.inl ⟨by rfl, ?_⟩) hHeld ?_ ?_
            rotate_left
            ·rintro w' ⟨s0, s1, s2, s3, s4, s5, s6, s7, s8⟩
             go_simp
             with_reducible rfl
            rotate_left; ·simp only [Act.put, sqA, sqB, sqC, i64_w, i32_w]; rfl
            refine pure_ (i := 15) (N := some 62) (v := ?_) (a' := ?_) T33_16 rfl rfl (any_of HT_.out (by kernel_rfl)) idq (.inl ⟨by rfl, ?_⟩) ?_ ?_
            rotate_left; ·intro w'; go_simp; with_reducible rfl
            rotate_left; ·simp only [Act.put, sqA, sqB, sqC, i64_w, i32_w]; rfl
            refine pure_ (i := 16) (N := some 63) (v := ?_) (a' := ?_) T33_17 rfl rfl (any_of HT_.out (by kernel_rfl)) idq (.inl ⟨by rfl, ?_⟩) ?_ ?_
            rotate_left; ·intro w'; go_simp; with_reducible rfl
            rotate_left; ·simp only [Act.put, sqA, sqB, sqC, i64_w, i32_w]; rfl
            refine pure_ (i := 17) (N := some 46) (v := ?_) (a' := ?_) T33_18 rfl rfl (any_of HT_.out (by kernel_rfl)) idq (.inl ⟨by rfl, ?_⟩) ?_ ?_
            rotate_left; ·intro w'; go_simp; with_reducible rfl
            rotate_left; ·simp only [Act.put, sqA, sqB, sqC, i64_w, i32_w]; rfl
            refine done_ (done_of HT_.out (by kernel_rfl)) ?_
            try go_wp2
            go_meet
            case rel => exact ⟨_, (((rdOf ByteArray.empty l0_1 a1_1).toList != a1_3.toList)), (by first | rfl | (simp; done) | (simp [*]; done)), H', ⟨by have := HJ5.out; first | omega | exact Nat.le_refl _⟩, ⟨by (with_reducible repeat (first | apply Kd.V_alloc | apply Kd.V_drewN | apply Kd.V_drew)); exact HO_252001.out⟩, ⟨by (with_reducible repeat (first | apply Kd.V_alloc | apply Kd.V_drewN | apply Kd.V_drew)); exact HO_252002.out⟩, ⟨by (with_reducible repeat (first | apply bkN | apply bkD | apply bkA)); exact BK251.out⟩, ⟨by (with_reducible repeat (first | apply bkN | apply bkD | apply bkA)); exact BK252.out⟩, ⟨by (with_reducible repeat (first | apply bkN | apply bkD | apply bkA)); exact BK253.out⟩, ⟨by repeat (first | (with_reducible first | exact HB.out | apply bwA | apply bwN | apply bwD | refine below_set ?_ GE251.out | refine below_set ?_ GE252.out | refine below_set ?_ GE253.out) | exact HB.out)⟩⟩
           ·rw [if_neg c55] at H
            exact absurd H (by simp)
          ·replace c54 := Bool.eq_false_iff.mpr c54
           subst c54
           have H1 : (recv_Take.j1 kj5 false a0_0 l0_1 l0_2 a1_0 a1_1 a1_2 a1_3) = some (r1, r2, r3, r4, r5) := by rw [if_neg (show ¬ (false = true) by decide)] at H; exact H
           clear H
           have H := H1
           clear H1
           have H' := Aside0.mk H
           clear H
           try go_wp2
           have n0_ := Aside0.mk (Kd.V_drew HO_252001.out)
           have n1_ := Aside0.mk (Kd.V_drew HO_252002.out)
           have n2_ := Aside0.mk (blk_drew BK251.out)
           have n3_ := Aside0.mk (blk_drew BK252.out)
           have n4_ := Aside0.mk (blk_drew BK253.out)
           have n5_ := Aside0.mk (below_drew1 HB.out)
           clear HO_252001
           clear HO_252002
           clear BK251
           clear BK252
           clear BK253
           clear HB
           have HO_252001 := n0_
           have HO_252002 := n1_
           have BK251 := n2_
           have BK252 := n3_
           have BK253 := n4_
           have HB := n5_
           clear n0_ n1_ n2_ n3_ n4_ n5_
           have p255 : 0 ≤ (a1_1 : Int) := ofd_
           have q255 : a1_1 < (l0_2.length : Int) := ofd_
           (first | obtain ⟨ad255, e255, hx255_0⟩ := Kd.at_bool (Kd.V_reads' HO_252002.out).2.2 a1_1 p255 q255 | (obtain ⟨Az_, cz_, ez_⟩ := Kd.V_slice HO_252002.out; subst ez_; obtain ⟨ad255, e255, hx255_0⟩ := Kd.at_bool (Kd.V_reads' HO_252002.out).2.2 a1_1 p255 q255))
           (try rw [← Nbq53.out] at hx255_0)
           cases e255
           replace p255 := eq_true p255
           replace q255 := eq_true q255
           refine start_ (n := 18) (S := fun w' => w'.cell? ⟨gb251, 0, none⟩ = some (.int .i64 a0_0) ∧ w'.cell? ⟨gb251, 1, none⟩ = some (.slice A0_1 l0_1.length c0_1) ∧ w'.cell? ⟨gb251, 2, none⟩ = some (.slice (some ad255) l0_2.length c0_2) ∧ w'.cell? ⟨gb252, 0, none⟩ = some (.int .i64 a1_0) ∧ w'.cell? ⟨gb252, 1, none⟩ = some (.int .i64 a1_1) ∧ w'.cell? ⟨gb252, 2, none⟩ = some (.int .i64 a1_2) ∧ w'.cell? ⟨gb252, 3, none⟩ = some (.string a1_3) ∧ w'.cell? (ad255.add (a1_1).toNat) = some (.bool false)) (ds := []) T33_0 (by kernel_rfl) rfl rfl ⟨(blk_cell BK251.out 0).trans rfl, (blk_cell BK251.out 1).trans rfl, (blk_cell BK251.out 2).trans rfl, (blk_cell BK252.out 0).trans rfl, (blk_cell BK252.out 1).trans rfl, (blk_cell BK252.out 2).trans rfl, (blk_cell BK252.out 3).trans rfl, hx255_0⟩ (fun hHeld => ?_); refine with_tabW recv_Take.tab9 recv_Take.bits9 (fun HT_ HW_ => ?_)
           generalize wc.drew = w57 at HO_252001 HO_252002 BK251 BK252 BK253 HB hx255_0 hHeld ⊢
           refine pure_ (i := 0) (N := some 47) (v := ?_) (a' := ?_) T33_1 rfl rfl (any_of HT_.out (by kernel_rfl)) idq (.inl ⟨by rfl, ?_⟩) ?_ ?_
           rotate_left; ·intro w'; go_simp; with_reducible rfl
           rotate_left; ·simp only [Act.put, sqA, sqB, sqC, i64_w, i32_w]; rfl
           refine pure_ (i := 2) (N := some 49) (v := ?_) (a' := ?_) T33_2 rfl rfl (any_of HT_.out (by kernel_rfl)) idq (.inl ⟨by rfl, ?_⟩) ?_ ?_
           rotate_left; ·intro w'; go_simp; with_reducible rfl
           rotate_left; ·simp only [Act.put, sqA, sqB, sqC, i64_w, i32_w]; rfl
           refine take_ (i := 1) (N := some 48) (v := ?_) (a' := ?_) T33_3 rfl rfl (take_ofW HT_.out HW_.out (by kernel_rfl)) idq (.inl ⟨by rfl, ?_⟩) hHeld ?_ ?_
           rotate_left
           ·rintro w' ⟨s0, s1, s2, s3, s4, s5, s6, s7⟩
            go_simp
            with_reducible rfl
           rotate_left; ·simp only [Act.put, sqA, sqB, sqC, i64_w, i32_w]; rfl
           refine take_ (i := 3) (N := some 50) (v := ?_) (a' := ?_) T33_4 rfl rfl (take_ofW HT_.out HW_.out (by kernel_rfl)) idq (.inl ⟨by rfl, ?_⟩) hHeld ?_ ?_
           rotate_left
           ·rintro w' ⟨s0, s1, s2, s3, s4, s5, s6, s7⟩
            go_simp
            with_reducible rfl
           rotate_left; ·simp only [Act.put, sqA, sqB, sqC, i64_w, i32_w]; rfl
           refine pure_ (i := 4) (N := some 51) (v := ?_) (a' := ?_) T33_5 rfl rfl (any_of HT_.out (by kernel_rfl)) idq (.inl ⟨by rfl, ?_⟩) ?_ ?_
           rotate_left; ·intro w'; go_simp; with_reducible rfl
           rotate_left; ·simp only [Act.put, sqA, sqB, sqC, i64_w, i32_w]; rfl
           refine take_ (i := 5) (N := some 52) (v := ?_) (a' := ?_) T33_6 rfl rfl (take_ofW HT_.out HW_.out (by kernel_rfl)) idq (.inl ⟨by rfl, ?_⟩) hHeld ?_ ?_
           rotate_left
           ·rintro w' ⟨s0, s1, s2, s3, s4, s5, s6, s7⟩
            go_simp
            with_reducible rfl
           rotate_left; ·simp only [Act.put, sqA, sqB, sqC, i64_w, i32_w]; rfl
           refine pure_ (i := 6) (N := some 53) (v := ?_) (a' := ?_) T33_7 rfl rfl (any_of HT_.out (by kernel_rfl)) idq (.inl ⟨by rfl, ?_⟩) ?_ ?_
           rotate_left; ·intro w'; go_simp; with_reducible rfl
           rotate_left; ·simp only [Act.put, sqA, sqB, sqC, i64_w, i32_w]; rfl
           refine pure_ (i := 7) (N := some 54) (v := undef) (a' := ?_) T33_8 rfl rfl (any_of HT_.out (by kernel_rfl)) (fun _ _ _ h => h) (Or.inr ⟨by rfl, rfl⟩) ?_ ?_
           rotate_left; ·simp only [Act.put, sqA, sqB, sqC, i64_w, i32_w]; rfl
           refine pure_ (i := 8) (N := some 55) (v := undef) (a' := ?_) T33_19 rfl rfl (any_of HT_.out (by kernel_rfl)) (fun _ _ _ h => h) (Or.inr ⟨by rfl, rfl⟩) ?_ ?_
           rotate_left; ·simp only [Act.put, sqA, sqB, sqC, i64_w, i32_w]; rfl
           refine pure_ (i := 9) (N := some 56) (v := undef) (a' := ?_) T33_20 rfl rfl (any_of HT_.out (by kernel_rfl)) (fun _ _ _ h => h) (Or.inr ⟨by rfl, rfl⟩) ?_ ?_
           rotate_left; ·simp only [Act.put, sqA, sqB, sqC, i64_w, i32_w]; rfl
           refine pure_ (i := 10) (N := some 57) (v := undef) (a' := ?_) T33_21 rfl rfl (any_of HT_.out (by kernel_rfl)) (fun _ _ _ h => h) (Or.inr ⟨by rfl, rfl⟩) ?_ ?_
           rotate_left; ·simp only [Act.put, sqA, sqB, sqC, i64_w, i32_w]; rfl
           refine pure_ (i := 11) (N := some 58) (v := undef) (a' := ?_) T33_22 rfl rfl (any_of HT_.out (by kernel_rfl)) (fun _ _ _ h => h) (Or.inr ⟨by rfl, rfl⟩) ?_ ?_
           rotate_left; ·simp only [Act.put, sqA, sqB, sqC, i64_w, i32_w]; rfl
           refine pure_ (i := 12) (N := some 59) (v := undef) (a' := ?_) T33_23 rfl rfl (any_of HT_.out (by kernel_rfl)) (fun _ _ _ h => h) (Or.inr ⟨by rfl, rfl⟩) ?_ ?_
           rotate_left; ·simp only [Act.put, sqA, sqB, sqC, i64_w, i32_w]; rfl
           refine pure_ (i := 13) (N := some 60) (v := undef) (a' := ?_) T33_14 rfl rfl (any_of HT_.out (by kernel_rfl)) (fun _ _ _ h => h) (Or.inr ⟨by rfl, rfl⟩) ?_ ?_
           rotate_left; ·simp only [Act.put, sqA, sqB, sqC, i64_w, i32_w]; rfl
           refine pure_ (i := 14) (N := some 61) (v := undef) (a' := ?_) T33_15 rfl rfl (any_of HT_.out (by kernel_rfl)) (fun _ _ _ h => h) (Or.inr ⟨by rfl, rfl⟩) ?_ ?_
           rotate_left; ·simp only [Act.put, sqA, sqB, sqC, i64_w, i32_w]; rfl
           refine pure_ (i := 15) (N := some 62) (v := undef) (a' := ?_) T33_16 rfl rfl (any_of HT_.out (by kernel_rfl)) (fun _ _ _ h => h) (Or.inr ⟨by rfl, rfl⟩) ?_ ?_
           rotate_left; ·simp only [Act.put, sqA, sqB, sqC, i64_w, i32_w]; rfl
           refine pure_ (i := 16) (N := some 63) (v := ?_) (a' := ?_) T33_17 rfl rfl (any_of HT_.out (by kernel_rfl)) idq (.inl ⟨by rfl, ?_⟩) ?_ ?_
           rotate_left; ·intro w'; go_simp; with_reducible rfl
           rotate_left; ·simp only [Act.put, sqA, sqB, sqC, i64_w, i32_w]; rfl
           refine pure_ (i := 17) (N := some 46) (v := ?_) (a' := ?_) T33_18 rfl rfl (any_of HT_.out (by kernel_rfl)) idq (.inl ⟨by rfl, ?_⟩) ?_ ?_
           rotate_left; ·intro w'; go_simp; with_reducible rfl
           rotate_left; ·simp only [Act.put, sqA, sqB, sqC, i64_w, i32_w]; rfl
           refine done_ (done_of HT_.out (by kernel_rfl)) ?_
           try go_wp2
           go_meet
           case rel => exact ⟨_, (false), (by first | rfl | (simp; done) | (simp [*]; done)), H', ⟨by have := HJ5.out; first | omega | exact Nat.le_refl _⟩, ⟨by (with_reducible repeat (first | apply Kd.V_alloc | apply Kd.V_drewN | apply Kd.V_drew)); exact HO_252001.out⟩, ⟨by (with_reducible repeat (first | apply Kd.V_alloc | apply Kd.V_drewN | apply Kd.V_drew)); exact HO_252002.out⟩, ⟨by (with_reducible repeat (first | apply bkN | apply bkD | apply bkA)); exact BK251.out⟩, ⟨by (with_reducible repeat (first | apply bkN | apply bkD | apply bkA)); exact BK252.out⟩, ⟨by (with_reducible repeat (first | apply bkN | apply bkD | apply bkA)); exact BK253.out⟩, ⟨by repeat (first | (with_reducible first | exact HB.out | apply bwA | apply bwN | apply bwD | refine below_set ?_ GE251.out | refine below_set ?_ GE252.out | refine below_set ?_ GE253.out) | exact HB.out)⟩⟩
         ·rw [if_neg c52] at H
          exact absurd H (by simp)
        ·rw [if_neg c51] at H
         exact absurd H (by simp)
       case rest =>
        clear HC47
        try clear c1
        try clear c2
        try clear p2
        try clear q2
        try clear hx2
        try clear c3
        try clear c4
        try clear c5
        try clear c5b0
        try clear c5b1
        try clear q5
        try clear c10
        try clear c11
        try clear c14
        try clear c17
        try clear c17b0
        try clear c17b1
        try clear c18
        try clear c18b0
        try clear c19
        try clear c20
        try clear c22
        try clear c24
        try clear c25
        try clear p25
        try clear q25
        try clear hx25
        try clear c27
        try clear c29
        try clear c30
        try clear c32
        try clear c34
        try clear c35
        try clear c36
        try clear c38
        try clear c40
        try clear c40b0
        try clear c40b1
        try clear c41
        try clear c42
        try clear c44
        try clear c48
        try clear c49
        try clear c51
        try clear c51b0
        try clear c52
        try clear c52b0
        try clear q53
        try clear c54
        try clear c55
        try clear c55b0
        try clear hcz12_0
        try clear hcz12_1
        try clear hcz12_2
        try clear hcz15_0
        try clear hcz15_1
        try clear hcz15_2
        try clear hcz15_3
        try clear hcz16_0
        try clear hcz16_1
        try clear hcz16_2
        try clear hcz21_0
        try clear hcz21_1
        try clear hcz21_2
        try clear hcz21_3
        try clear hcz23_0
        try clear hcz23_1
        try clear hcz23_2
        try clear hcz26_0
        try clear hcz26_1
        try clear hcz26_2
        try clear hcz26_3
        try clear hcz28_0
        try clear hcz28_1
        try clear hcz28_2
        try clear hcz31_0
        try clear hcz31_1
        try clear hcz31_2
        try clear hcz31_3
        try clear hcz33_0
        try clear hcz33_1
        try clear hcz33_2
        try clear hcz37_0
        try clear hcz37_1
        try clear hcz37_2
        try clear hcz39_0
        try clear hcz39_1
        try clear hcz39_2
        try clear hcz43_0
        try clear hcz43_1
        try clear hcz43_2
        try clear hcz43_3
        try clear hcz45_0
        try clear hcz45_1
        try clear hcz45_2
        try clear hcz46_0
        try clear hcz46_1
        try clear hcz46_2
        try clear hcz50_0
        try clear hcz50_1
        try clear hcz50_2
        try clear hcz50_3
        try clear hfz12_0
        try clear hfz12_1
        try clear hfz12_2
        try clear hfz15_0
        try clear hfz15_1
        try clear hfz15_2
        try clear hfz15_3
        try clear hfz16_0
        try clear hfz16_1
        try clear hfz16_2
        try clear hfz21_0
        try clear hfz21_1
        try clear hfz21_2
        try clear hfz21_3
        try clear hfz23_0
        try clear hfz23_1
        try clear hfz23_2
        try clear hfz26_0
        try clear hfz26_1
        try clear hfz26_2
        try clear hfz26_3
        try clear hfz28_0
        try clear hfz28_1
        try clear hfz28_2
        try clear hfz31_0
        try clear hfz31_1
        try clear hfz31_2
        try clear hfz31_3
        try clear hfz33_0
        try clear hfz33_1
        try clear hfz33_2
        try clear hfz37_0
        try clear hfz37_1
        try clear hfz37_2
        try clear hfz39_0
        try clear hfz39_1
        try clear hfz39_2
        try clear hfz43_0
        try clear hfz43_1
        try clear hfz43_2
        try clear hfz43_3
        try clear hfz45_0
        try clear hfz45_1
        try clear hfz45_2
        try clear hfz46_0
        try clear hfz46_1
        try clear hfz46_2
        try clear hfz50_0
        try clear hfz50_1
        try clear hfz50_2
        try clear hfz50_3
        try clear hx255_0
        try clear hx256_0
        try clear p2
        try clear p255
        try clear p256
        try clear q255
        try clear q256
        obtain ⟨kq, x46_46, rfl, HA, HJ46, HO_252001, HO_252002, BK251, BK252, BK253, HB⟩ := hcut
        cases kq with
        | zero => exact absurd HA.out (by simp [recv_Take.j1])
        | succ kj46 =>
         have H := HA.out
         clear HA
         simp only [recv_Take.j1] at H
         by_cases c58 : x46_46 = true
         ·subst c58
          have H1 : (some (a0_0, l0_1, l0_2, false, 9)) = some (r1, r2, r3, r4, r5) := by rw [if_pos rfl] at H; exact H
          clear H
          have H := H1
          clear H1
          simp only [Option.some.injEq, Prod.mk.injEq] at H
          obtain ⟨rfl, rfl, rfl, rfl, rfl⟩ := H
          have hnb59 := NB251_252.out
          have hnc59 := NB252_251.out
          have hnb60 := NB251_253.out
          have hnc60 := NB253_251.out
          have hcz61_0 : wc.cell? ⟨gb251, 0, none⟩ = some (.int .i64 a0_0) := (blk_cell BK251.out 0).trans rfl
          have hcz61_1 : wc.cell? ⟨gb251, 1, none⟩ = some (.slice A0_1 l0_1.length c0_1) := (blk_cell BK251.out 1).trans rfl
          have hcz61_2 : wc.cell? ⟨gb251, 2, none⟩ = some (.slice A0_2 l0_2.length c0_2) := (blk_cell BK251.out 2).trans rfl
          have hfz61_0 := blk_frozen BK251.out 0
          have hfz61_1 := blk_frozen BK251.out 1
          have hfz61_2 := blk_frozen BK251.out 2
          have hnb62 := NB253_252.out
          have hnc62 := NB252_253.out
          have hcz63_0 : wc.cell? ⟨gb253, 0, none⟩ = some (.int .i64 0) := (blk_cell BK253.out 0).trans rfl
          have hcz63_1 : wc.cell? ⟨gb253, 1, none⟩ = some (.slice none 0 0) := (blk_cell BK253.out 1).trans rfl
          have hcz63_2 : wc.cell? ⟨gb253, 2, none⟩ = some (.slice none 0 0) := (blk_cell BK253.out 2).trans rfl
          have hfz63_0 := blk_frozen BK253.out 0
          have hfz63_1 := blk_frozen BK253.out 1
          have hfz63_2 := blk_frozen BK253.out 2
          go_wp2
          refine bodyPost_ret (results_ctt rfl _ _ gb253 50 #[.int .i64 a0_0, .slice A0_1 l0_1.length c0_1, .slice A0_2 l0_2.length c0_2] (0, 0) _ rfl (by (with_reducible repeat (first | apply bkN | apply bkD | apply bkA)); refine blk_put (cs := #[.int .i64 a0_0, .slice A0_1 l0_1.length c0_1, .slice none 0 0]) ?_ 2 _ rfl; (with_reducible repeat (first | apply bkN | apply bkD | apply bkA)); refine blk_put (cs := #[.int .i64 a0_0, .slice none 0 0, .slice none 0 0]) ?_ 1 _ rfl; (with_reducible repeat (first | apply bkN | apply bkD | apply bkA)); refine blk_put (cs := #[.int .i64 0, .slice none 0 0, .slice none 0 0]) ?_ 0 _ rfl; (with_reducible repeat (first | apply bkN | apply bkD | apply bkA)); exact BK253.out) Try.underlying50 rfl (by kernel_rfl)) rfl ?_
          exact ⟨_, _, by first | rfl | (simp [errW_none, errW_some] <;> rfl) | (simp [*, errW_none, errW_some] <;> rfl), by (with_reducible repeat (first | apply Kd.V_alloc | apply Kd.V_drewN | apply Kd.V_drew)); exact Kd.V_mono (Kd.V_far (p := ⟨gb253, 2, none⟩) (Kd.V_far (p := ⟨gb253, 1, none⟩) (Kd.V_far (p := ⟨gb253, 0, none⟩) (Kd.V_mono HO_252001.out (fun k_ hk => (⟨hk, hk.2.2.2⟩ : _ ∧ k_ ≠ gb253))) (fun _ hk => hk.2) (.int .i64 a0_0)) (fun _ hk => hk.2) (.slice A0_1 l0_1.length c0_1)) (fun _ hk => hk.2) (.slice A0_2 l0_2.length c0_2)) (fun _ hk => hk.1.1), by (with_reducible repeat (first | apply Kd.V_alloc | apply Kd.V_drewN | apply Kd.V_drew)); exact Kd.V_mono (Kd.V_far (p := ⟨gb253, 2, none⟩) (Kd.V_far (p := ⟨gb253, 1, none⟩) (Kd.V_far (p := ⟨gb253, 0, none⟩) (Kd.V_mono HO_252002.out (fun k_ hk => (⟨hk, hk.2.2.2⟩ : _ ∧ k_ ≠ gb253))) (fun _ hk => hk.2) (.int .i64 a0_0)) (fun _ hk => hk.2) (.slice A0_1 l0_1.length c0_1)) (fun _ hk => hk.2) (.slice A0_2 l0_2.length c0_2)) (fun _ hk => hk.1.1), by repeat (first | (with_reducible first | exact HB.out | apply bwA | apply bwN | apply bwD | refine below_set ?_ GE251.out | refine below_set ?_ GE252.out | refine below_set ?_ GE253.out) | exact HB.out)⟩
         ·replace c58 := Bool.eq_false_iff.mpr c58
          subst c58
          have H1 : (if 0 ≤ a1_1 then (if a1_1 < (l0_2.length : Int) then (if rdOf false l0_2 a1_1 = true then (some (a0_0, l0_1, l0_2, false, 0)) else ((slices_Clone_string_string.f l0_1).bind fun t258 => ((slices_Clone_bool_bool.f l0_2).bind fun t261 => (if a1_1 < (t258.length : Int) then (if a1_1 < (t261.length : Int) then (some (a0_0, (t258.set (a1_1 : Int).toNat a1_3), (t261.set (a1_1 : Int).toNat true), true, 0)) else (none)) else (none))))) else (none)) else (none)) = some (r1, r2, r3, r4, r5) := by rw [if_neg (show ¬ (false = true) by decide)] at H; exact H
          clear H
          have H := H1
          clear H1
          by_cases c64 : 0 ≤ a1_1
          ·rw [if_pos c64] at H
           have c64b0 : decide (0 ≤ a1_1) = true := decide_eq_true c64
           clear c64
           by_cases c65 : a1_1 < (l0_2.length : Int)
           ·rw [if_pos c65] at H
            have c65b0 : decide (a1_1 < (l0_2.length : Int)) = true := decide_eq_true c65
            clear c65
            obtain ⟨bq66, hbq66⟩ : ∃ b_ : Bool, b_ = (rdOf false l0_2 a1_1) := ⟨_, rfl⟩
            replace H : (if bq66 = true then (some (a0_0, l0_1, l0_2, false, 0)) else ((slices_Clone_string_string.f l0_1).bind fun t258 => ((slices_Clone_bool_bool.f l0_2).bind fun t261 => (if a1_1 < (t258.length : Int) then (if a1_1 < (t261.length : Int) then (some (a0_0, (t258.set (a1_1 : Int).toNat a1_3), (t261.set (a1_1 : Int).toNat true), true, 0)) else (none)) else (none))))) = some (r1, r2, r3, r4, r5) := by rw [← hbq66] at H; exact H
            have Nbq66 := Aside0.mk hbq66
            clear hbq66
            by_cases c67 : bq66 = true
            ·subst c67
             have H1 : (some (a0_0, l0_1, l0_2, false, 0)) = some (r1, r2, r3, r4, r5) := by rw [if_pos rfl] at H; exact H
             clear H
             have H := H1
             clear H1
             simp only [Option.some.injEq, Prod.mk.injEq] at H
             obtain ⟨rfl, rfl, rfl, rfl, rfl⟩ := H
             have hnb68 := NB251_252.out
             have hnc68 := NB252_251.out
             have hnb69 := NB251_253.out
             have hnc69 := NB253_251.out
             have hcz70_0 : wc.cell? ⟨gb251, 0, none⟩ = some (.int .i64 a0_0) := (blk_cell BK251.out 0).trans rfl
             have hcz70_1 : wc.cell? ⟨gb251, 1, none⟩ = some (.slice A0_1 l0_1.length c0_1) := (blk_cell BK251.out 1).trans rfl
             have hcz70_2 : wc.cell? ⟨gb251, 2, none⟩ = some (.slice A0_2 l0_2.length c0_2) := (blk_cell BK251.out 2).trans rfl
             have hfz70_0 := blk_frozen BK251.out 0
             have hfz70_1 := blk_frozen BK251.out 1
             have hfz70_2 := blk_frozen BK251.out 2
             have hnb71 := NB252_253.out
             have hnc71 := NB253_252.out
             have hcz72_0 : wc.cell? ⟨gb252, 0, none⟩ = some (.int .i64 a1_0) := (blk_cell BK252.out 0).trans rfl
             have hcz72_1 : wc.cell? ⟨gb252, 1, none⟩ = some (.int .i64 a1_1) := (blk_cell BK252.out 1).trans rfl
             have hcz72_2 : wc.cell? ⟨gb252, 2, none⟩ = some (.int .i64 a1_2) := (blk_cell BK252.out 2).trans rfl
             have hcz72_3 : wc.cell? ⟨gb252, 3, none⟩ = some (.string a1_3) := (blk_cell BK252.out 3).trans rfl
             have hfz72_0 := blk_frozen BK252.out 0
             have hfz72_1 := blk_frozen BK252.out 1
             have hfz72_2 := blk_frozen BK252.out 2
             have hfz72_3 := blk_frozen BK252.out 3
             have p257 : 0 ≤ (a1_1 : Int) := ofd_
             have q257 : a1_1 < (l0_2.length : Int) := ofd_
             (first | obtain ⟨ad257, e257, hx257_0⟩ := Kd.at_bool (Kd.V_reads' HO_252002.out).2.2 a1_1 p257 q257 | (obtain ⟨Az_, cz_, ez_⟩ := Kd.V_slice HO_252002.out; subst ez_; obtain ⟨ad257, e257, hx257_0⟩ := Kd.at_bool (Kd.V_reads' HO_252002.out).2.2 a1_1 p257 q257))
             (try rw [← Nbq66.out] at hx257_0)
             cases e257
             replace p257 := eq_true p257
             replace q257 := eq_true q257
             have hcz73_0 : wc.cell? ⟨gb253, 0, none⟩ = some (.int .i64 0) := (blk_cell BK253.out 0).trans rfl
             have hcz73_1 : wc.cell? ⟨gb253, 1, none⟩ = some (.slice none 0 0) := (blk_cell BK253.out 1).trans rfl
             have hcz73_2 : wc.cell? ⟨gb253, 2, none⟩ = some (.slice none 0 0) := (blk_cell BK253.out 2).trans rfl
             have hfz73_0 := blk_frozen BK253.out 0
             have hfz73_1 := blk_frozen BK253.out 1
             have hfz73_2 := blk_frozen BK253.out 2
             go_wp2
             refine bodyPost_ret (results_ctt rfl _ _ gb253 50 #[.int .i64 a0_0, .slice A0_1 l0_1.length c0_1, .slice (some ad257) l0_2.length c0_2] (0, 0) _ rfl (by (with_reducible repeat (first | apply bkN | apply bkD | apply bkA)); refine blk_put (cs := #[.int .i64 a0_0, .slice A0_1 l0_1.length c0_1, .slice none 0 0]) ?_ 2 _ rfl; (with_reducible repeat (first | apply bkN | apply bkD | apply bkA)); refine blk_put (cs := #[.int .i64 a0_0, .slice none 0 0, .slice none 0 0]) ?_ 1 _ rfl; (with_reducible repeat (first | apply bkN | apply bkD | apply bkA)); refine blk_put (cs := #[.int .i64 0, .slice none 0 0, .slice none 0 0]) ?_ 0 _ rfl; (with_reducible repeat (first | apply bkN | apply bkD | apply bkA)); exact BK253.out) Try.underlying50 rfl (by kernel_rfl)) rfl ?_
             exact ⟨_, _, by first | rfl | (simp [errW_none, errW_some] <;> rfl) | (simp [*, errW_none, errW_some] <;> rfl), by (with_reducible repeat (first | apply Kd.V_alloc | apply Kd.V_drewN | apply Kd.V_drew)); exact Kd.V_mono (Kd.V_far (p := ⟨gb253, 2, none⟩) (Kd.V_far (p := ⟨gb253, 1, none⟩) (Kd.V_far (p := ⟨gb253, 0, none⟩) (Kd.V_mono HO_252001.out (fun k_ hk => (⟨hk, hk.2.2.2⟩ : _ ∧ k_ ≠ gb253))) (fun _ hk => hk.2) (.int .i64 a0_0)) (fun _ hk => hk.2) (.slice A0_1 l0_1.length c0_1)) (fun _ hk => hk.2) (.slice (some ad257) l0_2.length c0_2)) (fun _ hk => hk.1.1), by (with_reducible repeat (first | apply Kd.V_alloc | apply Kd.V_drewN | apply Kd.V_drew)); exact Kd.V_mono (Kd.V_far (p := ⟨gb253, 2, none⟩) (Kd.V_far (p := ⟨gb253, 1, none⟩) (Kd.V_far (p := ⟨gb253, 0, none⟩) (Kd.V_mono HO_252002.out (fun k_ hk => (⟨hk, hk.2.2.2⟩ : _ ∧ k_ ≠ gb253))) (fun _ hk => hk.2) (.int .i64 a0_0)) (fun _ hk => hk.2) (.slice A0_1 l0_1.length c0_1)) (fun _ hk => hk.2) (.slice (some ad257) l0_2.length c0_2)) (fun _ hk => hk.1.1), by repeat (first | (with_reducible first | exact HB.out | apply bwA | apply bwN | apply bwD | refine below_set ?_ GE251.out | refine below_set ?_ GE252.out | refine below_set ?_ GE253.out) | exact HB.out)⟩
            ·replace c67 := Bool.eq_false_iff.mpr c67
             subst c67
             have H1 : ((slices_Clone_string_string.f l0_1).bind fun t258 => ((slices_Clone_bool_bool.f l0_2).bind fun t261 => (if a1_1 < (t258.length : Int) then (if a1_1 < (t261.length : Int) then (some (a0_0, (t258.set (a1_1 : Int).toNat a1_3), (t261.set (a1_1 : Int).toNat true), true, 0)) else (none)) else (none)))) = some (r1, r2, r3, r4, r5) := by rw [if_neg (show ¬ (false = true) by decide)] at H; exact H
             clear H
             have H := H1
             clear H1
             replace H := Option.bind_eq_some_iff.mp H
             obtain ⟨t258, A740, H⟩ := H
             replace H : ((slices_Clone_bool_bool.f l0_2).bind fun t261 => (if a1_1 < (t258.length : Int) then (if a1_1 < (t261.length : Int) then (some (a0_0, (t258.set (a1_1 : Int).toNat a1_3), (t261.set (a1_1 : Int).toNat true), true, 0)) else (none)) else (none))) = some (r1, r2, r3, r4, r5) := H
             have A74 := Aside0.mk A740
             clear A740
             replace H := Option.bind_eq_some_iff.mp H
             obtain ⟨t261, A750, H⟩ := H
             replace H : (if a1_1 < (t258.length : Int) then (if a1_1 < (t261.length : Int) then (some (a0_0, (t258.set (a1_1 : Int).toNat a1_3), (t261.set (a1_1 : Int).toNat true), true, 0)) else (none)) else (none)) = some (r1, r2, r3, r4, r5) := H
             have A75 := Aside0.mk A750
             clear A750
             by_cases c76 : a1_1 < (t258.length : Int)
             ·rw [if_pos c76] at H
              have c76b0 : decide (a1_1 < (t258.length : Int)) = true := decide_eq_true c76
              clear c76
              obtain ⟨y264, hy264⟩ : ∃ y_ : List ByteArray, y_ = (t258.set (a1_1 : Int).toNat a1_3) := ⟨_, rfl⟩
              replace H : (if a1_1 < (t261.length : Int) then (some (a0_0, y264, (t261.set (a1_1 : Int).toNat true), true, 0)) else (none)) = some (r1, r2, r3, r4, r5) := by first | (rw [hy264]; with_reducible exact H) | (have H2_ := (Option.bind_some _ _).symm.trans H; rw [hy264]; with_reducible exact H2_) | (have H2_ := (Option.bind_some _ _).symm.trans H; with_reducible exact H2_) | with_reducible exact H | (rw [hy264]; exact H) | exact H
              have Ny264 := Aside0.mk hy264
              clear hy264
              by_cases c78 : a1_1 < (t261.length : Int)
              ·rw [if_pos c78] at H
               have c78b0 : decide (a1_1 < (t261.length : Int)) = true := decide_eq_true c78
               clear c78
               obtain ⟨y265, hy265⟩ : ∃ y_ : List Bool, y_ = (t261.set (a1_1 : Int).toNat true) := ⟨_, rfl⟩
               replace H : (some (a0_0, y264, y265, true, 0)) = some (r1, r2, r3, r4, r5) := by first | (rw [hy265]; with_reducible exact H) | (have H2_ := (Option.bind_some _ _).symm.trans H; rw [hy265]; with_reducible exact H2_) | (have H2_ := (Option.bind_some _ _).symm.trans H; with_reducible exact H2_) | with_reducible exact H | (rw [hy265]; exact H) | exact H
               have Ny265 := Aside0.mk hy265
               clear hy265
               simp only [Option.some.injEq, Prod.mk.injEq] at H
               obtain ⟨rfl, rfl, rfl, rfl, rfl⟩ := H
               have hnb80 := NB251_252.out
               have hnc80 := NB252_251.out
               have hnb81 := NB251_253.out
               have hnc81 := NB253_251.out
               have hcz82_0 : wc.cell? ⟨gb251, 0, none⟩ = some (.int .i64 a0_0) := (blk_cell BK251.out 0).trans rfl
               have hcz82_1 : wc.cell? ⟨gb251, 1, none⟩ = some (.slice A0_1 l0_1.length c0_1) := (blk_cell BK251.out 1).trans rfl
               have hcz82_2 : wc.cell? ⟨gb251, 2, none⟩ = some (.slice A0_2 l0_2.length c0_2) := (blk_cell BK251.out 2).trans rfl
               have hfz82_0 := blk_frozen BK251.out 0
               have hfz82_1 := blk_frozen BK251.out 1
               have hfz82_2 := blk_frozen BK251.out 2
               have hnb83 := NB252_253.out
               have hnc83 := NB253_252.out
               have hcz84_0 : wc.cell? ⟨gb252, 0, none⟩ = some (.int .i64 a1_0) := (blk_cell BK252.out 0).trans rfl
               have hcz84_1 : wc.cell? ⟨gb252, 1, none⟩ = some (.int .i64 a1_1) := (blk_cell BK252.out 1).trans rfl
               have hcz84_2 : wc.cell? ⟨gb252, 2, none⟩ = some (.int .i64 a1_2) := (blk_cell BK252.out 2).trans rfl
               have hcz84_3 : wc.cell? ⟨gb252, 3, none⟩ = some (.string a1_3) := (blk_cell BK252.out 3).trans rfl
               have hfz84_0 := blk_frozen BK252.out 0
               have hfz84_1 := blk_frozen BK252.out 1
               have hfz84_2 := blk_frozen BK252.out 2
               have hfz84_3 := blk_frozen BK252.out 3
               have p257 : 0 ≤ (a1_1 : Int) := ofd_
               have q257 : a1_1 < (l0_2.length : Int) := ofd_
               (first | obtain ⟨ad257, e257, hx257_0⟩ := Kd.at_bool (Kd.V_reads' HO_252002.out).2.2 a1_1 p257 q257 | (obtain ⟨Az_, cz_, ez_⟩ := Kd.V_slice HO_252002.out; subst ez_; obtain ⟨ad257, e257, hx257_0⟩ := Kd.at_bool (Kd.V_reads' HO_252002.out).2.2 a1_1 p257 q257))
               (try rw [← Nbq66.out] at hx257_0)
               cases e257
               replace p257 := eq_true p257
               replace q257 := eq_true q257
               try go_wp2
               have n0_ := Aside0.mk (Kd.V_drew HO_252001.out)
               have n1_ := Aside0.mk (Kd.V_drew HO_252002.out)
               have n2_ := Aside0.mk (blk_drew BK251.out)
               have n3_ := Aside0.mk (blk_drew BK252.out)
               have n4_ := Aside0.mk (blk_drew BK253.out)
               have n5_ := Aside0.mk (below_drew1 HB.out)
               clear HO_252001
               clear HO_252002
               clear BK251
               clear BK252
               clear BK253
               clear HB
               have HO_252001 := n0_
               have HO_252002 := n1_
               have BK251 := n2_
               have BK252 := n3_
               have BK253 := n4_
               have HB := n5_
               clear n0_ n1_ n2_ n3_ n4_ n5_
               refine start_ (n := 10) (S := fun w' => w'.cell? ⟨gb251, 0, none⟩ = some (.int .i64 a0_0) ∧ w'.cell? ⟨gb251, 1, none⟩ = some (.slice A0_1 l0_1.length c0_1) ∧ w'.cell? ⟨gb251, 2, none⟩ = some (.slice (some ad257) l0_2.length c0_2)) (ds := [7, 9]) T33_24 (by kernel_rfl) rfl rfl ⟨(blk_cell BK251.out 0).trans rfl, (blk_cell BK251.out 1).trans rfl, (blk_cell BK251.out 2).trans rfl⟩ (fun hHeld => ?_); refine with_tabW recv_Take.tab13 recv_Take.bits13 (fun HT_ HW_ => ?_)
               generalize wc.drew = w85 at HO_252001 HO_252002 BK251 BK252 BK253 HB hHeld ⊢
               refine pure_ (i := 0) (N := some 73) (v := ?_) (a' := ?_) T33_25 rfl rfl (any_of HT_.out (by kernel_rfl)) idq (.inl ⟨by rfl, ?_⟩) ?_ ?_
               rotate_left; ·intro w'; go_simp; with_reducible rfl
               rotate_left; ·simp only [Act.put, sqA, sqB, sqC, i64_w, i32_w]; rfl
               refine pure_ (i := 3) (N := some 76) (v := ?_) (a' := ?_) T33_26 rfl rfl (any_of HT_.out (by kernel_rfl)) idq (.inl ⟨by rfl, ?_⟩) ?_ ?_
               rotate_left; ·intro w'; go_simp; with_reducible rfl
               rotate_left; ·simp only [Act.put, sqA, sqB, sqC, i64_w, i32_w]; rfl
               refine take_ (i := 1) (N := some 74) (v := ?_) (a' := ?_) T33_27 rfl rfl (take_ofW HT_.out HW_.out (by kernel_rfl)) idq (.inl ⟨by rfl, ?_⟩) hHeld ?_ ?_
               rotate_left
               ·rintro w' ⟨s0, s1, s2⟩
                go_simp
                with_reducible rfl
               rotate_left; ·simp only [Act.put, sqA, sqB, sqC, i64_w, i32_w]; rfl
               refine take_ (i := 4) (N := some 77) (v := ?_) (a' := ?_) T33_28 rfl rfl (take_ofW HT_.out HW_.out (by kernel_rfl)) idq (.inl ⟨by rfl, ?_⟩) hHeld ?_ ?_
               rotate_left
               ·rintro w' ⟨s0, s1, s2⟩
                go_simp
                with_reducible rfl
               rotate_left; ·simp only [Act.put, sqA, sqB, sqC, i64_w, i32_w]; rfl
               refine one_ (i := 2) (N := some 75) T33_29 rfl rfl (one_of HT_.out (by kernel_rfl)) (by decide) (fun K hK => ?_)
               refine goes_ Try.func31 (by kernel_rfl) rfl #[.slice A0_1 l0_1.length c0_1] (by rfl) rfl rfl (by (try simp only [List.map_toArray, List.map_cons, List.map_nil]); first | done | rfl | (simp only [List.length_drop, List.length_take]; rfl)) ?_
               with_reducible refine (slices_Clone_string_string.calls _ _ l0_1 t258 _ ?side1 ?side2 A74.out).mono ?_
               (case side1 => repeat (first | exact (Kd.V_reads' HO_252001.out).2.2 | (with_reducible refine Kd.C_alloc ?_ _) | (with_reducible refine Kd.C_drewN ?_ _) | (with_reducible refine Kd.C_drew ?_)))
               (case side2 => exact (Kd.V_reads' HO_252001.out).2.1)
               rintro e w86 ⟨v259, rfl, ho0, hb⟩
               refine ⟨_, rfl, ?_⟩
               have n0_ := Aside0.mk (Kd.V_elder' (by (with_reducible repeat (first | apply Kd.V_alloc | apply Kd.V_drewN | apply Kd.V_drew)); exact HO_252001.out) (Kd.R_base ho0) hb)
               have n1_ := Aside0.mk (Kd.V_elder' (by (with_reducible repeat (first | apply Kd.V_alloc | apply Kd.V_drewN | apply Kd.V_drew)); exact HO_252002.out) (Kd.R_base ho0) hb)
               have n2_ := Aside0.mk (Kd.R_lower (Kd.R_newM (M := fun k_ => (w.heap.size ≤ k_)) ho0 (below_size (by repeat (first | (with_reducible first | exact HB.out | apply bwA | apply bwN | apply bwD | refine below_set ?_ GE251.out | refine below_set ?_ GE252.out | refine below_set ?_ GE253.out) | exact HB.out))) (fun k_ h_ => h_)) (below_size (by repeat (first | (with_reducible first | exact HB.out | apply bwA | apply bwN | apply bwD | refine below_set ?_ GE251.out | refine below_set ?_ GE252.out | refine below_set ?_ GE253.out) | exact HB.out))))
               have n3_ := Aside0.mk (blk_below (g := gb251) (o := .cells #[.int .i64 a0_0, .slice A0_1 l0_1.length c0_1, .slice (some ad257) l0_2.length c0_2] 50 (0, 0)) (by (with_reducible repeat (first | apply bkN | apply bkD | apply bkA)); exact BK251.out) hb)
               have n4_ := Aside0.mk (blk_below (g := gb252) (o := .cells #[.int .i64 a1_0, .int .i64 a1_1, .int .i64 a1_2, .string a1_3] 46 (0, 0)) (by (with_reducible repeat (first | apply bkN | apply bkD | apply bkA)); exact BK252.out) hb)
               have n5_ := Aside0.mk (blk_below (g := gb253) (o := .cells #[.int .i64 0, .slice none 0 0, .slice none 0 0] 50 (0, 0)) (by (with_reducible repeat (first | apply bkN | apply bkD | apply bkA)); exact BK253.out) hb)
               have n6_ := Aside0.mk (below_step (by repeat (first | (with_reducible first | exact HB.out | apply bwA | apply bwN | apply bwD | refine below_set ?_ GE251.out | refine below_set ?_ GE252.out | refine below_set ?_ GE253.out) | exact HB.out)) hb)
               clear HO_252001
               clear HO_252002
               clear BK251
               clear BK252
               clear BK253
               clear HB
               have HO_252001 := n0_
               have HO_252002 := n1_
               have HO260 := n2_
               have BK251 := n3_
               have BK252 := n4_
               have BK253 := n5_
               have HB := n6_
               clear n0_ n1_ n2_ n3_ n4_ n5_ n6_
               (try clear hb)
               (try clear hb2)
               (try clear hk)
               (try clear hi)
               (try clear ho0)
               refine hK.out _ _ ⟨(blk_cell BK251.out 0).trans rfl, (blk_cell BK251.out 1).trans rfl, (blk_cell BK251.out 2).trans rfl⟩ (fun hHeld => ?_)
               clear hK K
               refine norm_ (a' := ?_) ?_ ?_
               rotate_left
               ·show Act.put _ (some 75) _ = _
                simp only [Act.put, sqA, sqB, sqC, i64_w, i32_w]
                rfl
               refine pure_ (i := 6) (N := some 79) (v := ?_) (a' := ?_) T33_30 rfl rfl (any_of HT_.out (by kernel_rfl)) idq (.inl ⟨by rfl, ?_⟩) ?_ ?_
               rotate_left; ·intro w'; go_simp; with_reducible rfl
               rotate_left; ·simp only [Act.put, sqA, sqB, sqC, i64_w, i32_w]; rfl
               refine one_ (i := 5) (N := some 78) T33_31 rfl rfl (one_of HT_.out (by kernel_rfl)) (by decide) (fun K hK => ?_)
               refine goes_ Try.func32 (by kernel_rfl) rfl #[.slice (some ad257) l0_2.length c0_2] (by rfl) rfl rfl (by (try simp only [List.map_toArray, List.map_cons, List.map_nil]); first | done | rfl | (simp only [List.length_drop, List.length_take]; rfl)) ?_
               with_reducible refine (slices_Clone_bool_bool.calls _ _ l0_2 t261 _ ?side1 ?side2 A75.out).mono ?_
               (case side1 => repeat (first | exact (Kd.V_reads' HO_252002.out).2.2 | (with_reducible refine Kd.C_alloc ?_ _) | (with_reducible refine Kd.C_drewN ?_ _) | (with_reducible refine Kd.C_drew ?_)))
               (case side2 => exact (Kd.V_reads' HO_252002.out).2.1)
               rintro e w87 ⟨v262, rfl, ho0, hb⟩
               refine ⟨_, rfl, ?_⟩
               have n0_ := Aside0.mk (Kd.V_elder' (by (with_reducible repeat (first | apply Kd.V_alloc | apply Kd.V_drewN | apply Kd.V_drew)); exact HO_252001.out) (Kd.R_base ho0) hb)
               have n1_ := Aside0.mk (Kd.V_elder' (by (with_reducible repeat (first | apply Kd.V_alloc | apply Kd.V_drewN | apply Kd.V_drew)); exact HO_252002.out) (Kd.R_base ho0) hb)
               have n2_ := Aside0.mk (Kd.R_below (by (with_reducible repeat (first | apply rwA | apply rwN | apply rwD)); exact HO260.out) hb)
               have n3_ := Aside0.mk (Kd.R_lower (Kd.R_newM (M := fun k_ => (w.heap.size ≤ k_)) ho0 (below_size (by repeat (first | (with_reducible first | exact HB.out | apply bwA | apply bwN | apply bwD | refine below_set ?_ GE251.out | refine below_set ?_ GE252.out | refine below_set ?_ GE253.out) | exact HB.out))) (fun k_ h_ => h_)) (below_size (by repeat (first | (with_reducible first | exact HB.out | apply bwA | apply bwN | apply bwD | refine below_set ?_ GE251.out | refine below_set ?_ GE252.out | refine below_set ?_ GE253.out) | exact HB.out))))
               have n4_ := Aside0.mk (blk_below (g := gb251) (o := .cells #[.int .i64 a0_0, .slice A0_1 l0_1.length c0_1, .slice (some ad257) l0_2.length c0_2] 50 (0, 0)) (by (with_reducible repeat (first | apply bkN | apply bkD | apply bkA)); exact BK251.out) hb)
               have n5_ := Aside0.mk (blk_below (g := gb252) (o := .cells #[.int .i64 a1_0, .int .i64 a1_1, .int .i64 a1_2, .string a1_3] 46 (0, 0)) (by (with_reducible repeat (first | apply bkN | apply bkD | apply bkA)); exact BK252.out) hb)
               have n6_ := Aside0.mk (blk_below (g := gb253) (o := .cells #[.int .i64 0, .slice none 0 0, .slice none 0 0] 50 (0, 0)) (by (with_reducible repeat (first | apply bkN | apply bkD | apply bkA)); exact BK253.out) hb)
               have n7_ := Aside0.mk (below_step (by repeat (first | (with_reducible first | exact HB.out | apply bwA | apply bwN | apply bwD | refine below_set ?_ GE251.out | refine below_set ?_ GE252.out | refine below_set ?_ GE253.out) | exact HB.out)) hb)
               clear HO_252001
               clear HO_252002
               clear HO260
               clear BK251
               clear BK252
               clear BK253
               clear HB
               have HO_252001 := n0_
               have HO_252002 := n1_
               have HO260 := n2_
               have HO263 := n3_
               have BK251 := n4_
               have BK252 := n5_
               have BK253 := n6_
               have HB := n7_
               clear n0_ n1_ n2_ n3_ n4_ n5_ n6_ n7_
               (try clear hb)
               (try clear hb2)
               (try clear hk)
               (try clear hi)
               (try clear ho0)
               obtain ⟨Ao88, co88, eo88⟩ := Kd.R_slice HO260.out
               (first | subst eo88 | (injection eo88 with f1_ f2_ f3_; have f4_ := f1_.symm; have f5_ := f3_.symm; clear f1_ f2_ f3_; subst f4_; subst f5_))
               obtain ⟨Ao90, co90, eo90⟩ := Kd.R_slice HO263.out
               (first | subst eo90 | (injection eo90 with f1_ f2_ f3_; have f4_ := f1_.symm; have f5_ := f3_.symm; clear f1_ f2_ f3_; subst f4_; subst f5_))
               refine hK.out _ _ ⟨(blk_cell BK251.out 0).trans rfl, (blk_cell BK251.out 1).trans rfl, (blk_cell BK251.out 2).trans rfl⟩ (fun hHeld => ?_)
               clear hK K
               refine norm_ (a' := ?_) ?_ ?_
               rotate_left
               ·show Act.put _ (some 78) _ = _
                simp only [Act.put, sqA, sqB, sqC, i64_w, i32_w]
                rfl
               refine last_ (i := 7) (N := none) T33_32 rfl rfl (one_of HT_.out (by kernel_rfl)) (by decide) (fun K hK => ?_)
               have hs89 : w87.cell? ⟨gb251, 1, none⟩ = some (.slice A0_1 l0_1.length c0_1) := (blk_cell BK251.out 1).trans rfl
               have hfs89 := blk_frozen BK251.out 1
               have hns89_1 := NB252_251.out
               have hns89_2 := NB253_251.out
               have hms89_1 := NB251_252.out
               have hms89_2 := NB251_253.out
               refine skip_ (w1 := ?_) (by rfl) rfl ?_ ?_
               rotate_left; ·go_simp; rfl
               refine hK.out _ _ ?_
               clear hK K
               refine pure_ (i := 8) (N := some 80) (v := ?_) (a' := ?_) T33_33 rfl rfl (any_of HT_.out (by kernel_rfl)) idq (.inl ⟨by rfl, ?_⟩) ?_ ?_
               rotate_left; ·intro w'; go_simp; with_reducible rfl
               rotate_left; ·simp only [Act.put, sqA, sqB, sqC, i64_w, i32_w]; rfl
               refine last_ (i := 9) (N := none) T33_34 rfl rfl (one_of HT_.out (by kernel_rfl)) (by decide) (fun K hK => ?_)
               have hs91 : w87.cell? ⟨gb251, 2, none⟩ = some (.slice (some ad257) l0_2.length c0_2) := (blk_cell BK251.out 2).trans rfl
               have hfs91 := blk_frozen BK251.out 2
               have hns91_1 := NB252_251.out
               have hns91_2 := NB253_251.out
               have hms91_1 := NB251_252.out
               have hms91_2 := NB251_253.out
               refine skip_ (w1 := ?_) (by rfl) rfl ?_ ?_
               rotate_left; ·go_simp; rfl
               refine hK.out _ _ ?_
               clear hK K
               refine done_ (done_of HT_.out (by kernel_rfl)) ?_
               try go_wp2
               have n0_ : Aside0 (Kd.V Kd.string 9 ((w87.setCell ⟨gb251, 1, none⟩ (.slice Ao88 t258.length co88)).setCell ⟨gb251, 2, none⟩ (.slice Ao90 t261.length co90)) w.heap.size (fun k_ => ((P0_1_ k_ ∨ P0_2_ k_) ∨ w.heap.size ≤ k_) ∧ some k_ ≠ (.slice Ao88 t258.length co88 : Value).ownBlock ∧ some k_ ≠ (.slice Ao90 t261.length co90 : Value).ownBlock ∧ k_ ≠ gb251 ∧ k_ ≠ gb252 ∧ k_ ≠ gb253) (.slice A0_1 l0_1.length c0_1) l0_1) := ⟨by (with_reducible repeat (first | apply Kd.V_alloc | apply Kd.V_drewN | apply Kd.V_drew)); exact Kd.V_mono (Kd.V_far (p := ⟨gb251, 2, none⟩) (Kd.V_far (p := ⟨gb251, 1, none⟩) (Kd.V_mono HO_252001.out (fun k_ hk => (⟨hk, hk.1.1.2.1⟩ : _ ∧ k_ ≠ gb251))) (fun _ hk => hk.2) (.slice Ao88 t258.length co88)) (fun _ hk => hk.2) (.slice Ao90 t261.length co90)) (fun _ hk => ⟨hk.1.1.1.1, ⟨hk.1.1.2, ⟨hk.1.2, ⟨hk.1.1.1.2.1, ⟨hk.1.1.1.2.2.1, hk.1.1.1.2.2.2⟩⟩⟩⟩⟩)⟩
               have n1_ : Aside0 (Kd.V Kd.bool 4 ((w87.setCell ⟨gb251, 1, none⟩ (.slice Ao88 t258.length co88)).setCell ⟨gb251, 2, none⟩ (.slice Ao90 t261.length co90)) w.heap.size (fun k_ => ((P0_1_ k_ ∨ P0_2_ k_) ∨ w.heap.size ≤ k_) ∧ some k_ ≠ (.slice Ao88 t258.length co88 : Value).ownBlock ∧ some k_ ≠ (.slice Ao90 t261.length co90 : Value).ownBlock ∧ k_ ≠ gb251 ∧ k_ ≠ gb252 ∧ k_ ≠ gb253) (.slice (some ad257) l0_2.length c0_2) l0_2) := ⟨by (with_reducible repeat (first | apply Kd.V_alloc | apply Kd.V_drewN | apply Kd.V_drew)); exact Kd.V_mono (Kd.V_far (p := ⟨gb251, 2, none⟩) (Kd.V_far (p := ⟨gb251, 1, none⟩) (Kd.V_mono HO_252002.out (fun k_ hk => (⟨hk, hk.1.1.2.1⟩ : _ ∧ k_ ≠ gb251))) (fun _ hk => hk.2) (.slice Ao88 t258.length co88)) (fun _ hk => hk.2) (.slice Ao90 t261.length co90)) (fun _ hk => ⟨hk.1.1.1.1, ⟨hk.1.1.2, ⟨hk.1.2, ⟨hk.1.1.1.2.1, ⟨hk.1.1.1.2.2.1, hk.1.1.1.2.2.2⟩⟩⟩⟩⟩)⟩
               have n2_ : Aside0 (Kd.R Kd.string 9 ((w87.setCell ⟨gb251, 1, none⟩ (.slice Ao88 t258.length co88)).setCell ⟨gb251, 2, none⟩ (.slice Ao90 t261.length co90)) w.heap.size (fun k_ => (w.heap.size ≤ k_)) (.slice Ao88 t258.length co88) t258) := ⟨by (with_reducible repeat (first | apply rwA | apply rwN | apply rwD)); exact Kd.R_mono (Kd.R_far (p := ⟨gb251, 2, none⟩) (Kd.R_far (p := ⟨gb251, 1, none⟩) (Kd.R_types HO260.out BK251.out (by decide)) (fun _ hk => hk.2) (.slice Ao88 t258.length co88)) (fun _ hk => hk.2) (.slice Ao90 t261.length co90)) (fun _ hk => hk.1.1)⟩
               have n3_ : Aside0 (Kd.R Kd.bool 4 ((w87.setCell ⟨gb251, 1, none⟩ (.slice Ao88 t258.length co88)).setCell ⟨gb251, 2, none⟩ (.slice Ao90 t261.length co90)) w.heap.size (fun k_ => (w.heap.size ≤ k_)) (.slice Ao90 t261.length co90) t261) := ⟨by (with_reducible repeat (first | apply rwA | apply rwN | apply rwD)); exact Kd.R_mono (Kd.R_far (p := ⟨gb251, 2, none⟩) (Kd.R_far (p := ⟨gb251, 1, none⟩) (Kd.R_types HO263.out BK251.out (by decide)) (fun _ hk => hk.2) (.slice Ao88 t258.length co88)) (fun _ hk => hk.2) (.slice Ao90 t261.length co90)) (fun _ hk => hk.1.1)⟩
               have n4_ : Aside0 (((w87.setCell ⟨gb251, 1, none⟩ (.slice Ao88 t258.length co88)).setCell ⟨gb251, 2, none⟩ (.slice Ao90 t261.length co90)).heap[gb251]? = some (.cells #[.int .i64 a0_0, .slice Ao88 t258.length co88, .slice Ao90 t261.length co90] 50 (0, 0))) := ⟨by (with_reducible repeat (first | apply bkN | apply bkD | apply bkA)); refine blk_put (cs := #[.int .i64 a0_0, .slice Ao88 t258.length co88, .slice (some ad257) l0_2.length c0_2]) ?_ 2 _ rfl; (with_reducible repeat (first | apply bkN | apply bkD | apply bkA)); refine blk_put (cs := #[.int .i64 a0_0, .slice A0_1 l0_1.length c0_1, .slice (some ad257) l0_2.length c0_2]) ?_ 1 _ rfl; (with_reducible repeat (first | apply bkN | apply bkD | apply bkA)); exact BK251.out⟩
               have n5_ : Aside0 (((w87.setCell ⟨gb251, 1, none⟩ (.slice Ao88 t258.length co88)).setCell ⟨gb251, 2, none⟩ (.slice Ao90 t261.length co90)).heap[gb252]? = some (.cells #[.int .i64 a1_0, .int .i64 a1_1, .int .i64 a1_2, .string a1_3] 46 (0, 0))) := ⟨by (with_reducible repeat (first | apply bkN | apply bkD | apply bkA)); refine blk_far ?_ NB252_251.out _; (with_reducible repeat (first | apply bkN | apply bkD | apply bkA)); refine blk_far ?_ NB252_251.out _; (with_reducible repeat (first | apply bkN | apply bkD | apply bkA)); exact BK252.out⟩
               have n6_ : Aside0 (((w87.setCell ⟨gb251, 1, none⟩ (.slice Ao88 t258.length co88)).setCell ⟨gb251, 2, none⟩ (.slice Ao90 t261.length co90)).heap[gb253]? = some (.cells #[.int .i64 0, .slice none 0 0, .slice none 0 0] 50 (0, 0))) := ⟨by (with_reducible repeat (first | apply bkN | apply bkD | apply bkA)); refine blk_far ?_ NB253_251.out _; (with_reducible repeat (first | apply bkN | apply bkD | apply bkA)); refine blk_far ?_ NB253_251.out _; (with_reducible repeat (first | apply bkN | apply bkD | apply bkA)); exact BK253.out⟩
               have n7_ : Aside0 (Below w.heap.size w ((w87.setCell ⟨gb251, 1, none⟩ (.slice Ao88 t258.length co88)).setCell ⟨gb251, 2, none⟩ (.slice Ao90 t261.length co90))) := ⟨by repeat (first | (with_reducible first | exact HB.out | apply bwA | apply bwN | apply bwD | refine below_set ?_ GE251.out | refine below_set ?_ GE252.out | refine below_set ?_ GE253.out) | exact HB.out)⟩
               (try clear HO_252001)
               (try clear HO_252002)
               (try clear HO260)
               (try clear HO263)
               (try clear BK251)
               (try clear BK252)
               (try clear BK253)
               (try clear HB)
               generalize ((w87.setCell ⟨gb251, 1, none⟩ (.slice Ao88 t258.length co88)).setCell ⟨gb251, 2, none⟩ (.slice Ao90 t261.length co90)) = w92 at n0_ n1_ n2_ n3_ n4_ n5_ n6_ n7_ ⊢
               have HO_252001 := n0_
               have HO_252002 := n1_
               have HO260 := n2_
               have HO263 := n3_
               have BK251 := n4_
               have BK252 := n5_
               have BK253 := n6_
               have HB := n7_
               clear n0_ n1_ n2_ n3_ n4_ n5_ n6_ n7_
               have n0_ := Aside0.mk (Kd.V_drew HO_252001.out)
               have n1_ := Aside0.mk (Kd.V_drew HO_252002.out)
               have n2_ := Aside0.mk (Kd.R_drew HO260.out)
               have n3_ := Aside0.mk (Kd.R_drew HO263.out)
               have n4_ := Aside0.mk (blk_drew BK251.out)
               have n5_ := Aside0.mk (blk_drew BK252.out)
               have n6_ := Aside0.mk (blk_drew BK253.out)
               have n7_ := Aside0.mk (below_drew1 HB.out)
               clear HO_252001
               clear HO_252002
               clear HO260
               clear HO263
               clear BK251
               clear BK252
               clear BK253
               clear HB
               have HO_252001 := n0_
               have HO_252002 := n1_
               have HO260 := n2_
               have HO263 := n3_
               have BK251 := n4_
               have BK252 := n5_
               have BK253 := n6_
               have HB := n7_
               clear n0_ n1_ n2_ n3_ n4_ n5_ n6_ n7_
               have p77 : 0 ≤ (a1_1 : Int) := ofd_
               have q77 : (a1_1 : Int) < ((t258.length : Int) : Int) := ofd_
               obtain ⟨go77, co77, eo77, gb77, gl77, cl77, HG77⟩ := Kd.R_form HO260.out (by omega)
               (first | cases eo77 | (injection eo77 with ea_ en_ ec_; (first | subst ea_ | (injection ea_ with ea_; subst ea_)); subst ec_; clear en_))
               have GB77 := Aside0.mk gb77
               have GG77 := Aside0.mk HG77
               clear gb77 gl77 HG77
               obtain ⟨hx77_0, hf77_0⟩ := Kd.R_celln (⟨#[]⟩ : ByteArray) HO260.out (a1_1 : Int) p77 q77
               replace p77 := eq_true p77
               replace q77 := eq_true q77
               have HP94 := Kd.R_putn HO260.out (a1_1 : Int) a1_3
               rw [← Ny264.out] at HP94
               have HQ94 := Aside0.mk HP94
               clear HP94
               have p79 : 0 ≤ (a1_1 : Int) := ofd_
               have q79 : (a1_1 : Int) < ((t261.length : Int) : Int) := ofd_
               obtain ⟨go79, co79, eo79, gb79, gl79, cl79, HG79⟩ := Kd.R_form HO263.out (by omega)
               (first | cases eo79 | (injection eo79 with ea_ en_ ec_; (first | subst ea_ | (injection ea_ with ea_; subst ea_)); subst ec_; clear en_))
               have GB79 := Aside0.mk gb79
               have GG79 := Aside0.mk HG79
               clear gb79 gl79 HG79
               obtain ⟨hx79_0, hf79_0⟩ := Kd.R_celln false (Kd.R_far (p := ⟨go77, (a1_1 : Int).toNat, none⟩) (Kd.R_types HO263.out GG77.out (by decide)) (fun _ hk => hk.2) (.string a1_3)) (a1_1 : Int) p79 q79
               replace p79 := eq_true p79
               replace q79 := eq_true q79
               have HP95 := Kd.R_putn (Kd.R_far (p := ⟨go77, (a1_1 : Int).toNat, none⟩) (Kd.R_types HO263.out GG77.out (by decide)) (fun _ hk => hk.2) (.string a1_3)) (a1_1 : Int) true
               rw [← Ny265.out] at HP95
               have HQ95 := Aside0.mk HP95
               clear HP95
               refine start_ (n := 14) (S := fun w' => w'.cell? ⟨gb251, 0, none⟩ = some (.int .i64 a0_0) ∧ w'.cell? ⟨gb251, 1, none⟩ = some (.slice (some ⟨go77, 0, none⟩) t258.length co88) ∧ w'.cell? ⟨gb251, 2, none⟩ = some (.slice (some ⟨go79, 0, none⟩) t261.length co90) ∧ w'.cell? ⟨gb252, 0, none⟩ = some (.int .i64 a1_0) ∧ w'.cell? ⟨gb252, 1, none⟩ = some (.int .i64 a1_1) ∧ w'.cell? ⟨gb252, 2, none⟩ = some (.int .i64 a1_2) ∧ w'.cell? ⟨gb252, 3, none⟩ = some (.string a1_3)) (ds := []) T33_35 (by kernel_rfl) rfl rfl ⟨(blk_cell BK251.out 0).trans rfl, (blk_cell BK251.out 1).trans rfl, (blk_cell BK251.out 2).trans rfl, (blk_cell BK252.out 0).trans rfl, (blk_cell BK252.out 1).trans rfl, (blk_cell BK252.out 2).trans rfl, (blk_cell BK252.out 3).trans rfl⟩ (fun hHeld => ?_); refine with_tabW recv_Take.tab14 recv_Take.bits14 (fun HT_ HW_ => ?_)
               generalize w92.drew = w93 at HO_252001 HO_252002 HO260 HO263 BK251 BK252 BK253 HB GG77 GG79 HQ94 HQ95 hf77_0 hf79_0 hx77_0 hx79_0 hHeld ⊢
               refine pure_ (i := 0) (N := some 81) (v := ?_) (a' := ?_) T33_36 rfl rfl (any_of HT_.out (by kernel_rfl)) idq (.inl ⟨by rfl, ?_⟩) ?_ ?_
               rotate_left; ·intro w'; go_simp; with_reducible rfl
               rotate_left; ·simp only [Act.put, sqA, sqB, sqC, i64_w, i32_w]; rfl
               refine pure_ (i := 2) (N := some 83) (v := ?_) (a' := ?_) T33_37 rfl rfl (any_of HT_.out (by kernel_rfl)) idq (.inl ⟨by rfl, ?_⟩) ?_ ?_
               rotate_left; ·intro w'; go_simp; with_reducible rfl
               rotate_left; ·simp only [Act.put, sqA, sqB, sqC, i64_w, i32_w]; rfl
               refine pure_ (i := 4) (N := some 85) (v := ?_) (a' := ?_) T33_38 rfl rfl (any_of HT_.out (by kernel_rfl)) idq (.inl ⟨by rfl, ?_⟩) ?_ ?_
               rotate_left; ·intro w'; go_simp; with_reducible rfl
               rotate_left; ·simp only [Act.put, sqA, sqB, sqC, i64_w, i32_w]; rfl
               refine pure_ (i := 6) (N := some 87) (v := ?_) (a' := ?_) T33_39 rfl rfl (any_of HT_.out (by kernel_rfl)) idq (.inl ⟨by rfl, ?_⟩) ?_ ?_
               rotate_left; ·intro w'; go_simp; with_reducible rfl
               rotate_left; ·simp only [Act.put, sqA, sqB, sqC, i64_w, i32_w]; rfl
               refine pure_ (i := 8) (N := some 89) (v := ?_) (a' := ?_) T33_40 rfl rfl (any_of HT_.out (by kernel_rfl)) idq (.inl ⟨by rfl, ?_⟩) ?_ ?_
               rotate_left; ·intro w'; go_simp; with_reducible rfl
               rotate_left; ·simp only [Act.put, sqA, sqB, sqC, i64_w, i32_w]; rfl
               refine take_ (i := 1) (N := some 82) (v := ?_) (a' := ?_) T33_41 rfl rfl (take_ofW HT_.out HW_.out (by kernel_rfl)) idq (.inl ⟨by rfl, ?_⟩) hHeld ?_ ?_
               rotate_left
               ·rintro w' ⟨s0, s1, s2, s3, s4, s5, s6⟩
                go_simp
                with_reducible rfl
               rotate_left; ·simp only [Act.put, sqA, sqB, sqC, i64_w, i32_w]; rfl
               refine take_ (i := 3) (N := some 84) (v := ?_) (a' := ?_) T33_42 rfl rfl (take_ofW HT_.out HW_.out (by kernel_rfl)) idq (.inl ⟨by rfl, ?_⟩) hHeld ?_ ?_
               rotate_left
               ·rintro w' ⟨s0, s1, s2, s3, s4, s5, s6⟩
                go_simp
                with_reducible rfl
               rotate_left; ·simp only [Act.put, sqA, sqB, sqC, i64_w, i32_w]; rfl
               refine take_ (i := 5) (N := some 86) (v := ?_) (a' := ?_) T33_43 rfl rfl (take_ofW HT_.out HW_.out (by kernel_rfl)) idq (.inl ⟨by rfl, ?_⟩) hHeld ?_ ?_
               rotate_left
               ·rintro w' ⟨s0, s1, s2, s3, s4, s5, s6⟩
                go_simp
                with_reducible rfl
               rotate_left; ·simp only [Act.put, sqA, sqB, sqC, i64_w, i32_w]; rfl
               refine take_ (i := 7) (N := some 88) (v := ?_) (a' := ?_) T33_44 rfl rfl (take_ofW HT_.out HW_.out (by kernel_rfl)) idq (.inl ⟨by rfl, ?_⟩) hHeld ?_ ?_
               rotate_left
               ·rintro w' ⟨s0, s1, s2, s3, s4, s5, s6⟩
                go_simp
                with_reducible rfl
               rotate_left; ·simp only [Act.put, sqA, sqB, sqC, i64_w, i32_w]; rfl
               refine take_ (i := 9) (N := some 90) (v := ?_) (a' := ?_) T33_45 rfl rfl (take_ofW HT_.out HW_.out (by kernel_rfl)) idq (.inl ⟨by rfl, ?_⟩) hHeld ?_ ?_
               rotate_left
               ·rintro w' ⟨s0, s1, s2, s3, s4, s5, s6⟩
                go_simp
                with_reducible rfl
               rotate_left; ·simp only [Act.put, sqA, sqB, sqC, i64_w, i32_w]; rfl
               refine pure_ (i := 10) (N := some 91) (v := ?_) (a' := ?_) T33_46 rfl rfl (any_of HT_.out (by kernel_rfl)) idq (.inl ⟨by rfl, ?_⟩) ?_ ?_
               rotate_left; ·intro w'; go_simp; with_reducible rfl
               rotate_left; ·simp only [Act.put, sqA, sqB, sqC, i64_w, i32_w]; rfl
               refine one_ (i := 11) (N := none) T33_47 rfl rfl (one_of HT_.out (by kernel_rfl)) (by decide) (fun K hK => ?_)
               refine skip_ (w1 := ?_) (by rfl) rfl ?_ ?_
               rotate_left; ·go_simp; rfl
               refine hK.out _ _ ⟨((cell_far (p := ⟨go77, _, none⟩) (fun e_ => (Kd.R_ne HO260.out BK251.out (by decide)) (by first | exact congrArg some e_ | exact congrArg some e_.symm)) _).trans (hHeld.1)), ((cell_far (p := ⟨go77, _, none⟩) (fun e_ => (Kd.R_ne HO260.out BK251.out (by decide)) (by first | exact congrArg some e_ | exact congrArg some e_.symm)) _).trans (hHeld.2.1)), ((cell_far (p := ⟨go77, _, none⟩) (fun e_ => (Kd.R_ne HO260.out BK251.out (by decide)) (by first | exact congrArg some e_ | exact congrArg some e_.symm)) _).trans (hHeld.2.2.1)), ((cell_far (p := ⟨go77, _, none⟩) (fun e_ => (Kd.R_ne HO260.out BK252.out (by decide)) (by first | exact congrArg some e_ | exact congrArg some e_.symm)) _).trans (hHeld.2.2.2.1)), ((cell_far (p := ⟨go77, _, none⟩) (fun e_ => (Kd.R_ne HO260.out BK252.out (by decide)) (by first | exact congrArg some e_ | exact congrArg some e_.symm)) _).trans (hHeld.2.2.2.2.1)), ((cell_far (p := ⟨go77, _, none⟩) (fun e_ => (Kd.R_ne HO260.out BK252.out (by decide)) (by first | exact congrArg some e_ | exact congrArg some e_.symm)) _).trans (hHeld.2.2.2.2.2.1)), ((cell_far (p := ⟨go77, _, none⟩) (fun e_ => (Kd.R_ne HO260.out BK252.out (by decide)) (by first | exact congrArg some e_ | exact congrArg some e_.symm)) _).trans (hHeld.2.2.2.2.2.2))⟩ (fun hHeld => ?_)
               clear hK K
               refine pure_ (i := 12) (N := some 92) (v := ?_) (a' := ?_) T33_48 rfl rfl (any_of HT_.out (by kernel_rfl)) idq (.inl ⟨by rfl, ?_⟩) ?_ ?_
               rotate_left; ·intro w'; go_simp; with_reducible rfl
               rotate_left; ·simp only [Act.put, sqA, sqB, sqC, i64_w, i32_w]; rfl
               refine one_ (i := 13) (N := none) T33_49 rfl rfl (one_of HT_.out (by kernel_rfl)) (by decide) (fun K hK => ?_)
               refine skip_ (w1 := ?_) (by rfl) rfl ?_ ?_
               rotate_left; ·go_simp; rfl
               refine hK.out _ _ ⟨((cell_far (p := ⟨go79, _, none⟩) (fun e_ => (Kd.R_ne HO263.out BK251.out (by decide)) (by first | exact congrArg some e_ | exact congrArg some e_.symm)) _).trans (hHeld.1)), ((cell_far (p := ⟨go79, _, none⟩) (fun e_ => (Kd.R_ne HO263.out BK251.out (by decide)) (by first | exact congrArg some e_ | exact congrArg some e_.symm)) _).trans (hHeld.2.1)), ((cell_far (p := ⟨go79, _, none⟩) (fun e_ => (Kd.R_ne HO263.out BK251.out (by decide)) (by first | exact congrArg some e_ | exact congrArg some e_.symm)) _).trans (hHeld.2.2.1)), ((cell_far (p := ⟨go79, _, none⟩) (fun e_ => (Kd.R_ne HO263.out BK252.out (by decide)) (by first | exact congrArg some e_ | exact congrArg some e_.symm)) _).trans (hHeld.2.2.2.1)), ((cell_far (p := ⟨go79, _, none⟩) (fun e_ => (Kd.R_ne HO263.out BK252.out (by decide)) (by first | exact congrArg some e_ | exact congrArg some e_.symm)) _).trans (hHeld.2.2.2.2.1)), ((cell_far (p := ⟨go79, _, none⟩) (fun e_ => (Kd.R_ne HO263.out BK252.out (by decide)) (by first | exact congrArg some e_ | exact congrArg some e_.symm)) _).trans (hHeld.2.2.2.2.2.1)), ((cell_far (p := ⟨go79, _, none⟩) (fun e_ => (Kd.R_ne HO263.out BK252.out (by decide)) (by first | exact congrArg some e_ | exact congrArg some e_.symm)) _).trans (hHeld.2.2.2.2.2.2))⟩ (fun hHeld => ?_)
               clear hK K
               refine done_ (done_of HT_.out (by kernel_rfl)) ?_
               have n0_ : Aside0 (Kd.V Kd.string 9 ((w93.setCell ⟨go77, (a1_1 : Int).toNat, none⟩ (.string a1_3)).setCell ⟨go79, (a1_1 : Int).toNat, none⟩ (.bool true)) w.heap.size (fun k_ => ((P0_1_ k_ ∨ P0_2_ k_) ∨ w.heap.size ≤ k_) ∧ some k_ ≠ (.slice (some ⟨go77, 0, none⟩) t258.length co88 : Value).ownBlock ∧ some k_ ≠ (.slice (some ⟨go79, 0, none⟩) t261.length co90 : Value).ownBlock ∧ k_ ≠ gb251 ∧ k_ ≠ gb252 ∧ k_ ≠ gb253) (.slice A0_1 l0_1.length c0_1) l0_1) := ⟨by (with_reducible repeat (first | apply Kd.V_alloc | apply Kd.V_drewN | apply Kd.V_drew)); exact Kd.V_mono (Kd.V_far (p := ⟨go79, (a1_1 : Int).toNat, none⟩) (Kd.V_far (p := ⟨go77, (a1_1 : Int).toNat, none⟩) (Kd.V_mono (Kd.V_mono HO_252001.out (fun k_ hk => (⟨hk, fun e_ => hk.2.1 (by rw [e_]; rfl)⟩ : _ ∧ k_ ≠ go77))) (fun k_ hk => (⟨hk, fun e_ => hk.1.2.2.1 (by rw [e_]; rfl)⟩ : _ ∧ k_ ≠ go79))) (fun _ hk => hk.1.2) (.string a1_3)) (fun _ hk => hk.2) (.bool true)) (fun _ hk => ⟨hk.1.1.1, ⟨hk.1.1.2.1, ⟨hk.1.1.2.2.1, ⟨hk.1.1.2.2.2.1, ⟨hk.1.1.2.2.2.2.1, hk.1.1.2.2.2.2.2⟩⟩⟩⟩⟩)⟩
               have n1_ : Aside0 (Kd.V Kd.bool 4 ((w93.setCell ⟨go77, (a1_1 : Int).toNat, none⟩ (.string a1_3)).setCell ⟨go79, (a1_1 : Int).toNat, none⟩ (.bool true)) w.heap.size (fun k_ => ((P0_1_ k_ ∨ P0_2_ k_) ∨ w.heap.size ≤ k_) ∧ some k_ ≠ (.slice (some ⟨go77, 0, none⟩) t258.length co88 : Value).ownBlock ∧ some k_ ≠ (.slice (some ⟨go79, 0, none⟩) t261.length co90 : Value).ownBlock ∧ k_ ≠ gb251 ∧ k_ ≠ gb252 ∧ k_ ≠ gb253) (.slice (some ad257) l0_2.length c0_2) l0_2) := ⟨by (with_reducible repeat (first | apply Kd.V_alloc | apply Kd.V_drewN | apply Kd.V_drew)); exact Kd.V_mono (Kd.V_far (p := ⟨go79, (a1_1 : Int).toNat, none⟩) (Kd.V_far (p := ⟨go77, (a1_1 : Int).toNat, none⟩) (Kd.V_mono (Kd.V_mono HO_252002.out (fun k_ hk => (⟨hk, fun e_ => hk.2.1 (by rw [e_]; rfl)⟩ : _ ∧ k_ ≠ go77))) (fun k_ hk => (⟨hk, fun e_ => hk.1.2.2.1 (by rw [e_]; rfl)⟩ : _ ∧ k_ ≠ go79))) (fun _ hk => hk.1.2) (.string a1_3)) (fun _ hk => hk.2) (.bool true)) (fun _ hk => ⟨hk.1.1.1, ⟨hk.1.1.2.1, ⟨hk.1.1.2.2.1, ⟨hk.1.1.2.2.2.1, ⟨hk.1.1.2.2.2.2.1, hk.1.1.2.2.2.2.2⟩⟩⟩⟩⟩)⟩
               have n2_ : Aside0 (Kd.R Kd.string 9 ((w93.setCell ⟨go77, (a1_1 : Int).toNat, none⟩ (.string a1_3)).setCell ⟨go79, (a1_1 : Int).toNat, none⟩ (.bool true)) w.heap.size (fun k_ => (w.heap.size ≤ k_)) (.slice (some ⟨go77, 0, none⟩) t258.length co88) y264) := ⟨by (with_reducible repeat (first | apply rwA | apply rwN | apply rwD)); exact Kd.R_mono (Kd.R_far (p := ⟨go79, (a1_1 : Int).toNat, none⟩) (Kd.R_mono (Kd.R_apart' HQ94.out (Kd.R_typed (Kd.R_far (p := ⟨go77, (a1_1 : Int).toNat, none⟩) (Kd.R_types HO263.out GG77.out (by decide)) (fun _ hk => hk.2) (.string a1_3))) (by decide)) (fun k_ hk => (⟨hk.1, fun e_ => hk.2 (by rw [e_]; rfl)⟩ : _ ∧ k_ ≠ go79))) (fun _ hk => hk.2) (.bool true)) (fun _ hk => hk.1)⟩
               have n3_ : Aside0 (Kd.R Kd.bool 4 ((w93.setCell ⟨go77, (a1_1 : Int).toNat, none⟩ (.string a1_3)).setCell ⟨go79, (a1_1 : Int).toNat, none⟩ (.bool true)) w.heap.size (fun k_ => (w.heap.size ≤ k_)) (.slice (some ⟨go79, 0, none⟩) t261.length co90) y265) := ⟨by (with_reducible repeat (first | apply rwA | apply rwN | apply rwD)); exact Kd.R_mono HQ95.out (fun _ hk => hk.1)⟩
               have n4_ : Aside0 (((w93.setCell ⟨go77, (a1_1 : Int).toNat, none⟩ (.string a1_3)).setCell ⟨go79, (a1_1 : Int).toNat, none⟩ (.bool true)).heap[gb251]? = some (.cells #[.int .i64 a0_0, .slice (some ⟨go77, 0, none⟩) t258.length co88, .slice (some ⟨go79, 0, none⟩) t261.length co90] 50 (0, 0))) := ⟨by (with_reducible repeat (first | apply bkN | apply bkD | apply bkA)); refine blk_far ?_ (by have h_ := Kd.R_ne HO263.out BK251.out (by decide); intro e_; exact h_ (by rw [e_]; rfl)) _; (with_reducible repeat (first | apply bkN | apply bkD | apply bkA)); refine blk_far ?_ (by have h_ := Kd.R_ne HO260.out BK251.out (by decide); intro e_; exact h_ (by rw [e_]; rfl)) _; (with_reducible repeat (first | apply bkN | apply bkD | apply bkA)); exact BK251.out⟩
               have n5_ : Aside0 (((w93.setCell ⟨go77, (a1_1 : Int).toNat, none⟩ (.string a1_3)).setCell ⟨go79, (a1_1 : Int).toNat, none⟩ (.bool true)).heap[gb252]? = some (.cells #[.int .i64 a1_0, .int .i64 a1_1, .int .i64 a1_2, .string a1_3] 46 (0, 0))) := ⟨by (with_reducible repeat (first | apply bkN | apply bkD | apply bkA)); refine blk_far ?_ (by have h_ := Kd.R_ne HO263.out BK252.out (by decide); intro e_; exact h_ (by rw [e_]; rfl)) _; (with_reducible repeat (first | apply bkN | apply bkD | apply bkA)); refine blk_far ?_ (by have h_ := Kd.R_ne HO260.out BK252.out (by decide); intro e_; exact h_ (by rw [e_]; rfl)) _; (with_reducible repeat (first | apply bkN | apply bkD | apply bkA)); exact BK252.out⟩
               have n6_ : Aside0 (((w93.setCell ⟨go77, (a1_1 : Int).toNat, none⟩ (.string a1_3)).setCell ⟨go79, (a1_1 : Int).toNat, none⟩ (.bool true)).heap[gb253]? = some (.cells #[.int .i64 0, .slice none 0 0, .slice none 0 0] 50 (0, 0))) := ⟨by (with_reducible repeat (first | apply bkN | apply bkD | apply bkA)); refine blk_far ?_ (by have h_ := Kd.R_ne HO263.out BK253.out (by decide); intro e_; exact h_ (by rw [e_]; rfl)) _; (with_reducible repeat (first | apply bkN | apply bkD | apply bkA)); refine blk_far ?_ (by have h_ := Kd.R_ne HO260.out BK253.out (by decide); intro e_; exact h_ (by rw [e_]; rfl)) _; (with_reducible repeat (first | apply bkN | apply bkD | apply bkA)); exact BK253.out⟩
               have n7_ : Aside0 (Below w.heap.size w ((w93.setCell ⟨go77, (a1_1 : Int).toNat, none⟩ (.string a1_3)).setCell ⟨go79, (a1_1 : Int).toNat, none⟩ (.bool true))) := ⟨by repeat (first | (with_reducible first | exact HB.out | apply bwA | apply bwN | apply bwD | refine below_set ?_ GB77.out | refine below_set ?_ GB79.out | refine below_set ?_ GE251.out | refine below_set ?_ GE252.out | refine below_set ?_ GE253.out) | exact HB.out)⟩
               (try clear HO_252001)
               (try clear HO_252002)
               (try clear HO260)
               (try clear HO263)
               (try clear BK251)
               (try clear BK252)
               (try clear BK253)
               (try clear HB)
               generalize ((w93.setCell ⟨go77, (a1_1 : Int).toNat, none⟩ (.string a1_3)).setCell ⟨go79, (a1_1 : Int).toNat, none⟩ (.bool true)) = w96 at n0_ n1_ n2_ n3_ n4_ n5_ n6_ n7_ ⊢
               have HO_252001 := n0_
               have HO_252002 := n1_
               have HO260 := n2_
               have HO263 := n3_
               have BK251 := n4_
               have BK252 := n5_
               have BK253 := n6_
               have HB := n7_
               clear n0_ n1_ n2_ n3_ n4_ n5_ n6_ n7_
               have hcz97_0 : w96.cell? ⟨gb251, 0, none⟩ = some (.int .i64 a0_0) := (blk_cell BK251.out 0).trans rfl
               have hcz97_1 : w96.cell? ⟨gb251, 1, none⟩ = some (.slice (some ⟨go77, 0, none⟩) t258.length co88) := (blk_cell BK251.out 1).trans rfl
               have hcz97_2 : w96.cell? ⟨gb251, 2, none⟩ = some (.slice (some ⟨go79, 0, none⟩) t261.length co90) := (blk_cell BK251.out 2).trans rfl
               have hfz97_0 := blk_frozen BK251.out 0
               have hfz97_1 := blk_frozen BK251.out 1
               have hfz97_2 := blk_frozen BK251.out 2
               have hcz98_0 : w96.cell? ⟨gb253, 0, none⟩ = some (.int .i64 0) := (blk_cell BK253.out 0).trans rfl
               have hcz98_1 : w96.cell? ⟨gb253, 1, none⟩ = some (.slice none 0 0) := (blk_cell BK253.out 1).trans rfl
               have hcz98_2 : w96.cell? ⟨gb253, 2, none⟩ = some (.slice none 0 0) := (blk_cell BK253.out 2).trans rfl
               have hfz98_0 := blk_frozen BK253.out 0
               have hfz98_1 := blk_frozen BK253.out 1
               have hfz98_2 := blk_frozen BK253.out 2
               try go_wp2
               refine bodyPost_ret (results_ctt rfl _ _ gb253 50 #[.int .i64 a0_0, .slice (some ⟨go77, 0, none⟩) t258.length co88, .slice (some ⟨go79, 0, none⟩) t261.length co90] (0, 0) _ rfl (by (with_reducible repeat (first | apply bkN | apply bkD | apply bkA)); refine blk_put (cs := #[.int .i64 a0_0, .slice (some ⟨go77, 0, none⟩) t258.length co88, .slice none 0 0]) ?_ 2 _ rfl; (with_reducible repeat (first | apply bkN | apply bkD | apply bkA)); refine blk_put (cs := #[.int .i64 a0_0, .slice none 0 0, .slice none 0 0]) ?_ 1 _ rfl; (with_reducible repeat (first | apply bkN | apply bkD | apply bkA)); refine blk_put (cs := #[.int .i64 0, .slice none 0 0, .slice none 0 0]) ?_ 0 _ rfl; (with_reducible repeat (first | apply bkN | apply bkD | apply bkA)); exact BK253.out) Try.underlying50 rfl (by kernel_rfl)) rfl ?_
               exact ⟨_, _, by first | rfl | (simp [errW_none, errW_some] <;> rfl) | (simp [*, errW_none, errW_some] <;> rfl), Kd.V_mono (Kd.R_V (by (with_reducible repeat (first | apply rwA | apply rwN | apply rwD)); exact Kd.R_mono (Kd.R_far (p := ⟨gb253, 2, none⟩) (Kd.R_far (p := ⟨gb253, 1, none⟩) (Kd.R_far (p := ⟨gb253, 0, none⟩) (Kd.R_types HO260.out BK253.out (by decide)) (fun _ hk => hk.2) (.int .i64 a0_0)) (fun _ hk => hk.2) (.slice (some ⟨go77, 0, none⟩) t258.length co88)) (fun _ hk => hk.2) (.slice (some ⟨go79, 0, none⟩) t261.length co90)) (fun _ hk => hk.1))) (fun k_ hk => by first | exact ⟨(.inr (hk.1)), hk.2⟩ | exact (.inr (hk))), Kd.V_mono (Kd.R_V (by (with_reducible repeat (first | apply rwA | apply rwN | apply rwD)); exact Kd.R_mono (Kd.R_far (p := ⟨gb253, 2, none⟩) (Kd.R_far (p := ⟨gb253, 1, none⟩) (Kd.R_far (p := ⟨gb253, 0, none⟩) (Kd.R_types HO263.out BK253.out (by decide)) (fun _ hk => hk.2) (.int .i64 a0_0)) (fun _ hk => hk.2) (.slice (some ⟨go77, 0, none⟩) t258.length co88)) (fun _ hk => hk.2) (.slice (some ⟨go79, 0, none⟩) t261.length co90)) (fun _ hk => hk.1))) (fun k_ hk => by first | exact ⟨(.inr (hk.1)), hk.2⟩ | exact (.inr (hk))), by repeat (first | (with_reducible first | exact HB.out | apply bwA | apply bwN | apply bwD | refine below_set ?_ GE251.out | refine below_set ?_ GE252.out | refine below_set ?_ GE253.out) | exact HB.out)⟩
              ·rw [if_neg c78] at H
               exact absurd H (by simp)
             ·rw [if_neg c76] at H
              exact absurd H (by simp)
           ·rw [if_neg c65] at H
            exact absurd H (by simp)
          ·rw [if_neg c64] at H
           exact absurd H (by simp)
  ·rw [if_neg c5] at H
   have c5b0 : (a1_0 == a0_0) = false := beq_eq_false_iff_ne.mpr c5
   have c5b1 : (a1_0 != a0_0) = true := bne_iff_ne.mpr c5
   simp only [Option.some.injEq, Prod.mk.injEq] at H
   obtain ⟨rfl, rfl, rfl, rfl, rfl⟩ := H
   go_enter Try.func25, Try.ntmps25
   go_wp2_with (first | ((with_reducible refine gate_dst (N := 2) rfl ?_); (try (refine gate_guard (by rfl) ?_; dsimp only)); refine box_event ?hg (N := 2) ?hd (cs := #[.int .i64 a0_0, .slice A0_1 l0_1.length c0_1, .slice A0_2 l0_2.length c0_2]) (t := 50) ?hr ?_; (case hd => rfl); (case hg => rfl); (case hr => first | (go_simp; done) | (go_simp; rfl)); intro gb251 hg w99 hbox hb; have n0_ := Aside0.mk (Kd.V_below (Kd.V_elderB (by (with_reducible repeat (first | apply Kd.V_alloc | apply Kd.V_drewN | apply Kd.V_drew)); exact HO0_1.out) gb251 (Nat.le_of_eq hg.symm)) hb); have n1_ := Aside0.mk (Kd.V_below (Kd.V_elderB (by (with_reducible repeat (first | apply Kd.V_alloc | apply Kd.V_drewN | apply Kd.V_drew)); exact HO0_2.out) gb251 (Nat.le_of_eq hg.symm)) hb); have n2_ := Aside0.mk (below_step (by repeat (first | (with_reducible first | exact HB.out | apply bwA | apply bwN | apply bwD) | exact HB.out)) hb); have n3_ := Aside0.mk (hbox); have n4_ := Aside0.mk ((by rw [hg]; exact (below_size (by repeat (first | (with_reducible first | exact HB.out | apply bwA | apply bwN | apply bwD) | exact HB.out))) : w.heap.size ≤ gb251)); have n5_ := Aside0.mk ((by rw [hg]; exact (below_size (by repeat (first | (with_reducible first | exact HB.out | apply bwA | apply bwN | apply bwD) | exact HB.out))) : w.heap.size ≤ gb251)); clear HO0_1; clear HO0_2; clear HB; have HO0_1 := n0_; have HO0_2 := n1_; have HB := n2_; have BK251 := n3_; have GW251 := n4_; have GE251 := n5_; clear n0_ n1_ n2_ n3_ n4_ n5_; clear hb hbox hg) | ((with_reducible refine gate_dst (N := 3) rfl ?_); (try (refine gate_guard (by rfl) ?_; dsimp only)); refine box_event ?hg (N := 3) ?hd (cs := #[.int .i64 a1_0, .int .i64 a1_1, .int .i64 a1_2, .string a1_3]) (t := 46) ?hr ?_; (case hd => rfl); (case hg => rfl); (case hr => first | (go_simp; done) | (go_simp; rfl)); intro gb252 hg w100 hbox hb; have n0_ := Aside0.mk (Kd.V_below (Kd.V_elderB (by (with_reducible repeat (first | apply Kd.V_alloc | apply Kd.V_drewN | apply Kd.V_drew)); exact HO0_1.out) gb252 (Nat.le_of_eq hg.symm)) hb); have n1_ := Aside0.mk (Kd.V_below (Kd.V_elderB (by (with_reducible repeat (first | apply Kd.V_alloc | apply Kd.V_drewN | apply Kd.V_drew)); exact HO0_2.out) gb252 (Nat.le_of_eq hg.symm)) hb); have n2_ := Aside0.mk (blk_below (g := gb251) (o := .cells #[.int .i64 a0_0, .slice A0_1 l0_1.length c0_1, .slice A0_2 l0_2.length c0_2] 50 (0, 0)) (by (with_reducible repeat (first | apply bkN | apply bkD | apply bkA)); exact BK251.out) hb); have n3_ := Aside0.mk (below_step (by repeat (first | (with_reducible first | exact HB.out | apply bwA | apply bwN | apply bwD | refine below_set ?_ GE251.out) | exact HB.out)) hb); have n4_ := Aside0.mk (hbox); have n5_ := Aside0.mk ((by rw [hg]; exact (below_size (by repeat (first | (with_reducible first | exact HB.out | apply bwA | apply bwN | apply bwD | refine below_set ?_ GE251.out) | exact HB.out))) : w.heap.size ≤ gb252)); have n6_ := Aside0.mk ((by rw [hg]; exact (below_size (by repeat (first | (with_reducible first | exact HB.out | apply bwA | apply bwN | apply bwD | refine below_set ?_ GE251.out) | exact HB.out))) : w.heap.size ≤ gb252)); have n7_ := Aside0.mk ((by rw [hg]; exact Nat.ne_of_lt (blk_lt (g := gb251) (o := .cells #[.int .i64 a0_0, .slice A0_1 l0_1.length c0_1, .slice A0_2 l0_2.length c0_2] 50 (0, 0)) (by (with_reducible repeat (first | apply bkN | apply bkD | apply bkA)); exact BK251.out)) : gb251 ≠ gb252)); have n8_ := Aside0.mk ((by rw [hg]; exact Nat.ne_of_gt (blk_lt (g := gb251) (o := .cells #[.int .i64 a0_0, .slice A0_1 l0_1.length c0_1, .slice A0_2 l0_2.length c0_2] 50 (0, 0)) (by (with_reducible repeat (first | apply bkN | apply bkD | apply bkA)); exact BK251.out)) : gb252 ≠ gb251)); clear HO0_1; clear HO0_2; clear BK251; clear HB; have HO0_1 := n0_; have HO0_2 := n1_; have BK251 := n2_; have HB := n3_; have BK252 := n4_; have GW252 := n5_; have GE252 := n6_; have NB251_252 := n7_; have NB252_251 := n8_; clear n0_ n1_ n2_ n3_ n4_ n5_ n6_ n7_ n8_; clear hb hbox hg) | ((with_reducible refine gate_dst (N := 4) rfl ?_); (try (refine gate_guard (by rfl) ?_; dsimp only)); refine box_event ?hg (N := 4) ?hd (cs := #[.int .i64 0, .slice none 0 0, .slice none 0 0]) (t := 50) ?hr ?_; (case hd => rfl); (case hg => rfl); (case hr => first | (go_simp; done) | (go_simp; rfl)); intro gb253 hg w101 hbox hb; have n0_ := Aside0.mk (Kd.V_below (Kd.V_elderB (by (with_reducible repeat (first | apply Kd.V_alloc | apply Kd.V_drewN | apply Kd.V_drew)); exact HO0_1.out) gb253 (Nat.le_of_eq hg.symm)) hb); have n1_ := Aside0.mk (Kd.V_below (Kd.V_elderB (by (with_reducible repeat (first | apply Kd.V_alloc | apply Kd.V_drewN | apply Kd.V_drew)); exact HO0_2.out) gb253 (Nat.le_of_eq hg.symm)) hb); have n2_ := Aside0.mk (blk_below (g := gb251) (o := .cells #[.int .i64 a0_0, .slice A0_1 l0_1.length c0_1, .slice A0_2 l0_2.length c0_2] 50 (0, 0)) (by (with_reducible repeat (first | apply bkN | apply bkD | apply bkA)); exact BK251.out) hb); have n3_ := Aside0.mk (blk_below (g := gb252) (o := .cells #[.int .i64 a1_0, .int .i64 a1_1, .int .i64 a1_2, .string a1_3] 46 (0, 0)) (by (with_reducible repeat (first | apply bkN | apply bkD | apply bkA)); exact BK252.out) hb); have n4_ := Aside0.mk (below_step (by repeat (first | (with_reducible first | exact HB.out | apply bwA | apply bwN | apply bwD | refine below_set ?_ GE251.out | refine below_set ?_ GE252.out) | exact HB.out)) hb); have n5_ := Aside0.mk (hbox); have n6_ := Aside0.mk ((by rw [hg]; exact (below_size (by repeat (first | (with_reducible first | exact HB.out | apply bwA | apply bwN | apply bwD | refine below_set ?_ GE251.out | refine below_set ?_ GE252.out) | exact HB.out))) : w.heap.size ≤ gb253)); have n7_ := Aside0.mk ((by rw [hg]; exact (below_size (by repeat (first | (with_reducible first | exact HB.out | apply bwA | apply bwN | apply bwD | refine below_set ?_ GE251.out | refine below_set ?_ GE252.out) | exact HB.out))) : w.heap.size ≤ gb253)); have n8_ := Aside0.mk ((by rw [hg]; exact Nat.ne_of_lt (blk_lt (g := gb251) (o := .cells #[.int .i64 a0_0, .slice A0_1 l0_1.length c0_1, .slice A0_2 l0_2.length c0_2] 50 (0, 0)) (by (with_reducible repeat (first | apply bkN | apply bkD | apply bkA)); exact BK251.out)) : gb251 ≠ gb253)); have n9_ := Aside0.mk ((by rw [hg]; exact Nat.ne_of_gt (blk_lt (g := gb251) (o := .cells #[.int .i64 a0_0, .slice A0_1 l0_1.length c0_1, .slice A0_2 l0_2.length c0_2] 50 (0, 0)) (by (with_reducible repeat (first | apply bkN | apply bkD | apply bkA)); exact BK251.out)) : gb253 ≠ gb251)); have n10_ := Aside0.mk ((by rw [hg]; exact Nat.ne_of_lt (blk_lt (g := gb252) (o := .cells #[.int .i64 a1_0, .int .i64 a1_1, .int .i64 a1_2, .string a1_3] 46 (0, 0)) (by (with_reducible repeat (first | apply bkN | apply bkD | apply bkA)); exact BK252.out)) : gb252 ≠ gb253)); have n11_ := Aside0.mk ((by rw [hg]; exact Nat.ne_of_gt (blk_lt (g := gb252) (o := .cells #[.int .i64 a1_0, .int .i64 a1_1, .int .i64 a1_2, .string a1_3] 46 (0, 0)) (by (with_reducible repeat (first | apply bkN | apply bkD | apply bkA)); exact BK252.out)) : gb253 ≠ gb252)); clear HO0_1; clear HO0_2; clear BK251; clear BK252; clear HB; have HO0_1 := n0_; have HO0_2 := n1_; have BK251 := n2_; have BK252 := n3_; have HB := n4_; have BK253 := n5_; have GW253 := n6_; have GE253 := n7_; have NB251_253 := n8_; have NB253_251 := n9_; have NB252_253 := n10_; have NB253_252 := n11_; clear n0_ n1_ n2_ n3_ n4_ n5_ n6_ n7_ n8_ n9_ n10_ n11_; clear hb hbox hg; have hnb102 := NB251_252.out; have hnc102 := NB252_251.out; have hnb103 := NB251_253.out; have hnc103 := NB253_251.out; have hcz104_0 : w101.cell? ⟨gb251, 0, none⟩ = some (.int .i64 a0_0) := (blk_cell BK251.out 0).trans rfl; have hcz104_1 : w101.cell? ⟨gb251, 1, none⟩ = some (.slice A0_1 l0_1.length c0_1) := (blk_cell BK251.out 1).trans rfl; have hcz104_2 : w101.cell? ⟨gb251, 2, none⟩ = some (.slice A0_2 l0_2.length c0_2) := (blk_cell BK251.out 2).trans rfl; have hfz104_0 := blk_frozen BK251.out 0; have hfz104_1 := blk_frozen BK251.out 1; have hfz104_2 := blk_frozen BK251.out 2) | ((with_reducible refine gate_callee (f := 30) rfl ?_); refine goesL_ (some 9) rfl rfl Try.func30 (by kernel_rfl) rfl #[.agg #[.int .i64 a0_0, .slice A0_1 l0_1.length c0_1, .slice A0_2 l0_2.length c0_2]] rfl (by (try simp only [List.map_toArray, List.map_cons, List.map_nil]); first | done | rfl | (simp only [List.length_drop, List.length_take]; rfl)) ?_; (with_reducible refine (recv_right.calls a0_0 _ _ l0_1 _ _ l0_2 true _ ?side1 ?side2 ?side3 ?side4 A3.out).mono ?_); (case side1 => repeat (first | exact (Kd.V_reads' HO0_1.out).2.2 | (with_reducible refine Kd.C_alloc ?_ _) | (with_reducible refine Kd.C_drewN ?_ _) | (with_reducible refine Kd.C_drew ?_))); (case side2 => exact (Kd.V_reads' HO0_1.out).2.1); (case side3 => repeat (first | exact (Kd.V_reads' HO0_2.out).2.2 | (with_reducible refine Kd.C_alloc ?_ _) | (with_reducible refine Kd.C_drewN ?_ _) | (with_reducible refine Kd.C_drew ?_))); (case side4 => exact (Kd.V_reads' HO0_2.out).2.1); rintro e w105 ⟨rfl, hb⟩; refine ⟨_, rfl, ?_⟩; have n0_ := Aside0.mk (Kd.V_below (by (with_reducible repeat (first | apply Kd.V_alloc | apply Kd.V_drewN | apply Kd.V_drew)); exact HO0_1.out) hb); have n1_ := Aside0.mk (Kd.V_below (by (with_reducible repeat (first | apply Kd.V_alloc | apply Kd.V_drewN | apply Kd.V_drew)); exact HO0_2.out) hb); have n2_ := Aside0.mk (blk_below (g := gb251) (o := .cells #[.int .i64 a0_0, .slice A0_1 l0_1.length c0_1, .slice A0_2 l0_2.length c0_2] 50 (0, 0)) (by (with_reducible repeat (first | apply bkN | apply bkD | apply bkA)); exact BK251.out) hb); have n3_ := Aside0.mk (blk_below (g := gb252) (o := .cells #[.int .i64 a1_0, .int .i64 a1_1, .int .i64 a1_2, .string a1_3] 46 (0, 0)) (by (with_reducible repeat (first | apply bkN | apply bkD | apply bkA)); exact BK252.out) hb); have n4_ := Aside0.mk (blk_below (g := gb253) (o := .cells #[.int .i64 0, .slice none 0 0, .slice none 0 0] 50 (0, 0)) (by (with_reducible repeat (first | apply bkN | apply bkD | apply bkA)); exact BK253.out) hb); have n5_ := Aside0.mk (below_step (by repeat (first | (with_reducible first | exact HB.out | apply bwA | apply bwN | apply bwD | refine below_set ?_ GE251.out | refine below_set ?_ GE252.out | refine below_set ?_ GE253.out) | exact HB.out)) hb); clear HO0_1; clear HO0_2; clear BK251; clear BK252; clear BK253; clear HB; have HO0_1 := n0_; have HO0_2 := n1_; have BK251 := n2_; have BK252 := n3_; have BK253 := n4_; have HB := n5_; clear n0_ n1_ n2_ n3_ n4_ n5_; (try clear hb); (try clear hb2); (try clear hk); (try clear hi); have hnb106 := NB252_253.out; have hnc106 := NB253_252.out; have hcz107_0 : w105.cell? ⟨gb252, 0, none⟩ = some (.int .i64 a1_0) := (blk_cell BK252.out 0).trans rfl; have hcz107_1 : w105.cell? ⟨gb252, 1, none⟩ = some (.int .i64 a1_1) := (blk_cell BK252.out 1).trans rfl; have hcz107_2 : w105.cell? ⟨gb252, 2, none⟩ = some (.int .i64 a1_2) := (blk_cell BK252.out 2).trans rfl; have hcz107_3 : w105.cell? ⟨gb252, 3, none⟩ = some (.string a1_3) := (blk_cell BK252.out 3).trans rfl; have hfz107_0 := blk_frozen BK252.out 0; have hfz107_1 := blk_frozen BK252.out 1; have hfz107_2 := blk_frozen BK252.out 2; have hfz107_3 := blk_frozen BK252.out 3; have hcz108_0 : w105.cell? ⟨gb251, 0, none⟩ = some (.int .i64 a0_0) := (blk_cell BK251.out 0).trans rfl; have hcz108_1 : w105.cell? ⟨gb251, 1, none⟩ = some (.slice A0_1 l0_1.length c0_1) := (blk_cell BK251.out 1).trans rfl; have hcz108_2 : w105.cell? ⟨gb251, 2, none⟩ = some (.slice A0_2 l0_2.length c0_2) := (blk_cell BK251.out 2).trans rfl; have hfz108_0 := blk_frozen BK251.out 0; have hfz108_1 := blk_frozen BK251.out 1; have hfz108_2 := blk_frozen BK251.out 2; have hcz109_0 : w105.cell? ⟨gb253, 0, none⟩ = some (.int .i64 0) := (blk_cell BK253.out 0).trans rfl; have hcz109_1 : w105.cell? ⟨gb253, 1, none⟩ = some (.slice none 0 0) := (blk_cell BK253.out 1).trans rfl; have hcz109_2 : w105.cell? ⟨gb253, 2, none⟩ = some (.slice none 0 0) := (blk_cell BK253.out 2).trans rfl; have hfz109_0 := blk_frozen BK253.out 0; have hfz109_1 := blk_frozen BK253.out 1; have hfz109_2 := blk_frozen BK253.out 2))
   refine bodyPost_ret (results_ctt rfl _ _ gb253 50 #[.int .i64 a0_0, .slice A0_1 l0_1.length c0_1, .slice A0_2 l0_2.length c0_2] (0, 0) _ rfl (by (with_reducible repeat (first | apply bkN | apply bkD | apply bkA)); refine blk_put (cs := #[.int .i64 a0_0, .slice A0_1 l0_1.length c0_1, .slice none 0 0]) ?_ 2 _ rfl; (with_reducible repeat (first | apply bkN | apply bkD | apply bkA)); refine blk_put (cs := #[.int .i64 a0_0, .slice none 0 0, .slice none 0 0]) ?_ 1 _ rfl; (with_reducible repeat (first | apply bkN | apply bkD | apply bkA)); refine blk_put (cs := #[.int .i64 0, .slice none 0 0, .slice none 0 0]) ?_ 0 _ rfl; (with_reducible repeat (first | apply bkN | apply bkD | apply bkA)); exact BK253.out) Try.underlying50 rfl (by kernel_rfl)) rfl ?_
   exact ⟨_, _, by first | rfl | (simp [errW_none, errW_some] <;> rfl) | (simp [*, errW_none, errW_some] <;> rfl), by (with_reducible repeat (first | apply Kd.V_alloc | apply Kd.V_drewN | apply Kd.V_drew)); exact Kd.V_mono (Kd.V_far (p := ⟨gb253, 2, none⟩) (Kd.V_far (p := ⟨gb253, 1, none⟩) (Kd.V_far (p := ⟨gb253, 0, none⟩) (Kd.V_mono HO0_1.out (fun k_ hk => (⟨hk, hk.2⟩ : _ ∧ k_ ≠ gb253))) (fun _ hk => hk.2) (.int .i64 a0_0)) (fun _ hk => hk.2) (.slice A0_1 l0_1.length c0_1)) (fun _ hk => hk.2) (.slice A0_2 l0_2.length c0_2)) (fun _ hk => hk.1.1.1.1), by (with_reducible repeat (first | apply Kd.V_alloc | apply Kd.V_drewN | apply Kd.V_drew)); exact Kd.V_mono (Kd.V_far (p := ⟨gb253, 2, none⟩) (Kd.V_far (p := ⟨gb253, 1, none⟩) (Kd.V_far (p := ⟨gb253, 0, none⟩) (Kd.V_mono HO0_2.out (fun k_ hk => (⟨hk, hk.2⟩ : _ ∧ k_ ≠ gb253))) (fun _ hk => hk.2) (.int .i64 a0_0)) (fun _ hk => hk.2) (.slice A0_1 l0_1.length c0_1)) (fun _ hk => hk.2) (.slice A0_2 l0_2.length c0_2)) (fun _ hk => hk.1.1.1.1), by repeat (first | (with_reducible first | exact HB.out | apply bwA | apply bwN | apply bwD | refine below_set ?_ GE251.out | refine below_set ?_ GE252.out | refine below_set ?_ GE253.out) | exact HB.out)⟩
 ·replace c4 := Bool.eq_false_iff.mpr c4
  subst c4
  have H1 : (some (a0_0, l0_1, l0_2, false, 4)) = some (r1, r2, r3, r4, r5) := by rw [if_neg (show ¬ (false = true) by decide)] at H; exact H
  clear H
  have H := H1
  clear H1
  simp only [Option.some.injEq, Prod.mk.injEq] at H
  obtain ⟨rfl, rfl, rfl, rfl, rfl⟩ := H
  go_enter Try.func25, Try.ntmps25
  go_wp2_with (first | ((with_reducible refine gate_dst (N := 2) rfl ?_); (try (refine gate_guard (by rfl) ?_; dsimp only)); refine box_event ?hg (N := 2) ?hd (cs := #[.int .i64 a0_0, .slice A0_1 l0_1.length c0_1, .slice A0_2 l0_2.length c0_2]) (t := 50) ?hr ?_; (case hd => rfl); (case hg => rfl); (case hr => first | (go_simp; done) | (go_simp; rfl)); intro gb251 hg w110 hbox hb; have n0_ := Aside0.mk (Kd.V_below (Kd.V_elderB (by (with_reducible repeat (first | apply Kd.V_alloc | apply Kd.V_drewN | apply Kd.V_drew)); exact HO0_1.out) gb251 (Nat.le_of_eq hg.symm)) hb); have n1_ := Aside0.mk (Kd.V_below (Kd.V_elderB (by (with_reducible repeat (first | apply Kd.V_alloc | apply Kd.V_drewN | apply Kd.V_drew)); exact HO0_2.out) gb251 (Nat.le_of_eq hg.symm)) hb); have n2_ := Aside0.mk (below_step (by repeat (first | (with_reducible first | exact HB.out | apply bwA | apply bwN | apply bwD) | exact HB.out)) hb); have n3_ := Aside0.mk (hbox); have n4_ := Aside0.mk ((by rw [hg]; exact (below_size (by repeat (first | (with_reducible first | exact HB.out | apply bwA | apply bwN | apply bwD) | exact HB.out))) : w.heap.size ≤ gb251)); have n5_ := Aside0.mk ((by rw [hg]; exact (below_size (by repeat (first | (with_reducible first | exact HB.out | apply bwA | apply bwN | apply bwD) | exact HB.out))) : w.heap.size ≤ gb251)); clear HO0_1; clear HO0_2; clear HB; have HO0_1 := n0_; have HO0_2 := n1_; have HB := n2_; have BK251 := n3_; have GW251 := n4_; have GE251 := n5_; clear n0_ n1_ n2_ n3_ n4_ n5_; clear hb hbox hg) | ((with_reducible refine gate_dst (N := 3) rfl ?_); (try (refine gate_guard (by rfl) ?_; dsimp only)); refine box_event ?hg (N := 3) ?hd (cs := #[.int .i64 a1_0, .int .i64 a1_1, .int .i64 a1_2, .string a1_3]) (t := 46) ?hr ?_; (case hd => rfl); (case hg => rfl); (case hr => first | (go_simp; done) | (go_simp; rfl)); intro gb252 hg w111 hbox hb; have n0_ := Aside0.mk (Kd.V_below (Kd.V_elderB (by (with_reducible repeat (first | apply Kd.V_alloc | apply Kd.V_drewN | apply Kd.V_drew)); exact HO0_1.out) gb252 (Nat.le_of_eq hg.symm)) hb); have n1_ := Aside0.mk (Kd.V_below (Kd.V_elderB (by (with_reducible repeat (first | apply Kd.V_alloc | apply Kd.V_drewN | apply Kd.V_drew)); exact HO0_2.out) gb252 (Nat.le_of_eq hg.symm)) hb); have n2_ := Aside0.mk (blk_below (g := gb251) (o := .cells #[.int .i64 a0_0, .slice A0_1 l0_1.length c0_1, .slice A0_2 l0_2.length c0_2] 50 (0, 0)) (by (with_reducible repeat (first | apply bkN | apply bkD | apply bkA)); exact BK251.out) hb); have n3_ := Aside0.mk (below_step (by repeat (first | (with_reducible first | exact HB.out | apply bwA | apply bwN | apply bwD | refine below_set ?_ GE251.out) | exact HB.out)) hb); have n4_ := Aside0.mk (hbox); have n5_ := Aside0.mk ((by rw [hg]; exact (below_size (by repeat (first | (with_reducible first | exact HB.out | apply bwA | apply bwN | apply bwD | refine below_set ?_ GE251.out) | exact HB.out))) : w.heap.size ≤ gb252)); have n6_ := Aside0.mk ((by rw [hg]; exact (below_size (by repeat (first | (with_reducible first | exact HB.out | apply bwA | apply bwN | apply bwD | refine below_set ?_ GE251.out) | exact HB.out))) : w.heap.size ≤ gb252)); have n7_ := Aside0.mk ((by rw [hg]; exact Nat.ne_of_lt (blk_lt (g := gb251) (o := .cells #[.int .i64 a0_0, .slice A0_1 l0_1.length c0_1, .slice A0_2 l0_2.length c0_2] 50 (0, 0)) (by (with_reducible repeat (first | apply bkN | apply bkD | apply bkA)); exact BK251.out)) : gb251 ≠ gb252)); have n8_ := Aside0.mk ((by rw [hg]; exact Nat.ne_of_gt (blk_lt (g := gb251) (o := .cells #[.int .i64 a0_0, .slice A0_1 l0_1.length c0_1, .slice A0_2 l0_2.length c0_2] 50 (0, 0)) (by (with_reducible repeat (first | apply bkN | apply bkD | apply bkA)); exact BK251.out)) : gb252 ≠ gb251)); clear HO0_1; clear HO0_2; clear BK251; clear HB; have HO0_1 := n0_; have HO0_2 := n1_; have BK251 := n2_; have HB := n3_; have BK252 := n4_; have GW252 := n5_; have GE252 := n6_; have NB251_252 := n7_; have NB252_251 := n8_; clear n0_ n1_ n2_ n3_ n4_ n5_ n6_ n7_ n8_; clear hb hbox hg) | ((with_reducible refine gate_dst (N := 4) rfl ?_); (try (refine gate_guard (by rfl) ?_; dsimp only)); refine box_event ?hg (N := 4) ?hd (cs := #[.int .i64 0, .slice none 0 0, .slice none 0 0]) (t := 50) ?hr ?_; (case hd => rfl); (case hg => rfl); (case hr => first | (go_simp; done) | (go_simp; rfl)); intro gb253 hg w112 hbox hb; have n0_ := Aside0.mk (Kd.V_below (Kd.V_elderB (by (with_reducible repeat (first | apply Kd.V_alloc | apply Kd.V_drewN | apply Kd.V_drew)); exact HO0_1.out) gb253 (Nat.le_of_eq hg.symm)) hb); have n1_ := Aside0.mk (Kd.V_below (Kd.V_elderB (by (with_reducible repeat (first | apply Kd.V_alloc | apply Kd.V_drewN | apply Kd.V_drew)); exact HO0_2.out) gb253 (Nat.le_of_eq hg.symm)) hb); have n2_ := Aside0.mk (blk_below (g := gb251) (o := .cells #[.int .i64 a0_0, .slice A0_1 l0_1.length c0_1, .slice A0_2 l0_2.length c0_2] 50 (0, 0)) (by (with_reducible repeat (first | apply bkN | apply bkD | apply bkA)); exact BK251.out) hb); have n3_ := Aside0.mk (blk_below (g := gb252) (o := .cells #[.int .i64 a1_0, .int .i64 a1_1, .int .i64 a1_2, .string a1_3] 46 (0, 0)) (by (with_reducible repeat (first | apply bkN | apply bkD | apply bkA)); exact BK252.out) hb); have n4_ := Aside0.mk (below_step (by repeat (first | (with_reducible first | exact HB.out | apply bwA | apply bwN | apply bwD | refine below_set ?_ GE251.out | refine below_set ?_ GE252.out) | exact HB.out)) hb); have n5_ := Aside0.mk (hbox); have n6_ := Aside0.mk ((by rw [hg]; exact (below_size (by repeat (first | (with_reducible first | exact HB.out | apply bwA | apply bwN | apply bwD | refine below_set ?_ GE251.out | refine below_set ?_ GE252.out) | exact HB.out))) : w.heap.size ≤ gb253)); have n7_ := Aside0.mk ((by rw [hg]; exact (below_size (by repeat (first | (with_reducible first | exact HB.out | apply bwA | apply bwN | apply bwD | refine below_set ?_ GE251.out | refine below_set ?_ GE252.out) | exact HB.out))) : w.heap.size ≤ gb253)); have n8_ := Aside0.mk ((by rw [hg]; exact Nat.ne_of_lt (blk_lt (g := gb251) (o := .cells #[.int .i64 a0_0, .slice A0_1 l0_1.length c0_1, .slice A0_2 l0_2.length c0_2] 50 (0, 0)) (by (with_reducible repeat (first | apply bkN | apply bkD | apply bkA)); exact BK251.out)) : gb251 ≠ gb253)); have n9_ := Aside0.mk ((by rw [hg]; exact Nat.ne_of_gt (blk_lt (g := gb251) (o := .cells #[.int .i64 a0_0, .slice A0_1 l0_1.length c0_1, .slice A0_2 l0_2.length c0_2] 50 (0, 0)) (by (with_reducible repeat (first | apply bkN | apply bkD | apply bkA)); exact BK251.out)) : gb253 ≠ gb251)); have n10_ := Aside0.mk ((by rw [hg]; exact Nat.ne_of_lt (blk_lt (g := gb252) (o := .cells #[.int .i64 a1_0, .int .i64 a1_1, .int .i64 a1_2, .string a1_3] 46 (0, 0)) (by (with_reducible repeat (first | apply bkN | apply bkD | apply bkA)); exact BK252.out)) : gb252 ≠ gb253)); have n11_ := Aside0.mk ((by rw [hg]; exact Nat.ne_of_gt (blk_lt (g := gb252) (o := .cells #[.int .i64 a1_0, .int .i64 a1_1, .int .i64 a1_2, .string a1_3] 46 (0, 0)) (by (with_reducible repeat (first | apply bkN | apply bkD | apply bkA)); exact BK252.out)) : gb253 ≠ gb252)); clear HO0_1; clear HO0_2; clear BK251; clear BK252; clear HB; have HO0_1 := n0_; have HO0_2 := n1_; have BK251 := n2_; have BK252 := n3_; have HB := n4_; have BK253 := n5_; have GW253 := n6_; have GE253 := n7_; have NB251_253 := n8_; have NB253_251 := n9_; have NB252_253 := n10_; have NB253_252 := n11_; clear n0_ n1_ n2_ n3_ n4_ n5_ n6_ n7_ n8_ n9_ n10_ n11_; clear hb hbox hg; have hnb113 := NB251_252.out; have hnc113 := NB252_251.out; have hnb114 := NB251_253.out; have hnc114 := NB253_251.out; have hcz115_0 : w112.cell? ⟨gb251, 0, none⟩ = some (.int .i64 a0_0) := (blk_cell BK251.out 0).trans rfl; have hcz115_1 : w112.cell? ⟨gb251, 1, none⟩ = some (.slice A0_1 l0_1.length c0_1) := (blk_cell BK251.out 1).trans rfl; have hcz115_2 : w112.cell? ⟨gb251, 2, none⟩ = some (.slice A0_2 l0_2.length c0_2) := (blk_cell BK251.out 2).trans rfl; have hfz115_0 := blk_frozen BK251.out 0; have hfz115_1 := blk_frozen BK251.out 1; have hfz115_2 := blk_frozen BK251.out 2) | ((with_reducible refine gate_callee (f := 30) rfl ?_); refine goesL_ (some 9) rfl rfl Try.func30 (by kernel_rfl) rfl #[.agg #[.int .i64 a0_0, .slice A0_1 l0_1.length c0_1, .slice A0_2 l0_2.length c0_2]] rfl (by (try simp only [List.map_toArray, List.map_cons, List.map_nil]); first | done | rfl | (simp only [List.length_drop, List.length_take]; rfl)) ?_; (with_reducible refine (recv_right.calls a0_0 _ _ l0_1 _ _ l0_2 false _ ?side1 ?side2 ?side3 ?side4 A3.out).mono ?_); (case side1 => repeat (first | exact (Kd.V_reads' HO0_1.out).2.2 | (with_reducible refine Kd.C_alloc ?_ _) | (with_reducible refine Kd.C_drewN ?_ _) | (with_reducible refine Kd.C_drew ?_))); (case side2 => exact (Kd.V_reads' HO0_1.out).2.1); (case side3 => repeat (first | exact (Kd.V_reads' HO0_2.out).2.2 | (with_reducible refine Kd.C_alloc ?_ _) | (with_reducible refine Kd.C_drewN ?_ _) | (with_reducible refine Kd.C_drew ?_))); (case side4 => exact (Kd.V_reads' HO0_2.out).2.1); rintro e w116 ⟨rfl, hb⟩; refine ⟨_, rfl, ?_⟩; have n0_ := Aside0.mk (Kd.V_below (by (with_reducible repeat (first | apply Kd.V_alloc | apply Kd.V_drewN | apply Kd.V_drew)); exact HO0_1.out) hb); have n1_ := Aside0.mk (Kd.V_below (by (with_reducible repeat (first | apply Kd.V_alloc | apply Kd.V_drewN | apply Kd.V_drew)); exact HO0_2.out) hb); have n2_ := Aside0.mk (blk_below (g := gb251) (o := .cells #[.int .i64 a0_0, .slice A0_1 l0_1.length c0_1, .slice A0_2 l0_2.length c0_2] 50 (0, 0)) (by (with_reducible repeat (first | apply bkN | apply bkD | apply bkA)); exact BK251.out) hb); have n3_ := Aside0.mk (blk_below (g := gb252) (o := .cells #[.int .i64 a1_0, .int .i64 a1_1, .int .i64 a1_2, .string a1_3] 46 (0, 0)) (by (with_reducible repeat (first | apply bkN | apply bkD | apply bkA)); exact BK252.out) hb); have n4_ := Aside0.mk (blk_below (g := gb253) (o := .cells #[.int .i64 0, .slice none 0 0, .slice none 0 0] 50 (0, 0)) (by (with_reducible repeat (first | apply bkN | apply bkD | apply bkA)); exact BK253.out) hb); have n5_ := Aside0.mk (below_step (by repeat (first | (with_reducible first | exact HB.out | apply bwA | apply bwN | apply bwD | refine below_set ?_ GE251.out | refine below_set ?_ GE252.out | refine below_set ?_ GE253.out) | exact HB.out)) hb); clear HO0_1; clear HO0_2; clear BK251; clear BK252; clear BK253; clear HB; have HO0_1 := n0_; have HO0_2 := n1_; have BK251 := n2_; have BK252 := n3_; have BK253 := n4_; have HB := n5_; clear n0_ n1_ n2_ n3_ n4_ n5_; (try clear hb); (try clear hb2); (try clear hk); (try clear hi); have hcz117_0 : w116.cell? ⟨gb251, 0, none⟩ = some (.int .i64 a0_0) := (blk_cell BK251.out 0).trans rfl; have hcz117_1 : w116.cell? ⟨gb251, 1, none⟩ = some (.slice A0_1 l0_1.length c0_1) := (blk_cell BK251.out 1).trans rfl; have hcz117_2 : w116.cell? ⟨gb251, 2, none⟩ = some (.slice A0_2 l0_2.length c0_2) := (blk_cell BK251.out 2).trans rfl; have hfz117_0 := blk_frozen BK251.out 0; have hfz117_1 := blk_frozen BK251.out 1; have hfz117_2 := blk_frozen BK251.out 2; have hnb118 := NB253_252.out; have hnc118 := NB252_253.out; have hcz119_0 : w116.cell? ⟨gb253, 0, none⟩ = some (.int .i64 0) := (blk_cell BK253.out 0).trans rfl; have hcz119_1 : w116.cell? ⟨gb253, 1, none⟩ = some (.slice none 0 0) := (blk_cell BK253.out 1).trans rfl; have hcz119_2 : w116.cell? ⟨gb253, 2, none⟩ = some (.slice none 0 0) := (blk_cell BK253.out 2).trans rfl; have hfz119_0 := blk_frozen BK253.out 0; have hfz119_1 := blk_frozen BK253.out 1; have hfz119_2 := blk_frozen BK253.out 2))
  refine bodyPost_ret (results_ctt rfl _ _ gb253 50 #[.int .i64 a0_0, .slice A0_1 l0_1.length c0_1, .slice A0_2 l0_2.length c0_2] (0, 0) _ rfl (by (with_reducible repeat (first | apply bkN | apply bkD | apply bkA)); refine blk_put (cs := #[.int .i64 a0_0, .slice A0_1 l0_1.length c0_1, .slice none 0 0]) ?_ 2 _ rfl; (with_reducible repeat (first | apply bkN | apply bkD | apply bkA)); refine blk_put (cs := #[.int .i64 a0_0, .slice none 0 0, .slice none 0 0]) ?_ 1 _ rfl; (with_reducible repeat (first | apply bkN | apply bkD | apply bkA)); refine blk_put (cs := #[.int .i64 0, .slice none 0 0, .slice none 0 0]) ?_ 0 _ rfl; (with_reducible repeat (first | apply bkN | apply bkD | apply bkA)); exact BK253.out) Try.underlying50 rfl (by kernel_rfl)) rfl ?_
  exact ⟨_, _, by first | rfl | (simp [errW_none, errW_some] <;> rfl) | (simp [*, errW_none, errW_some] <;> rfl), by (with_reducible repeat (first | apply Kd.V_alloc | apply Kd.V_drewN | apply Kd.V_drew)); exact Kd.V_mono (Kd.V_far (p := ⟨gb253, 2, none⟩) (Kd.V_far (p := ⟨gb253, 1, none⟩) (Kd.V_far (p := ⟨gb253, 0, none⟩) (Kd.V_mono HO0_1.out (fun k_ hk => (⟨hk, hk.2⟩ : _ ∧ k_ ≠ gb253))) (fun _ hk => hk.2) (.int .i64 a0_0)) (fun _ hk => hk.2) (.slice A0_1 l0_1.length c0_1)) (fun _ hk => hk.2) (.slice A0_2 l0_2.length c0_2)) (fun _ hk => hk.1.1.1.1), by (with_reducible repeat (first | apply Kd.V_alloc | apply Kd.V_drewN | apply Kd.V_drew)); exact Kd.V_mono (Kd.V_far (p := ⟨gb253, 2, none⟩) (Kd.V_far (p := ⟨gb253, 1, none⟩) (Kd.V_far (p := ⟨gb253, 0, none⟩) (Kd.V_mono HO0_2.out (fun k_ hk => (⟨hk, hk.2⟩ : _ ∧ k_ ≠ gb253))) (fun _ hk => hk.2) (.int .i64 a0_0)) (fun _ hk => hk.2) (.slice A0_1 l0_1.length c0_1)) (fun _ hk => hk.2) (.slice A0_2 l0_2.length c0_2)) (fun _ hk => hk.1.1.1.1), by repeat (first | (with_reducible first | exact HB.out | apply bwA | apply bwN | apply bwD | refine below_set ?_ GE251.out | refine below_set ?_ GE252.out | refine below_set ?_ GE253.out) | exact HB.out)⟩

end Go.Proofs.Ytfonfdpimbnfaaa.GQ
