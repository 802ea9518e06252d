-- written by this session's program gprint.py
import Derived.Test.YtfonfdpimbnfaaaGQx0
import Derived.Test.YtfonfdpimbnfaaaGQx2
import Derived.Test.YtfonfdpimbnfaaaGQx3
import Derived.Test.YtfonfdpimbnfaaaGQx4
import Derived.Test.YtfonfdpimbnfaaaGQx5
import Derived.Test.YtfonfdpimbnfaaaGQx9
import Derived.Test.YtfonfdpimbnfaaaWGuard
import Derived.Test.YtfonfdpimbnfaaaWLast
import Derived.Test.YtfonfdpimbnfaaaWMore
import Derived.Test.YtfonfdpimbnfaaaWTab
import Derived.Test.YtfonfdpimbnfaaaWWords
namespace Go.Proofs.Ytfonfdpimbnfaaa.GQ
open Go.RowKit Go.Proofs.YtfonfdpimbnfaaaW.PrintWords Go.Proofs.YtfonfdpimbnfaaaW.PrintLast Go.Proofs.YtfonfdpimbnfaaaW.PrintMore Go.Proofs.Ytfonfdpimbnfaaa.GJoin Go.Proofs.Ytfonfdpimbnfaaa.GGot
attribute [local go_sem] max2_int min2_int max_two min_two max_three min_three max_four min_four   -- for this text's walks alone
set_option linter.unusedVariables false
set_option linter.unusedSimpArgs false
abbrev T947_0 : Array Bool := #[false, false, false, false, false, false, false, false, false, false, false, false, false]
abbrev T947_1 : Array Bool := #[false, true, false, false, false, false, false, false, false, false, false, false, false]
abbrev T947_2 : Array Bool := #[false, true, true, false, false, false, false, false, false, false, false, false, false]
abbrev T947_3 : Array Bool := #[false, true, true, true, false, false, false, false, false, false, false, false, false]
abbrev T947_4 : Array Bool := #[false, true, true, true, true, false, false, false, false, false, false, false, false]
abbrev T947_5 : Array Bool := #[true, true, true, true, true, false, false, false, false, false, false, false, false]
abbrev T947_6 : Array Bool := #[true, true, true, true, true, true, false, false, false, false, false, false, false]
abbrev T947_7 : Array Bool := #[true, true, true, true, true, true, true, true, true, true, true, false, false]
abbrev T947_8 : Array Bool := #[true, true, true, true, true, true, true, false, false, false, false, false, false]
abbrev T947_9 : Array Bool := #[true, true, true, true, true, true, false, false, false, false, true, false, false]
abbrev T947_10 : Array Bool := #[true, true, true, true, true, true, true, true, false, false, false, false, false]
abbrev T947_11 : Array Bool := #[true, true, true, true, true, true, true, true, true, false, false, false, false]
abbrev T947_12 : Array Bool := #[true, true, true, true, true, true, true, true, true, true, false, false, false]
abbrev T947_13 : Array Bool := #[true, true, true, true, true, true, true, false, false, false, true, false, false]
abbrev T947_14 : Array Bool := #[true, true, true, true, true, true, true, true, false, false, true, false, false]
abbrev T947_15 : Array Bool := #[true, true, true, true, true, true, true, true, true, false, true, false, false]
abbrev T947_16 : Array Bool := #[true, true, true, true, true, true, true, true, true, true, true, true, false]
abbrev T947_17 : Array Bool := #[true, true, true, true, true, true, true, true, true, true, true, true, true]

/-! ### tillerlaw20_SendEnds: function 6 -/
mutual
def tillerlaw20_SendEnds.l0 : Nat → Int → Int → Int → Int → List ByteArray → List Bool → Option (Bool)
 | 0, _, _, _, _, _, _ => none
 | k + 1, x2, x9, x10, x259000, x259001, x259002 => if x10 < x9 then ((send_Next.f k x259000 x259001 x259002 3).bind fun t265 => ((send_Over.f k x259000 x259001 x259002).bind fun t268 => (if t268 = true then (tillerlaw20_SendEnds.j1 k x2 x9 x10 t265 true x259000 x259001 x259002) else (if (t265.length : Int) = 0 then (tillerlaw20_SendEnds.j1 k x2 x9 x10 t265 true x259000 x259001 x259002) else ((send_Left.f k x259000 x259001 x259002).bind fun t269 => (tillerlaw20_SendEnds.j1 k x2 x9 x10 t265 ((t269.length : Int) != (wrap64 (x9 - x10))) x259000 x259001 x259002)))))) else ((tillerlaw20_awake.f k).bind fun t260 => (if t260 = true then ((send_Over.f k x259000 x259001 x259002).bind fun t261 => (if t261 = true then ((send_Next.f k x259000 x259001 x259002 3).bind fun t262 => (some ((t262.length : Int) == 0))) else (some false))) else (some false)))
def tillerlaw20_SendEnds.j1 : Nat → Int → Int → Int → List (S46) → Bool → Int → List ByteArray → List Bool → Option (Bool)
 | 0, _, _, _, _, _, _, _, _ => none
 | k + 1, x2, x9, x10, x11, x50, x259000, x259001, x259002 => if x50 = true then (some false) else (if (x11.length : Int) = 0 then (none) else (if (Int.tmod x2 (x11.length : Int)) < 0 then (if 0 ≤ (wrap64 ((Int.tmod x2 (x11.length : Int)) + (x11.length : Int))) then (if (wrap64 ((Int.tmod x2 (x11.length : Int)) + (x11.length : Int))) < (x11.length : Int) then ((send_Got.f x259000 x259001 x259002 1 ((rd_T46 x11 (wrap64 ((Int.tmod x2 (x11.length : Int)) + (x11.length : Int)))).f1)).bind fun bt273 => (if bt273.2.2.2 = 0 then (tillerlaw20_SendEnds.l0 k x2 x9 (wrap64 (x10 + 1)) bt273.1 bt273.2.1 bt273.2.2.1) else (some false))) else (none)) else (none)) else (if 0 ≤ (Int.tmod x2 (x11.length : Int)) then (if (Int.tmod x2 (x11.length : Int)) < (x11.length : Int) then ((send_Got.f x259000 x259001 x259002 1 ((rd_T46 x11 (Int.tmod x2 (x11.length : Int))).f1)).bind fun bt283 => (if bt283.2.2.2 = 0 then (tillerlaw20_SendEnds.l0 k x2 x9 (wrap64 (x10 + 1)) bt283.1 bt283.2.1 bt283.2.2.1) else (some false))) else (none)) else (none))))
end
def tillerlaw20_SendEnds.f (k : Nat) (a0 : ByteArray) (a1 : Int) (a2 : Int) : Option (Bool) := (tillerlaw14_Cut.f a0 300).bind fun t249 => ((send_Begin.f k 1 t249 a1).bind fun bt250 => (if bt250.2.2.2 = 0 then (tillerlaw20_SendEnds.l0 k a2 (bt250.2.1.length : Int) 0 bt250.1 bt250.2.1 bt250.2.2.1) else ((tillerlaw20_awake.f k).bind fun t259 => (some t259))))
theorem tillerlaw20_SendEnds.mono_l : ∀ k, (∀ y0 y1 y2 y3 y4 y5, LeO (tillerlaw20_SendEnds.l0 k y0 y1 y2 y3 y4 y5) (tillerlaw20_SendEnds.l0 (k + 1) y0 y1 y2 y3 y4 y5)) ∧ (∀ y0 y1 y2 y3 y4 y5 y6 y7, LeO (tillerlaw20_SendEnds.j1 k y0 y1 y2 y3 y4 y5 y6 y7) (tillerlaw20_SendEnds.j1 (k + 1) y0 y1 y2 y3 y4 y5 y6 y7))
 | 0 => ⟨fun _ _ _ _ _ _ r h => by simp [tillerlaw20_SendEnds.l0] at h, fun _ _ _ _ _ _ _ _ r h => by simp [tillerlaw20_SendEnds.j1] at h⟩
 | k + 1 => by
  obtain ⟨ih0, ih1⟩ := tillerlaw20_SendEnds.mono_l k
  refine ⟨?_, ?_⟩
  ·intro y0 y1 y2 y3 y4 y5
   unfold tillerlaw20_SendEnds.l0
   repeat' first
   | (with_reducible exact ih0 _ _ _ _ _ _)
   | (with_reducible exact ih1 _ _ _ _ _ _ _ _)
   | (with_reducible exact send_Begin.mono _ _ _ _)
   | (with_reducible exact send_Left.mono _ _ _ _)
   | (with_reducible exact send_Next.mono _ _ _ _ _)
   | (with_reducible exact send_Over.mono _ _ _ _)
   | (with_reducible exact tillerlaw20_awake.mono _)
   | (with_reducible exact LeO.refl _)
   | (with_reducible exact LeO.none _)
   | (with_reducible refine LeO.ite ?_ ?_)
   | (with_reducible refine LeO.bind ?_ (fun _ => ?_))
   | exact ih0 _ _ _ _ _ _
   | exact ih1 _ _ _ _ _ _ _ _
   | exact send_Begin.mono _ _ _ _
   | exact send_Left.mono _ _ _ _
   | exact send_Next.mono _ _ _ _ _
   | exact send_Over.mono _ _ _ _
   | exact tillerlaw20_awake.mono _
   | exact LeO.none _
   | refine LeO.ite ?_ ?_
   | refine LeO.bind ?_ (fun _ => ?_)
  ·intro y0 y1 y2 y3 y4 y5 y6 y7
   unfold tillerlaw20_SendEnds.j1
   repeat' first
   | (with_reducible exact ih0 _ _ _ _ _ _)
   | (with_reducible exact ih1 _ _ _ _ _ _ _ _)
   | (with_reducible exact send_Begin.mono _ _ _ _)
   | (with_reducible exact send_Left.mono _ _ _ _)
   | (with_reducible exact send_Next.mono _ _ _ _ _)
   | (with_reducible exact send_Over.mono _ _ _ _)
   | (with_reducible exact tillerlaw20_awake.mono _)
   | (with_reducible exact LeO.refl _)
   | (with_reducible exact LeO.none _)
   | (with_reducible refine LeO.ite ?_ ?_)
   | (with_reducible refine LeO.bind ?_ (fun _ => ?_))
   | exact ih0 _ _ _ _ _ _
   | exact ih1 _ _ _ _ _ _ _ _
   | exact send_Begin.mono _ _ _ _
   | exact send_Left.mono _ _ _ _
   | exact send_Next.mono _ _ _ _ _
   | exact send_Over.mono _ _ _ _
   | exact tillerlaw20_awake.mono _
   | exact LeO.none _
   | refine LeO.ite ?_ ?_
   | refine LeO.bind ?_ (fun _ => ?_)
theorem tillerlaw20_SendEnds.mono : ∀ a0 a1 a2 k, LeO (tillerlaw20_SendEnds.f k a0 a1 a2) (tillerlaw20_SendEnds.f (k + 1) a0 a1 a2) := by
 intro a0 a1 a2 k
 obtain ⟨ih0, ih1⟩ := tillerlaw20_SendEnds.mono_l k
 unfold tillerlaw20_SendEnds.f
 repeat' first
   | (with_reducible exact ih0 _ _ _ _ _ _)
   | (with_reducible exact ih1 _ _ _ _ _ _ _ _)
   | (with_reducible exact send_Begin.mono _ _ _ _)
   | (with_reducible exact send_Left.mono _ _ _ _)
   | (with_reducible exact send_Next.mono _ _ _ _ _)
   | (with_reducible exact send_Over.mono _ _ _ _)
   | (with_reducible exact tillerlaw20_awake.mono _)
   | (with_reducible exact LeO.refl _)
   | (with_reducible exact LeO.none _)
   | (with_reducible refine LeO.ite ?_ ?_)
   | (with_reducible refine LeO.bind ?_ (fun _ => ?_))
   | exact ih0 _ _ _ _ _ _
   | exact ih1 _ _ _ _ _ _ _ _
   | exact send_Begin.mono _ _ _ _
   | exact send_Left.mono _ _ _ _
   | exact send_Next.mono _ _ _ _ _
   | exact send_Over.mono _ _ _ _
   | exact tillerlaw20_awake.mono _
   | exact LeO.none _
   | refine LeO.ite ?_ ?_
   | refine LeO.bind ?_ (fun _ => ?_)
def tillerlaw20_SendEnds.T14 : Bool × List (List Nat × List Nat) := (true, [([], []), ([], []), ([], []), ([1, 2], [1, 2]), ([3], [3]), ([4], [4]), ([0, 5], [0, 5]), ([6], [6]), ([7], [7]), ([7], [7]), ([], []), ([10, 8, 6, 0, 1, 2, 3, 4, 5, 6, 7, 8, 10], [8, 10]), ([9, 11, 0, 1, 2, 3, 4, 5, 6, 7, 8, 9, 10, 11], [9])])
def tillerlaw20_SendEnds.B14 : List Nat := [0, 0, 0, 6, 14, 30, 63, 127, 255, 255, 0, 1535, 4095]
theorem tillerlaw20_SendEnds.tab14 : rtab .any (opsOf Try.f6 14) = tillerlaw20_SendEnds.T14 := by kernel_rfl
theorem tillerlaw20_SendEnds.bits14 : waitsOk tillerlaw20_SendEnds.T14.2 tillerlaw20_SendEnds.B14 = true := by kernel_rfl
set_option maxHeartbeats 8000000 in
set_option maxRecDepth 100000 in
theorem tillerlaw20_SendEnds.calls (k : Nat) (a0 : ByteArray) (a1 : Int) (a2 : Int) (r : Bool) (w : World) (hr_ : Aside0 (r = true)) (h : tillerlaw20_SendEnds.f k a0 a1 a2 = some r) :
  Calls Try.prog 6 #[.string a0, .int .i64 a1, .int .i64 a2] w fun e w' => e = .returned (.bool r) ∧ Below w.heap.size w w' := by
 have hu32 := Try.underlying32
 have HB := Aside0.mk (Below.refl w.heap.size w)
 have H : ((tillerlaw14_Cut.f a0 300).bind fun t249 => ((send_Begin.f k 1 t249 a1).bind fun bt250 => (if bt250.2.2.2 = 0 then (tillerlaw20_SendEnds.l0 k a2 (bt250.2.1.length : Int) 0 bt250.1 bt250.2.1 bt250.2.2.1) else ((tillerlaw20_awake.f k).bind fun t259 => (some t259))))) = some r := h
 clear h
 replace H := Option.bind_eq_some_iff.mp H
 obtain ⟨t249, A40, H⟩ := H
 replace H : ((send_Begin.f k 1 t249 a1).bind fun bt250 => (if bt250.2.2.2 = 0 then (tillerlaw20_SendEnds.l0 k a2 (bt250.2.1.length : Int) 0 bt250.1 bt250.2.1 bt250.2.2.1) else ((tillerlaw20_awake.f k).bind fun t259 => (some t259)))) = some r := H
 have A4 := Aside0.mk A40
 clear A40
 replace H := Option.bind_eq_some_iff.mp H
 obtain ⟨⟨t250, t251, t254, t257⟩, A50, H⟩ := H
 replace H : (if t257 = 0 then (tillerlaw20_SendEnds.l0 k a2 (t251.length : Int) 0 t250 t251 t254) else ((tillerlaw20_awake.f k).bind fun t259 => (some t259))) = some r := H
 have A5 := Aside0.mk A50
 clear A50
 by_cases c6 : t257 = 0
 ·rw [if_pos c6] at H
  have c6b0 : (t257 == 0) = true := beq_iff_eq.mpr c6
  have c6b1 : (t257 != 0) = false := bne_eq_false_iff_eq.mpr c6
  clear c6
  have H' := Aside0.mk H
  clear H
  go_enter Try.func6, Try.ntmps6
  go_wp2_with (first | ((with_reducible refine gate_callee (f := 11) rfl ?_); refine goesL_ (some 17) rfl rfl Try.func11 (by kernel_rfl) rfl #[.string a0, .int .i64 300] rfl (by (try simp only [List.map_toArray, List.map_cons, List.map_nil]); first | done | rfl | (simp only [List.length_drop, List.length_take]; rfl)) ?_; (with_reducible refine (tillerlaw14_Cut.calls a0 300 t249 _ A4.out).mono ?_); rintro e w' ⟨rfl, ⟨nd, rfl⟩⟩; refine ⟨_, rfl, ?_⟩) | ((with_reducible refine gate_callee (f := 14) rfl ?_); refine goesL_ (some 19) rfl rfl Try.func14 (by kernel_rfl) rfl #[.int .i64 1, .string t249, .int .i64 a1] rfl (by (try simp only [List.map_toArray, List.map_cons, List.map_nil]); first | done | rfl | (simp only [List.length_drop, List.length_take]; rfl)) ?_; (with_reducible refine (send_Begin.calls k 1 t249 a1 t250 t251 t254 t257 _ A5.out).mono ?_); rintro e w7 ⟨v252, v255, rfl, ho0, ho1, hb⟩; refine ⟨_, rfl, ?_⟩; have n0_ := Aside0.mk (Kd.R_lower ho0 (below_size (by repeat (first | (with_reducible first | exact HB.out | apply bwA | apply bwN | apply bwD) | exact HB.out)))); have n1_ := Aside0.mk (Kd.R_lower ho1 (below_size (by repeat (first | (with_reducible first | exact HB.out | apply bwA | apply bwN | apply bwD) | exact HB.out)))); have n2_ := Aside0.mk (below_step (by repeat (first | (with_reducible first | exact HB.out | apply bwA | apply bwN | apply bwD) | exact HB.out)) hb); clear HB; have HO253 := n0_; have HO256 := n1_; have HB := n2_; clear n0_ n1_ n2_; (try clear hb); (try clear hb2); (try clear hk); (try clear hi); (try clear ho0); (try clear ho1)) | ((with_reducible refine gate_dst (N := 7) rfl ?_); (try (refine gate_guard (by rfl) ?_; dsimp only)); refine box_event ?hg (N := 7) ?hd (cs := #[.int .i64 0, .slice none 0 0, .slice none 0 0]) (t := 32) ?hr ?_; (case hd => rfl); (case hg => rfl); (case hr => first | (go_simp; done) | (go_simp; rfl)); intro gb258 hg w8 hbox hb; have n0_ := Aside0.mk (Kd.R_below (by (with_reducible repeat (first | apply rwA | apply rwN | apply rwD)); exact HO253.out) hb); have n1_ := Aside0.mk (Kd.R_below (by (with_reducible repeat (first | apply rwA | apply rwN | apply rwD)); exact HO256.out) hb); have n2_ := Aside0.mk (below_step (by repeat (first | (with_reducible first | exact HB.out | apply bwA | apply bwN | apply bwD) | exact HB.out)) hb); have n3_ := Aside0.mk (hbox); have n4_ := Aside0.mk ((by rw [hg]; exact (below_size (by repeat (first | (with_reducible first | exact HB.out | apply bwA | apply bwN | apply bwD) | exact HB.out))) : w.heap.size ≤ gb258)); have n5_ := Aside0.mk ((by rw [hg]; exact (below_size (by repeat (first | (with_reducible first | exact HB.out | apply bwA | apply bwN | apply bwD) | exact HB.out))) : w.heap.size ≤ gb258)); clear HO253; clear HO256; clear HB; have HO253 := n0_; have HO256 := n1_; have HB := n2_; have BK258 := n3_; have GW258 := n4_; have GE258 := n5_; clear n0_ n1_ n2_ n3_ n4_ n5_; clear hb hbox hg; have hcz9_0 : w8.cell? ⟨gb258, 0, none⟩ = some (.int .i64 0) := (blk_cell BK258.out 0).trans rfl; have hcz9_1 : w8.cell? ⟨gb258, 1, none⟩ = some (.slice none 0 0) := (blk_cell BK258.out 1).trans rfl; have hcz9_2 : w8.cell? ⟨gb258, 2, none⟩ = some (.slice none 0 0) := (blk_cell BK258.out 2).trans rfl; have hfz9_0 := blk_frozen BK258.out 0; have hfz9_1 := blk_frozen BK258.out 1; have hfz9_2 := blk_frozen BK258.out 2; obtain ⟨Ao10, co10, eo10⟩ := Kd.R_slice HO253.out; subst eo10; obtain ⟨Ao11, co11, eo11⟩ := Kd.R_slice HO256.out; subst eo11))
  go_loopg [10] k (fun kq v10 w' => ∃ (x10_1 : Int) (x259000_1 : Int) (x259001_1 : List ByteArray) (x259002_1 : List Bool) (u259001 : Value) (u259002 : Value), v10 = .int .i64 x10_1 ∧ Aside0 (tillerlaw20_SendEnds.l0 kq a2 (t251.length : Int) x10_1 x259000_1 x259001_1 x259002_1 = some r) ∧ Aside0 (kq ≤ k) ∧ Aside0 (Kd.V Kd.string 9 w' w.heap.size (fun k_ => k_ ≠ gb258) u259001 x259001_1) ∧ Aside0 (Kd.V Kd.bool 4 w' w.heap.size (fun k_ => k_ ≠ gb258) u259002 x259002_1) ∧ Aside0 (w'.heap[gb258]? = some (.cells #[.int .i64 x259000_1, u259001, u259002] 32 (0, 0))) ∧ Aside0 (Below w.heap.size w w'))
  case atStart => exact ⟨(0), (t250), (t251), (t254), (.slice Ao10 t251.length co10), (.slice Ao11 t254.length co11), (by first | rfl | (simp; done) | (simp [*]; done)), H', ⟨Nat.le_refl _⟩, ⟨Kd.R_V (by (with_reducible repeat (first | apply rwA | apply rwN | apply rwD)); exact Kd.R_mono (Kd.R_far (p := ⟨gb258, 2, none⟩) (Kd.R_far (p := ⟨gb258, 1, none⟩) (Kd.R_far (p := ⟨gb258, 0, none⟩) (Kd.R_types (Kd.R_types HO253.out BK258.out (by decide)) BK258.out (by decide)) (fun _ hk => hk.2) (.int .i64 t250)) (fun _ hk => hk.2) (.slice Ao10 t251.length co10)) (fun _ hk => hk.2) (.slice Ao11 t254.length co11)) (fun _ hk => hk.1.2))⟩, ⟨Kd.R_V (by (with_reducible repeat (first | apply rwA | apply rwN | apply rwD)); exact Kd.R_mono (Kd.R_far (p := ⟨gb258, 2, none⟩) (Kd.R_far (p := ⟨gb258, 1, none⟩) (Kd.R_far (p := ⟨gb258, 0, none⟩) (Kd.R_types (Kd.R_types HO256.out BK258.out (by decide)) BK258.out (by decide)) (fun _ hk => hk.2) (.int .i64 t250)) (fun _ hk => hk.2) (.slice Ao10 t251.length co10)) (fun _ hk => hk.2) (.slice Ao11 t254.length co11)) (fun _ hk => hk.1.2))⟩, ⟨by (with_reducible repeat (first | apply bkN | apply bkD | apply bkA)); refine blk_put (cs := #[.int .i64 t250, .slice Ao10 t251.length co10, .slice none 0 0]) ?_ 2 _ rfl; (with_reducible repeat (first | apply bkN | apply bkD | apply bkA)); refine blk_put (cs := #[.int .i64 t250, .slice none 0 0, .slice none 0 0]) ?_ 1 _ rfl; (with_reducible repeat (first | apply bkN | apply bkD | apply bkA)); refine blk_put (cs := #[.int .i64 0, .slice none 0 0, .slice none 0 0]) ?_ 0 _ rfl; (with_reducible repeat (first | apply bkN | apply bkD | apply bkA)); exact BK258.out⟩, ⟨by repeat (first | (with_reducible first | exact HB.out | apply bwA | apply bwN | apply bwD | refine below_set ?_ GE258.out) | exact HB.out)⟩⟩
  case round =>
   clear H'
   try clear c1
   try clear p2
   try clear c6
   try clear c6b0
   try clear c6b1
   try clear c11
   try clear hcz9_0
   try clear hcz9_1
   try clear hcz9_2
   try clear hfz9_0
   try clear hfz9_1
   try clear hfz9_2
   obtain ⟨x10_1, x259000_1, x259001_1, x259002_1, u259001, u259002, rfl, HA, HK1, HO_259001, HO_259002, BK258, HB⟩ := hrel
   cases gk with
   | zero => exact absurd HA.out (by simp [tillerlaw20_SendEnds.l0])
   | succ k1 =>
    have H := HA.out
    clear HA
    simp only [tillerlaw20_SendEnds.l0] at H
    by_cases c12 : x10_1 < (t251.length : Int)
    ·rw [if_pos c12] at H
     have c12b0 : decide (x10_1 < (t251.length : Int)) = true := decide_eq_true c12
     clear c12
     replace H := Option.bind_eq_some_iff.mp H
     obtain ⟨t265, A130, H⟩ := H
     replace H : ((send_Over.f k1 x259000_1 x259001_1 x259002_1).bind fun t268 => (if t268 = true then (tillerlaw20_SendEnds.j1 k1 a2 (t251.length : Int) x10_1 t265 true x259000_1 x259001_1 x259002_1) else (if (t265.length : Int) = 0 then (tillerlaw20_SendEnds.j1 k1 a2 (t251.length : Int) x10_1 t265 true x259000_1 x259001_1 x259002_1) else ((send_Left.f k1 x259000_1 x259001_1 x259002_1).bind fun t269 => (tillerlaw20_SendEnds.j1 k1 a2 (t251.length : Int) x10_1 t265 ((t269.length : Int) != (wrap64 ((t251.length : Int) - x10_1))) x259000_1 x259001_1 x259002_1))))) = some r := H
     have A13 := Aside0.mk A130
     clear A130
     have HC14 := Aside0.mk H
     clear H
     have hcz15_0 : wr.cell? ⟨gb258, 0, none⟩ = some (.int .i64 x259000_1) := (blk_cell BK258.out 0).trans rfl
     have hcz15_1 : wr.cell? ⟨gb258, 1, none⟩ = some (u259001) := (blk_cell BK258.out 1).trans rfl
     have hcz15_2 : wr.cell? ⟨gb258, 2, none⟩ = some (u259002) := (blk_cell BK258.out 2).trans rfl
     have hfz15_0 := blk_frozen BK258.out 0
     have hfz15_1 := blk_frozen BK258.out 1
     have hfz15_2 := blk_frozen BK258.out 2
     obtain ⟨Ao16, co16, eo16⟩ := Kd.V_slice HO_259001.out
     subst eo16
     obtain ⟨Ao17, co17, eo17⟩ := Kd.V_slice HO_259002.out
     subst eo17
     go_upto_region 9 with (first | ((with_reducible refine gate_callee (f := 22) rfl ?_); refine goesL_ (some 34) rfl rfl Try.func22 (by kernel_rfl) rfl #[.agg #[.int .i64 x259000_1, .slice Ao16 x259001_1.length co16, .slice Ao17 x259002_1.length co17], .int .i64 3] rfl (by (try simp only [List.map_toArray, List.map_cons, List.map_nil]); first | done | rfl | (simp only [List.length_drop, List.length_take]; rfl)) ?_; (with_reducible refine (send_Next.calls k1 x259000_1 _ _ x259001_1 _ _ x259002_1 3 t265 _ ?side1 ?side2 ?side3 ?side4 A13.out).mono ?_); (case side1 => repeat (first | exact (Kd.V_reads' HO_259001.out).2.2 | (with_reducible refine Kd.C_alloc ?_ _) | (with_reducible refine Kd.C_drewN ?_ _) | (with_reducible refine Kd.C_drew ?_))); (case side2 => exact (Kd.V_reads' HO_259001.out).2.1); (case side3 => repeat (first | exact (Kd.V_reads' HO_259002.out).2.2 | (with_reducible refine Kd.C_alloc ?_ _) | (with_reducible refine Kd.C_drewN ?_ _) | (with_reducible refine Kd.C_drew ?_))); (case side4 => exact (Kd.V_reads' HO_259002.out).2.1); rintro e w18 ⟨v266, rfl, ho0, hb⟩; refine ⟨_, rfl, ?_⟩; have n0_ := Aside0.mk (Kd.V_elder' (by (with_reducible repeat (first | apply Kd.V_alloc | apply Kd.V_drewN | apply Kd.V_drew)); exact HO_259001.out) (Kd.R_base ho0) hb); have n1_ := Aside0.mk (Kd.V_elder' (by (with_reducible repeat (first | apply Kd.V_alloc | apply Kd.V_drewN | apply Kd.V_drew)); exact HO_259002.out) (Kd.R_base ho0) hb); have n2_ := Aside0.mk (Kd.R_lower ho0 (below_size (by repeat (first | (with_reducible first | exact HB.out | apply bwA | apply bwN | apply bwD | refine below_set ?_ GE258.out) | exact HB.out)))); have n3_ := Aside0.mk (blk_below (g := gb258) (o := .cells #[.int .i64 x259000_1, .slice Ao16 x259001_1.length co16, .slice Ao17 x259002_1.length co17] 32 (0, 0)) (by (with_reducible repeat (first | apply bkN | apply bkD | apply bkA)); exact BK258.out) hb); have n4_ := Aside0.mk (below_step (by repeat (first | (with_reducible first | exact HB.out | apply bwA | apply bwN | apply bwD | refine below_set ?_ GE258.out) | exact HB.out)) hb); clear HO_259001; clear HO_259002; clear BK258; clear HB; have HO_259001 := n0_; have HO_259002 := n1_; have HO267 := n2_; have BK258 := n3_; have HB := n4_; clear n0_ n1_ n2_ n3_ n4_; (try clear hb); (try clear hb2); (try clear hk); (try clear hi); (try clear ho0)))
     (try simp only [Act.put, List.setIfInBounds_toArray, List.set_cons_zero, List.set_cons_succ])
     go_cut [50] (fun v50 wc => ∃ (kq : Nat) (x50_13 : Bool), v50 = .bool x50_13 ∧ Aside0 (tillerlaw20_SendEnds.j1 kq a2 (t251.length : Int) x10_1 t265 x50_13 x259000_1 x259001_1 x259002_1 = some r) ∧ Aside0 (kq ≤ k1) ∧ Aside0 (Kd.R k46 46 wc w.heap.size (fun _ => True) v266 t265) ∧ Aside0 (Kd.V Kd.string 9 wc w.heap.size (fun k_ => some k_ ≠ (v266 : Value).ownBlock ∧ k_ ≠ gb258) (.slice Ao16 x259001_1.length co16) x259001_1) ∧ Aside0 (Kd.V Kd.bool 4 wc w.heap.size (fun k_ => some k_ ≠ (v266 : Value).ownBlock ∧ k_ ≠ gb258) (.slice Ao17 x259002_1.length co17) x259002_1) ∧ Aside0 (wc.heap[gb258]? = some (.cells #[.int .i64 x259000_1, (.slice Ao16 x259001_1.length co16), (.slice Ao17 x259002_1.length co17)] 32 (0, 0))) ∧ Aside0 (Below w.heap.size w wc))
     case first =>
      have H := HC14.out
      clear HC14
      replace H := Option.bind_eq_some_iff.mp H
      obtain ⟨t268, A190, H⟩ := H
      replace H : (if t268 = true then (tillerlaw20_SendEnds.j1 k1 a2 (t251.length : Int) x10_1 t265 true x259000_1 x259001_1 x259002_1) else (if (t265.length : Int) = 0 then (tillerlaw20_SendEnds.j1 k1 a2 (t251.length : Int) x10_1 t265 true x259000_1 x259001_1 x259002_1) else ((send_Left.f k1 x259000_1 x259001_1 x259002_1).bind fun t269 => (tillerlaw20_SendEnds.j1 k1 a2 (t251.length : Int) x10_1 t265 ((t269.length : Int) != (wrap64 ((t251.length : Int) - x10_1))) x259000_1 x259001_1 x259002_1)))) = some r := H
      have A19 := Aside0.mk A190
      clear A190
      by_cases c20 : t268 = true
      ·subst c20
       have H1 : (tillerlaw20_SendEnds.j1 k1 a2 (t251.length : Int) x10_1 t265 true x259000_1 x259001_1 x259002_1) = some r := by rw [if_pos rfl] at H; exact H
       clear H
       have H := H1
       clear H1
       have H' := Aside0.mk H
       clear H
       have hcz21_0 : w18.cell? ⟨gb258, 0, none⟩ = some (.int .i64 x259000_1) := (blk_cell BK258.out 0).trans rfl
       have hcz21_1 : w18.cell? ⟨gb258, 1, none⟩ = some (.slice Ao16 x259001_1.length co16) := (blk_cell BK258.out 1).trans rfl
       have hcz21_2 : w18.cell? ⟨gb258, 2, none⟩ = some (.slice Ao17 x259002_1.length co17) := (blk_cell BK258.out 2).trans rfl
       have hfz21_0 := blk_frozen BK258.out 0
       have hfz21_1 := blk_frozen BK258.out 1
       have hfz21_2 := blk_frozen BK258.out 2
       go_wp2_with (first | ((with_reducible refine gate_callee (f := 21) rfl ?_); refine goesL_ (some 36) rfl rfl Try.func21 (by kernel_rfl) rfl #[.agg #[.int .i64 x259000_1, .slice Ao16 x259001_1.length co16, .slice Ao17 x259002_1.length co17]] rfl (by (try simp only [List.map_toArray, List.map_cons, List.map_nil]); first | done | rfl | (simp only [List.length_drop, List.length_take]; rfl)) ?_; (with_reducible refine (send_Over.calls k1 x259000_1 _ _ x259001_1 _ _ x259002_1 true _ ?side1 ?side2 ?side3 ?side4 A19.out).mono ?_); (case side1 => repeat (first | exact (Kd.V_reads' HO_259001.out).2.2 | (with_reducible refine Kd.C_alloc ?_ _) | (with_reducible refine Kd.C_drewN ?_ _) | (with_reducible refine Kd.C_drew ?_))); (case side2 => exact (Kd.V_reads' HO_259001.out).2.1); (case side3 => repeat (first | exact (Kd.V_reads' HO_259002.out).2.2 | (with_reducible refine Kd.C_alloc ?_ _) | (with_reducible refine Kd.C_drewN ?_ _) | (with_reducible refine Kd.C_drew ?_))); (case side4 => exact (Kd.V_reads' HO_259002.out).2.1); rintro e w22 ⟨rfl, hb⟩; refine ⟨_, rfl, ?_⟩; have n0_ := Aside0.mk (Kd.V_below (by (with_reducible repeat (first | apply Kd.V_alloc | apply Kd.V_drewN | apply Kd.V_drew)); exact HO_259001.out) hb); have n1_ := Aside0.mk (Kd.V_below (by (with_reducible repeat (first | apply Kd.V_alloc | apply Kd.V_drewN | apply Kd.V_drew)); exact HO_259002.out) hb); have n2_ := Aside0.mk (Kd.R_below (by (with_reducible repeat (first | apply rwA | apply rwN | apply rwD)); exact HO267.out) hb); have n3_ := Aside0.mk (blk_below (g := gb258) (o := .cells #[.int .i64 x259000_1, .slice Ao16 x259001_1.length co16, .slice Ao17 x259002_1.length co17] 32 (0, 0)) (by (with_reducible repeat (first | apply bkN | apply bkD | apply bkA)); exact BK258.out) hb); have n4_ := Aside0.mk (below_step (by repeat (first | (with_reducible first | exact HB.out | apply bwA | apply bwN | apply bwD | refine below_set ?_ GE258.out) | exact HB.out)) hb); clear HO_259001; clear HO_259002; clear HO267; clear BK258; clear HB; have HO_259001 := n0_; have HO_259002 := n1_; have HO267 := n2_; have BK258 := n3_; have HB := n4_; clear n0_ n1_ n2_ n3_ n4_; (try clear hb); (try clear hb2); (try clear hk); (try clear hi)))
       go_meet
       case rel => exact ⟨_, (true), (by first | rfl | (simp; done) | (simp [*]; done)), H', ⟨by have := HK1.out; first | omega | exact Nat.le_refl _⟩, ⟨by (with_reducible repeat (first | apply rwA | apply rwN | apply rwD)); exact HO267.out⟩, ⟨by (with_reducible repeat (first | apply Kd.V_alloc | apply Kd.V_drewN | apply Kd.V_drew)); exact Kd.V_mono HO_259001.out (fun _ hk => ⟨hk.2, hk.1⟩)⟩, ⟨by (with_reducible repeat (first | apply Kd.V_alloc | apply Kd.V_drewN | apply Kd.V_drew)); exact Kd.V_mono HO_259002.out (fun _ hk => ⟨hk.2, hk.1⟩)⟩, ⟨by (with_reducible repeat (first | apply bkN | apply bkD | apply bkA)); exact BK258.out⟩, ⟨by repeat (first | (with_reducible first | exact HB.out | apply bwA | apply bwN | apply bwD | refine below_set ?_ GE258.out) | exact HB.out)⟩⟩
      ·replace c20 := Bool.eq_false_iff.mpr c20
       subst c20
       have H1 : (if (t265.length : Int) = 0 then (tillerlaw20_SendEnds.j1 k1 a2 (t251.length : Int) x10_1 t265 true x259000_1 x259001_1 x259002_1) else ((send_Left.f k1 x259000_1 x259001_1 x259002_1).bind fun t269 => (tillerlaw20_SendEnds.j1 k1 a2 (t251.length : Int) x10_1 t265 ((t269.length : Int) != (wrap64 ((t251.length : Int) - x10_1))) x259000_1 x259001_1 x259002_1))) = some r := by rw [if_neg (show ¬ (false = true) by decide)] at H; exact H
       clear H
       have H := H1
       clear H1
       by_cases c23 : (t265.length : Int) = 0
       ·rw [if_pos c23] at H
        have c23b0 : ((t265.length : Int) == 0) = true := beq_iff_eq.mpr c23
        have c23b1 : ((t265.length : Int) != 0) = false := bne_eq_false_iff_eq.mpr c23
        clear c23
        (first | rw [c23b0] | (simp only [i64_w, i32_w]; rw [c23b0]) | skip)
        have H' := Aside0.mk H
        clear H
        have hcz24_0 : w18.cell? ⟨gb258, 0, none⟩ = some (.int .i64 x259000_1) := (blk_cell BK258.out 0).trans rfl
        have hcz24_1 : w18.cell? ⟨gb258, 1, none⟩ = some (.slice Ao16 x259001_1.length co16) := (blk_cell BK258.out 1).trans rfl
        have hcz24_2 : w18.cell? ⟨gb258, 2, none⟩ = some (.slice Ao17 x259002_1.length co17) := (blk_cell BK258.out 2).trans rfl
        have hfz24_0 := blk_frozen BK258.out 0
        have hfz24_1 := blk_frozen BK258.out 1
        have hfz24_2 := blk_frozen BK258.out 2
        go_wp2_with (first | ((with_reducible refine gate_callee (f := 21) rfl ?_); refine goesL_ (some 36) rfl rfl Try.func21 (by kernel_rfl) rfl #[.agg #[.int .i64 x259000_1, .slice Ao16 x259001_1.length co16, .slice Ao17 x259002_1.length co17]] rfl (by (try simp only [List.map_toArray, List.map_cons, List.map_nil]); first | done | rfl | (simp only [List.length_drop, List.length_take]; rfl)) ?_; (with_reducible refine (send_Over.calls k1 x259000_1 _ _ x259001_1 _ _ x259002_1 false _ ?side1 ?side2 ?side3 ?side4 A19.out).mono ?_); (case side1 => repeat (first | exact (Kd.V_reads' HO_259001.out).2.2 | (with_reducible refine Kd.C_alloc ?_ _) | (with_reducible refine Kd.C_drewN ?_ _) | (with_reducible refine Kd.C_drew ?_))); (case side2 => exact (Kd.V_reads' HO_259001.out).2.1); (case side3 => repeat (first | exact (Kd.V_reads' HO_259002.out).2.2 | (with_reducible refine Kd.C_alloc ?_ _) | (with_reducible refine Kd.C_drewN ?_ _) | (with_reducible refine Kd.C_drew ?_))); (case side4 => exact (Kd.V_reads' HO_259002.out).2.1); rintro e w25 ⟨rfl, hb⟩; refine ⟨_, rfl, ?_⟩; have n0_ := Aside0.mk (Kd.V_below (by (with_reducible repeat (first | apply Kd.V_alloc | apply Kd.V_drewN | apply Kd.V_drew)); exact HO_259001.out) hb); have n1_ := Aside0.mk (Kd.V_below (by (with_reducible repeat (first | apply Kd.V_alloc | apply Kd.V_drewN | apply Kd.V_drew)); exact HO_259002.out) hb); have n2_ := Aside0.mk (Kd.R_below (by (with_reducible repeat (first | apply rwA | apply rwN | apply rwD)); exact HO267.out) hb); have n3_ := Aside0.mk (blk_below (g := gb258) (o := .cells #[.int .i64 x259000_1, .slice Ao16 x259001_1.length co16, .slice Ao17 x259002_1.length co17] 32 (0, 0)) (by (with_reducible repeat (first | apply bkN | apply bkD | apply bkA)); exact BK258.out) hb); have n4_ := Aside0.mk (below_step (by repeat (first | (with_reducible first | exact HB.out | apply bwA | apply bwN | apply bwD | refine below_set ?_ GE258.out) | exact HB.out)) hb); clear HO_259001; clear HO_259002; clear HO267; clear BK258; clear HB; have HO_259001 := n0_; have HO_259002 := n1_; have HO267 := n2_; have BK258 := n3_; have HB := n4_; clear n0_ n1_ n2_ n3_ n4_; (try clear hb); (try clear hb2); (try clear hk); (try clear hi); obtain ⟨Ao26, co26, eo26⟩ := Kd.R_slice HO267.out; subst eo26))
        go_meet
        case rel => exact ⟨_, (true), (by first | rfl | (simp; done) | (simp [*]; done)), H', ⟨by have := HK1.out; first | omega | exact Nat.le_refl _⟩, ⟨by (with_reducible repeat (first | apply rwA | apply rwN | apply rwD)); exact HO267.out⟩, ⟨by (with_reducible repeat (first | apply Kd.V_alloc | apply Kd.V_drewN | apply Kd.V_drew)); exact Kd.V_mono HO_259001.out (fun _ hk => ⟨hk.2, hk.1⟩)⟩, ⟨by (with_reducible repeat (first | apply Kd.V_alloc | apply Kd.V_drewN | apply Kd.V_drew)); exact Kd.V_mono HO_259002.out (fun _ hk => ⟨hk.2, hk.1⟩)⟩, ⟨by (with_reducible repeat (first | apply bkN | apply bkD | apply bkA)); exact BK258.out⟩, ⟨by repeat (first | (with_reducible first | exact HB.out | apply bwA | apply bwN | apply bwD | refine below_set ?_ GE258.out) | exact HB.out)⟩⟩
       ·rw [if_neg c23] at H
        have c23b0 : ((t265.length : Int) == 0) = false := beq_eq_false_iff_ne.mpr c23
        have c23b1 : ((t265.length : Int) != 0) = true := bne_iff_ne.mpr c23
        have c23b2 : ¬ (t265 = []) := fun h_ => c23 (by rw [h_]; rfl)
        (first | rw [c23b0] | (simp only [i64_w, i32_w]; rw [c23b0]) | skip)
        replace H := Option.bind_eq_some_iff.mp H
        obtain ⟨t269, A270, H⟩ := H
        replace H : (tillerlaw20_SendEnds.j1 k1 a2 (t251.length : Int) x10_1 t265 ((t269.length : Int) != (wrap64 ((t251.length : Int) - x10_1))) x259000_1 x259001_1 x259002_1) = some r := H
        have A27 := Aside0.mk A270
        clear A270
        have H' := Aside0.mk H
        clear H
        have hcz28_0 : w18.cell? ⟨gb258, 0, none⟩ = some (.int .i64 x259000_1) := (blk_cell BK258.out 0).trans rfl
        have hcz28_1 : w18.cell? ⟨gb258, 1, none⟩ = some (.slice Ao16 x259001_1.length co16) := (blk_cell BK258.out 1).trans rfl
        have hcz28_2 : w18.cell? ⟨gb258, 2, none⟩ = some (.slice Ao17 x259002_1.length co17) := (blk_cell BK258.out 2).trans rfl
        have hfz28_0 := blk_frozen BK258.out 0
        have hfz28_1 := blk_frozen BK258.out 1
        have hfz28_2 := blk_frozen BK258.out 2
        go_wp2_with (first | ((with_reducible refine gate_callee (f := 21) rfl ?_); refine goesL_ (some 36) rfl rfl Try.func21 (by kernel_rfl) rfl #[.agg #[.int .i64 x259000_1, .slice Ao16 x259001_1.length co16, .slice Ao17 x259002_1.length co17]] rfl (by (try simp only [List.map_toArray, List.map_cons, List.map_nil]); first | done | rfl | (simp only [List.length_drop, List.length_take]; rfl)) ?_; (with_reducible refine (send_Over.calls k1 x259000_1 _ _ x259001_1 _ _ x259002_1 false _ ?side1 ?side2 ?side3 ?side4 A19.out).mono ?_); (case side1 => repeat (first | exact (Kd.V_reads' HO_259001.out).2.2 | (with_reducible refine Kd.C_alloc ?_ _) | (with_reducible refine Kd.C_drewN ?_ _) | (with_reducible refine Kd.C_drew ?_))); (case side2 => exact (Kd.V_reads' HO_259001.out).2.1); (case side3 => repeat (first | exact (Kd.V_reads' HO_259002.out).2.2 | (with_reducible refine Kd.C_alloc ?_ _) | (with_reducible refine Kd.C_drewN ?_ _) | (with_reducible refine Kd.C_drew ?_))); (case side4 => exact (Kd.V_reads' HO_259002.out).2.1); rintro e w29 ⟨rfl, hb⟩; refine ⟨_, rfl, ?_⟩; have n0_ := Aside0.mk (Kd.V_below (by (with_reducible repeat (first | apply Kd.V_alloc | apply Kd.V_drewN | apply Kd.V_drew)); exact HO_259001.out) hb); have n1_ := Aside0.mk (Kd.V_below (by (with_reducible repeat (first | apply Kd.V_alloc | apply Kd.V_drewN | apply Kd.V_drew)); exact HO_259002.out) hb); have n2_ := Aside0.mk (Kd.R_below (by (with_reducible repeat (first | apply rwA | apply rwN | apply rwD)); exact HO267.out) hb); have n3_ := Aside0.mk (blk_below (g := gb258) (o := .cells #[.int .i64 x259000_1, .slice Ao16 x259001_1.length co16, .slice Ao17 x259002_1.length co17] 32 (0, 0)) (by (with_reducible repeat (first | apply bkN | apply bkD | apply bkA)); exact BK258.out) hb); have n4_ := Aside0.mk (below_step (by repeat (first | (with_reducible first | exact HB.out | apply bwA | apply bwN | apply bwD | refine below_set ?_ GE258.out) | exact HB.out)) hb); clear HO_259001; clear HO_259002; clear HO267; clear BK258; clear HB; have HO_259001 := n0_; have HO_259002 := n1_; have HO267 := n2_; have BK258 := n3_; have HB := n4_; clear n0_ n1_ n2_ n3_ n4_; (try clear hb); (try clear hb2); (try clear hk); (try clear hi); obtain ⟨Ao30, co30, eo30⟩ := Kd.R_slice HO267.out; subst eo30; have hcz31_0 : w29.cell? ⟨gb258, 0, none⟩ = some (.int .i64 x259000_1) := (blk_cell BK258.out 0).trans rfl; have hcz31_1 : w29.cell? ⟨gb258, 1, none⟩ = some (.slice Ao16 x259001_1.length co16) := (blk_cell BK258.out 1).trans rfl; have hcz31_2 : w29.cell? ⟨gb258, 2, none⟩ = some (.slice Ao17 x259002_1.length co17) := (blk_cell BK258.out 2).trans rfl; have hfz31_0 := blk_frozen BK258.out 0; have hfz31_1 := blk_frozen BK258.out 1; have hfz31_2 := blk_frozen BK258.out 2) | (go_at_call 20; (with_reducible refine (send_Left.calls k1 x259000_1 _ _ x259001_1 _ _ x259002_1 t269 _ ?side1 ?side2 ?side3 ?side4 A27.out).mono ?_); (case side1 => repeat (first | exact (Kd.V_reads' HO_259001.out).2.2 | (with_reducible refine Kd.C_alloc ?_ _) | (with_reducible refine Kd.C_drewN ?_ _) | (with_reducible refine Kd.C_drew ?_))); (case side2 => exact (Kd.V_reads' HO_259001.out).2.1); (case side3 => repeat (first | exact (Kd.V_reads' HO_259002.out).2.2 | (with_reducible refine Kd.C_alloc ?_ _) | (with_reducible refine Kd.C_drewN ?_ _) | (with_reducible refine Kd.C_drew ?_))); (case side4 => exact (Kd.V_reads' HO_259002.out).2.1); rintro e w32 ⟨v270, rfl, ho0, hb⟩; have n0_ := Aside0.mk (Kd.V_elder' (by (with_reducible repeat (first | apply Kd.V_alloc | apply Kd.V_drewN | apply Kd.V_drew)); exact HO_259001.out) (Kd.R_base ho0) hb); have n1_ := Aside0.mk (Kd.V_elder' (by (with_reducible repeat (first | apply Kd.V_alloc | apply Kd.V_drewN | apply Kd.V_drew)); exact HO_259002.out) (Kd.R_base ho0) hb); have n2_ := Aside0.mk (Kd.R_below (by (with_reducible repeat (first | apply rwA | apply rwN | apply rwD)); exact HO267.out) hb); have n3_ := Aside0.mk (Kd.R_lower ho0 (below_size (by repeat (first | (with_reducible first | exact HB.out | apply bwA | apply bwN | apply bwD | refine below_set ?_ GE258.out) | exact HB.out)))); have n4_ := Aside0.mk (blk_below (g := gb258) (o := .cells #[.int .i64 x259000_1, .slice Ao16 x259001_1.length co16, .slice Ao17 x259002_1.length co17] 32 (0, 0)) (by (with_reducible repeat (first | apply bkN | apply bkD | apply bkA)); exact BK258.out) hb); have n5_ := Aside0.mk (below_step (by repeat (first | (with_reducible first | exact HB.out | apply bwA | apply bwN | apply bwD | refine below_set ?_ GE258.out) | exact HB.out)) hb); clear HO_259001; clear HO_259002; clear HO267; clear BK258; clear HB; have HO_259001 := n0_; have HO_259002 := n1_; have HO267 := n2_; have HO271 := n3_; have BK258 := n4_; have HB := n5_; clear n0_ n1_ n2_ n3_ n4_ n5_; (try clear hb); (try clear hb2); (try clear hk); (try clear hi); (try clear ho0); obtain ⟨Ao33, co33, eo33⟩ := Kd.R_slice HO271.out; subst eo33))
        go_meet
        case rel => exact ⟨_, (((t269.length : Int) != (wrap64 ((t251.length : Int) - x10_1)))), (by first | rfl | (simp; done) | (simp [*]; done)), H', ⟨by have := HK1.out; first | omega | exact Nat.le_refl _⟩, ⟨by (with_reducible repeat (first | apply rwA | apply rwN | apply rwD)); exact HO267.out⟩, ⟨by (with_reducible repeat (first | apply Kd.V_alloc | apply Kd.V_drewN | apply Kd.V_drew)); exact Kd.V_mono HO_259001.out (fun _ hk => ⟨hk.1.2, hk.1.1⟩)⟩, ⟨by (with_reducible repeat (first | apply Kd.V_alloc | apply Kd.V_drewN | apply Kd.V_drew)); exact Kd.V_mono HO_259002.out (fun _ hk => ⟨hk.1.2, hk.1.1⟩)⟩, ⟨by (with_reducible repeat (first | apply bkN | apply bkD | apply bkA)); exact BK258.out⟩, ⟨by repeat (first | (with_reducible first | exact HB.out | apply bwA | apply bwN | apply bwD | refine below_set ?_ GE258.out) | exact HB.out)⟩⟩
     case rest =>
      clear HC14
      try clear c1
      try clear c2
      try clear p2
      try clear c6
      try clear c6b0
      try clear c6b1
      try clear p6
      try clear c11
      try clear c12
      try clear c12b0
      try clear c14
      try clear c20
      try clear c21
      try clear c22
      try clear c23
      try clear c23b0
      try clear c23b1
      try clear c23b2
      try clear hcz15_0
      try clear hcz15_1
      try clear hcz15_2
      try clear hcz21_0
      try clear hcz21_1
      try clear hcz21_2
      try clear hcz24_0
      try clear hcz24_1
      try clear hcz24_2
      try clear hcz28_0
      try clear hcz28_1
      try clear hcz28_2
      try clear hcz31_0
      try clear hcz31_1
      try clear hcz31_2
      try clear hcz9_0
      try clear hcz9_1
      try clear hcz9_2
      try clear hfz15_0
      try clear hfz15_1
      try clear hfz15_2
      try clear hfz21_0
      try clear hfz21_1
      try clear hfz21_2
      try clear hfz24_0
      try clear hfz24_1
      try clear hfz24_2
      try clear hfz28_0
      try clear hfz28_1
      try clear hfz28_2
      try clear hfz31_0
      try clear hfz31_1
      try clear hfz31_2
      try clear hfz9_0
      try clear hfz9_1
      try clear hfz9_2
      try clear p2
      obtain ⟨kq, x50_13, rfl, HA, HJ13, HO_11, HO_259001, HO_259002, BK258, HB⟩ := hcut
      cases kq with
      | zero => exact absurd HA.out (by simp [tillerlaw20_SendEnds.j1])
      | succ kj13 =>
       have H := HA.out
       clear HA
       simp only [tillerlaw20_SendEnds.j1] at H
       by_cases c34 : x50_13 = true
       ·subst c34
        have H1 : (some false) = some r := by rw [if_pos rfl] at H; exact H
        clear H
        have H := H1
        clear H1
        exact absurd (Option.some.inj H) (by rw [hr_.out]; decide)
       ·replace c34 := Bool.eq_false_iff.mpr c34
        subst c34
        have H1 : (if (t265.length : Int) = 0 then (none) else (if (Int.tmod a2 (t265.length : Int)) < 0 then (if 0 ≤ (wrap64 ((Int.tmod a2 (t265.length : Int)) + (t265.length : Int))) then (if (wrap64 ((Int.tmod a2 (t265.length : Int)) + (t265.length : Int))) < (t265.length : Int) then ((send_Got.f x259000_1 x259001_1 x259002_1 1 ((rd_T46 t265 (wrap64 ((Int.tmod a2 (t265.length : Int)) + (t265.length : Int)))).f1)).bind fun bt273 => (if bt273.2.2.2 = 0 then (tillerlaw20_SendEnds.l0 kj13 a2 (t251.length : Int) (wrap64 (x10_1 + 1)) bt273.1 bt273.2.1 bt273.2.2.1) else (some false))) else (none)) else (none)) else (if 0 ≤ (Int.tmod a2 (t265.length : Int)) then (if (Int.tmod a2 (t265.length : Int)) < (t265.length : Int) then ((send_Got.f x259000_1 x259001_1 x259002_1 1 ((rd_T46 t265 (Int.tmod a2 (t265.length : Int))).f1)).bind fun bt283 => (if bt283.2.2.2 = 0 then (tillerlaw20_SendEnds.l0 kj13 a2 (t251.length : Int) (wrap64 (x10_1 + 1)) bt283.1 bt283.2.1 bt283.2.2.1) else (some false))) else (none)) else (none)))) = some r := by rw [if_neg (show ¬ (false = true) by decide)] at H; exact H
        clear H
        have H := H1
        clear H1
        by_cases c35 : (t265.length : Int) = 0
        ·rw [if_pos c35] at H
         exact absurd H (by simp)
        ·rw [if_neg c35] at H
         have c35b0 : ((t265.length : Int) == 0) = false := beq_eq_false_iff_ne.mpr c35
         have c35b1 : ((t265.length : Int) != 0) = true := bne_iff_ne.mpr c35
         have c35b2 : ¬ (t265 = []) := fun h_ => c35 (by rw [h_]; rfl)
         by_cases c36 : (Int.tmod a2 (t265.length : Int)) < 0
         ·rw [if_pos c36] at H
          have c36b0 : decide ((Int.tmod a2 (t265.length : Int)) < 0) = true := decide_eq_true c36
          clear c36
          obtain ⟨ji37, hji37⟩ : ∃ j_ : Int, (wrap64 ((Int.tmod a2 (t265.length : Int)) + (t265.length : Int))) = j_ := ⟨_, rfl⟩
          replace H : (if 0 ≤ (ji37) then (if (ji37) < (t265.length : Int) then ((send_Got.f x259000_1 x259001_1 x259002_1 1 ((rd_T46 t265 (ji37)).f1)).bind fun bt273 => (if bt273.2.2.2 = 0 then (tillerlaw20_SendEnds.l0 kj13 a2 (t251.length : Int) (wrap64 (x10_1 + 1)) bt273.1 bt273.2.1 bt273.2.2.1) else (some false))) else (none)) else (none)) = some r := by first | (rw [hji37] at H; exact H) | (simp only [hji37] at H ⊢; exact H)
          have hji37w : (IntKind.i64.wrap ((Int.tmod a2 (t265.length : Int)) + (t265.length : Int))) = ji37 := (i64_w _).trans hji37
          by_cases c38 : 0 ≤ (ji37)
          ·rw [if_pos c38] at H
           have c38b0 : decide (0 ≤ (ji37)) = true := decide_eq_true c38
           clear c38
           by_cases c39 : (ji37) < (t265.length : Int)
           ·rw [if_pos c39] at H
            have c39b0 : decide ((ji37) < (t265.length : Int)) = true := decide_eq_true c39
            clear c39
            replace H := Option.bind_eq_some_iff.mp H
            obtain ⟨⟨t273, t274, t277, t280⟩, A400, H⟩ := H
            replace H : (if t280 = 0 then (tillerlaw20_SendEnds.l0 kj13 a2 (t251.length : Int) (wrap64 (x10_1 + 1)) t273 t274 t277) else (some false)) = some r := H
            have A40 := Aside0.mk A400
            clear A400
            by_cases c41 : t280 = 0
            ·rw [if_pos c41] at H
             have c41b0 : (t280 == 0) = true := beq_iff_eq.mpr c41
             have c41b1 : (t280 != 0) = false := bne_eq_false_iff_eq.mpr c41
             clear c41
             have H' := Aside0.mk H
             clear H
             obtain ⟨Ao42, co42, eo42⟩ := Kd.R_slice HO_11.out
             subst eo42
             try go_wp2
             have n0_ := Aside0.mk (Kd.R_drew HO_11.out)
             have n1_ := Aside0.mk (Kd.V_drew HO_259001.out)
             have n2_ := Aside0.mk (Kd.V_drew HO_259002.out)
             have n3_ := Aside0.mk (blk_drew BK258.out)
             have n4_ := Aside0.mk (below_drew1 HB.out)
             clear HO_11
             clear HO_259001
             clear HO_259002
             clear BK258
             clear HB
             have HO_11 := n0_
             have HO_259001 := n1_
             have HO_259002 := n2_
             have BK258 := n3_
             have HB := n4_
             clear n0_ n1_ n2_ n3_ n4_
             have p272 : 0 ≤ ((ji37) : Int) := ofd_
             have q272 : (ji37) < (t265.length : Int) := ofd_
             obtain ⟨ad272, e272, hx272_0, hx272_1, hx272_2, hx272_3⟩ := at_T46 (Kd.R_reads' HO_11.out).2.2 (ji37) p272 q272
             cases e272
             replace p272 := eq_true p272
             replace q272 := eq_true q272
             refine start_ (n := 13) (S := fun w' => w'.cell? ⟨gb258, 0, none⟩ = some (.int .i64 x259000_1) ∧ w'.cell? ⟨gb258, 1, none⟩ = some (.slice Ao16 x259001_1.length co16) ∧ w'.cell? ⟨gb258, 2, none⟩ = some (.slice Ao17 x259002_1.length co17) ∧ w'.cell? (ad272.add (((ji37)).toNat * 4)) = some (.int .i64 ((rd_T46 t265 (ji37)).f0)) ∧ w'.cell? ⟨(ad272.add (((ji37)).toNat * 4)).block, (ad272.add (((ji37)).toNat * 4)).off + 1, none⟩ = some (.int .i64 ((rd_T46 t265 (ji37)).f1)) ∧ w'.cell? ⟨(ad272.add (((ji37)).toNat * 4)).block, (ad272.add (((ji37)).toNat * 4)).off + 2, none⟩ = some (.int .i64 ((rd_T46 t265 (ji37)).f2)) ∧ w'.cell? ⟨(ad272.add (((ji37)).toNat * 4)).block, (ad272.add (((ji37)).toNat * 4)).off + 3, none⟩ = some (.string ((rd_T46 t265 (ji37)).f3))) (ds := []) T947_0 (by kernel_rfl) rfl rfl ⟨(blk_cell BK258.out 0).trans rfl, (blk_cell BK258.out 1).trans rfl, (blk_cell BK258.out 2).trans rfl, hx272_0, hx272_1, hx272_2, hx272_3⟩ (fun hHeld => ?_); refine with_tabW tillerlaw20_SendEnds.tab14 tillerlaw20_SendEnds.bits14 (fun HT_ HW_ => ?_)
             generalize wc.drew = w43 at HO_11 HO_259001 HO_259002 BK258 HB hx272_0 hx272_1 hx272_2 hx272_3 hHeld ⊢
             refine pure_ (i := 1) (N := some 63) (v := ?_) (a' := ?_) T947_1 rfl rfl (any_of HT_.out (by kernel_rfl)) idq (.inl ⟨by rfl, ?_⟩) ?_ ?_
             rotate_left; ·intro w'; go_simp; with_reducible rfl
             rotate_left; ·simp only [Act.put, sqA, sqB, sqC, i64_w, i32_w]; rfl
             refine pure_ (i := 2) (N := some 64) (v := ?_) (a' := ?_) T947_2 rfl rfl (any_of HT_.out (by kernel_rfl)) idq (.inl ⟨by rfl, ?_⟩) ?_ ?_
             rotate_left; ·intro w'; go_simp; with_reducible rfl
             rotate_left; ·simp only [Act.put, sqA, sqB, sqC, i64_w, i32_w]; rfl
             refine pure_ (i := 3) (N := some 65) (v := ?_) (a' := ?_) T947_3 rfl rfl (any_of HT_.out (by kernel_rfl)) idq (.inl ⟨by rfl, ?_⟩) ?_ ?_
             rotate_left; ·intro w'; go_simp; with_reducible rfl
             rotate_left; ·simp only [Act.put, sqA, sqB, sqC, i64_w, i32_w]; rfl
             refine pure_ (i := 4) (N := some 66) (v := ?_) (a' := ?_) T947_4 rfl rfl (any_of HT_.out (by kernel_rfl)) idq (.inl ⟨by rfl, ?_⟩) ?_ ?_
             rotate_left; ·intro w'; go_simp; with_reducible rfl
             rotate_left; ·simp only [Act.put, sqA, sqB, sqC, i64_w, i32_w]; rfl
             refine take_ (i := 0) (N := some 62) (v := ?_) (a' := ?_) T947_5 rfl rfl (take_ofW HT_.out HW_.out (by kernel_rfl)) idq (.inl ⟨by rfl, ?_⟩) hHeld ?_ ?_
             rotate_left
             ·rintro w' ⟨s0, s1, s2, s3, s4, s5, s6⟩
              go_simp
              with_reducible rfl
             rotate_left; ·simp only [Act.put, sqA, sqB, sqC, i64_w, i32_w]; rfl
             refine take_ (i := 5) (N := some 67) (v := ?_) (a' := ?_) T947_6 rfl rfl (take_ofW HT_.out HW_.out (by kernel_rfl)) idq (.inl ⟨by rfl, ?_⟩) hHeld ?_ ?_
             rotate_left
             ·rintro w' ⟨s0, s1, s2, s3, s4, s5, s6⟩
              go_simp
              with_reducible rfl
             rotate_left; ·simp only [Act.put, sqA, sqB, sqC, i64_w, i32_w]; rfl
             refine join_ (σ := Value × Value × Nat) 2 T947_7 (fun s_ => [(68, .tuple #[.agg #[.int .i64 t273, s_.1, s_.2.1], .int .i64 t280]), (13, .pointer (some ⟨s_.2.2, 0, none⟩)), (61, .tuple #[.agg #[.int .i64 t273, s_.1, s_.2.1], .int .i64 t280]), (69, .agg #[.int .i64 t273, s_.1, s_.2.1]), (70, .int .i64 t280)]) (fun s_ w' => (w'.cell? ⟨gb258, 0, none⟩ = some (.int .i64 x259000_1) ∧ w'.cell? ⟨gb258, 1, none⟩ = some (.slice Ao16 x259001_1.length co16) ∧ w'.cell? ⟨gb258, 2, none⟩ = some (.slice Ao17 x259002_1.length co17) ∧ w'.cell? (ad272.add (((ji37)).toNat * 4)) = some (.int .i64 ((rd_T46 t265 (ji37)).f0)) ∧ w'.cell? ⟨(ad272.add (((ji37)).toNat * 4)).block, (ad272.add (((ji37)).toNat * 4)).off + 1, none⟩ = some (.int .i64 ((rd_T46 t265 (ji37)).f1)) ∧ w'.cell? ⟨(ad272.add (((ji37)).toNat * 4)).block, (ad272.add (((ji37)).toNat * 4)).off + 2, none⟩ = some (.int .i64 ((rd_T46 t265 (ji37)).f2)) ∧ w'.cell? ⟨(ad272.add (((ji37)).toNat * 4)).block, (ad272.add (((ji37)).toNat * 4)).off + 3, none⟩ = some (.string ((rd_T46 t265 (ji37)).f3))) ∧ (Kd.V Kd.string 9 w' w.heap.size (fun k_ => some k_ ≠ (.slice (some ad272) t265.length co42 : Value).ownBlock ∧ k_ ≠ gb258 ∧ k_ ≠ s_.2.2) s_.1 t274) ∧ (Kd.V Kd.bool 4 w' w.heap.size (fun k_ => some k_ ≠ (.slice (some ad272) t265.length co42 : Value).ownBlock ∧ k_ ≠ gb258 ∧ k_ ≠ s_.2.2) s_.2.1 t277) ∧ (Kd.R k46 46 w' w.heap.size (fun _ => True) (.slice (some ad272) t265.length co42) t265) ∧ (Kd.V Kd.string 9 w' w.heap.size (fun k_ => some k_ ≠ (.slice (some ad272) t265.length co42 : Value).ownBlock ∧ k_ ≠ gb258 ∧ k_ ≠ s_.2.2) (.slice Ao16 x259001_1.length co16) x259001_1) ∧ (Kd.V Kd.bool 4 w' w.heap.size (fun k_ => some k_ ≠ (.slice (some ad272) t265.length co42 : Value).ownBlock ∧ k_ ≠ gb258 ∧ k_ ≠ s_.2.2) (.slice Ao17 x259002_1.length co17) x259002_1) ∧ (w'.heap[gb258]? = some (.cells #[.int .i64 x259000_1, .slice Ao16 x259001_1.length co16, .slice Ao17 x259002_1.length co17] 32 (0, 0))) ∧ (w'.heap[s_.2.2]? = some (.cells #[.int .i64 0, .slice none 0 0, .slice none 0 0] 32 (0, 0))) ∧ (w.heap.size ≤ s_.2.2) ∧ (w.heap.size ≤ s_.2.2) ∧ (gb258 ≠ s_.2.2) ∧ (s_.2.2 ≠ gb258) ∧ (Below w.heap.size w w')) ?_ ?_
             rotate_left
             ·intro hCont
              refine two_ (i := 6) (j := 10) (Ni := some 68) (Nj := some 13) T947_8 T947_9 rfl rfl rfl rfl (two_of HT_.out (by kernel_rfl)) (by decide) (by decide) (fun K hK => ?_) (fun K hK => ?_)
              ·skip
               refine goes_ Try.func17 (by kernel_rfl) rfl #[.agg #[.int .i64 x259000_1, .slice Ao16 x259001_1.length co16, .slice Ao17 x259002_1.length co17], .int .i64 1, .int .i64 ((rd_T46 t265 (ji37)).f1)] (by rfl) rfl rfl (by (try simp only [List.map_toArray, List.map_cons, List.map_nil]); first | done | (simp only [hji37]; rfl) | rfl | (simp only [List.length_drop, List.length_take]; rfl)) ?_
               with_reducible refine (send_Got.calls x259000_1 (fun k_ => (some k_ ≠ (.slice (some ad272) t265.length co42 : Value).ownBlock ∧ k_ ≠ gb258)) _ _ x259001_1 (fun k_ => (some k_ ≠ (.slice (some ad272) t265.length co42 : Value).ownBlock ∧ k_ ≠ gb258)) _ _ x259002_1 1 ((rd_T46 t265 (ji37)).f1) t273 t274 t277 t280 _ ?side1 ?side2 A40.out).mono ?_
               (case side1 => exact HO_259001.out)
               (case side2 => exact HO_259002.out)
               rintro e w44 ⟨v275, v278, rfl, ho0, ho1, hb⟩
               have HS3_ := (hb.cell (World.block_lt_of_cell? _ _ (hHeld.2.2.2.1))).trans (hHeld.2.2.2.1)
               have HS4_ := (hb.cell (World.block_lt_of_cell? _ _ (hHeld.2.2.2.2.1))).trans (hHeld.2.2.2.2.1)
               have HS5_ := (hb.cell (World.block_lt_of_cell? _ _ (hHeld.2.2.2.2.2.1))).trans (hHeld.2.2.2.2.2.1)
               have HS6_ := (hb.cell (World.block_lt_of_cell? _ _ (hHeld.2.2.2.2.2.2))).trans (hHeld.2.2.2.2.2.2)
               refine ⟨_, rfl, ?_⟩
               have n0_ := Aside0.mk (Kd.R_below (by (with_reducible repeat (first | apply rwA | apply rwN | apply rwD)); exact HO_11.out) hb)
               have n1_ := Aside0.mk (Kd.V_below (by (with_reducible repeat (first | apply Kd.V_alloc | apply Kd.V_drewN | apply Kd.V_drew)); exact HO_259001.out) hb)
               have n2_ := Aside0.mk (Kd.V_below (by (with_reducible repeat (first | apply Kd.V_alloc | apply Kd.V_drewN | apply Kd.V_drew)); exact HO_259002.out) hb)
               have n3_ := Aside0.mk (Kd.V_lower (Kd.V_mono (ok' := fun k_ => some k_ ≠ (.slice (some ad272) t265.length co42 : Value).ownBlock ∧ k_ ≠ gb258) ho0 (fun k_ hk_ => ⟨Or.elim hk_ (fun hs_ => Or.elim hs_ (fun hs_ => hs_.1) (fun hs_ => hs_.1)) (fun hn_ => (Kd.fresh' (Kd.R_lt (by (with_reducible repeat (first | apply rwA | apply rwN | apply rwD)); exact HO_11.out)) k_ hn_)), Or.elim hk_ (fun hs_ => Or.elim hs_ (fun hs_ => hs_.2) (fun hs_ => hs_.2)) (fun hn_ => (Kd.freshB (g := gb258) (o := .cells #[.int .i64 x259000_1, .slice Ao16 x259001_1.length co16, .slice Ao17 x259002_1.length co17] 32 (0, 0)) (by (with_reducible repeat (first | apply bkN | apply bkD | apply bkA)); exact BK258.out) k_ hn_))⟩)) (below_size (by repeat (first | (with_reducible first | exact HB.out | apply bwA | apply bwN | apply bwD | refine below_set ?_ GE258.out) | exact HB.out))))
               have n4_ := Aside0.mk (Kd.V_lower (Kd.V_mono (ok' := fun k_ => some k_ ≠ (.slice (some ad272) t265.length co42 : Value).ownBlock ∧ k_ ≠ gb258) ho1 (fun k_ hk_ => ⟨Or.elim hk_ (fun hs_ => Or.elim hs_ (fun hs_ => hs_.1) (fun hs_ => hs_.1)) (fun hn_ => (Kd.fresh' (Kd.R_lt (by (with_reducible repeat (first | apply rwA | apply rwN | apply rwD)); exact HO_11.out)) k_ hn_)), Or.elim hk_ (fun hs_ => Or.elim hs_ (fun hs_ => hs_.2) (fun hs_ => hs_.2)) (fun hn_ => (Kd.freshB (g := gb258) (o := .cells #[.int .i64 x259000_1, .slice Ao16 x259001_1.length co16, .slice Ao17 x259002_1.length co17] 32 (0, 0)) (by (with_reducible repeat (first | apply bkN | apply bkD | apply bkA)); exact BK258.out) k_ hn_))⟩)) (below_size (by repeat (first | (with_reducible first | exact HB.out | apply bwA | apply bwN | apply bwD | refine below_set ?_ GE258.out) | exact HB.out))))
               have n5_ := Aside0.mk (blk_below (g := gb258) (o := .cells #[.int .i64 x259000_1, .slice Ao16 x259001_1.length co16, .slice Ao17 x259002_1.length co17] 32 (0, 0)) (by (with_reducible repeat (first | apply bkN | apply bkD | apply bkA)); exact BK258.out) hb)
               have n6_ := Aside0.mk (below_step (by repeat (first | (with_reducible first | exact HB.out | apply bwA | apply bwN | apply bwD | refine below_set ?_ GE258.out) | exact HB.out)) hb)
               clear HO_11
               clear HO_259001
               clear HO_259002
               clear BK258
               clear HB
               have HO_11 := n0_
               have HO_259001 := n1_
               have HO_259002 := n2_
               have HO276 := n3_
               have HO279 := n4_
               have BK258 := n5_
               have HB := n6_
               clear n0_ n1_ n2_ n3_ n4_ n5_ n6_
               (try clear hb)
               (try clear hb2)
               (try clear hk)
               (try clear hi)
               (try clear ho0)
               (try clear ho1)
               refine hK.out _ _ ⟨(blk_cell BK258.out 0).trans rfl, (blk_cell BK258.out 1).trans rfl, (blk_cell BK258.out 2).trans rfl, HS3_, HS4_, HS5_, HS6_⟩ (fun hHeld => ?_)
               clear hK K
               refine norm_ (a' := ?_) ?_ ?_
               rotate_left
               ·show Act.put _ (some 68) _ = _
                simp only [Act.put, sqA, sqB, sqC, i64_w, i32_w]
                rfl
               refine pure_ (i := 7) (N := some 61) (v := ?_) (a' := ?_) T947_10 rfl rfl (any_of HT_.out (by kernel_rfl)) idq (.inl ⟨by rfl, ?_⟩) ?_ ?_
               rotate_left; ·intro w'; go_simp; with_reducible rfl
               rotate_left; ·simp only [Act.put, sqA, sqB, sqC, i64_w, i32_w]; rfl
               refine pure_ (i := 8) (N := some 69) (v := ?_) (a' := ?_) T947_11 rfl rfl (any_of HT_.out (by kernel_rfl)) idq (.inl ⟨by rfl, ?_⟩) ?_ ?_
               rotate_left; ·intro w'; go_simp; with_reducible rfl
               rotate_left; ·simp only [Act.put, sqA, sqB, sqC, i64_w, i32_w]; rfl
               refine pure_ (i := 9) (N := some 70) (v := ?_) (a' := ?_) T947_12 rfl rfl (any_of HT_.out (by kernel_rfl)) idq (.inl ⟨by rfl, ?_⟩) ?_ ?_
               rotate_left; ·intro w'; go_simp; with_reducible rfl
               rotate_left; ·simp only [Act.put, sqA, sqB, sqC, i64_w, i32_w]; rfl
               refine one_ (i := 10) (N := some 13) T947_7 rfl rfl (one_of HT_.out (by kernel_rfl)) (by decide) (fun K hK => ?_)
               refine box_step ?hg (N := 13) ?hd (cs := #[.int .i64 0, .slice none 0 0, .slice none 0 0]) (t := 32) ?hr ?_; (case hd => rfl); (case hg => rfl); (case hr => first | (go_simp; done) | (go_simp; rfl))
               intro gb281 hg w45 hbox hb
               have HS3_ := (hb.cell (World.block_lt_of_cell? _ _ (hHeld.2.2.2.1))).trans (hHeld.2.2.2.1)
               have HS4_ := (hb.cell (World.block_lt_of_cell? _ _ (hHeld.2.2.2.2.1))).trans (hHeld.2.2.2.2.1)
               have HS5_ := (hb.cell (World.block_lt_of_cell? _ _ (hHeld.2.2.2.2.2.1))).trans (hHeld.2.2.2.2.2.1)
               have HS6_ := (hb.cell (World.block_lt_of_cell? _ _ (hHeld.2.2.2.2.2.2))).trans (hHeld.2.2.2.2.2.2)
               have n0_ := Aside0.mk (Kd.R_below (by (with_reducible repeat (first | apply rwA | apply rwN | apply rwD)); exact HO_11.out) hb)
               have n1_ := Aside0.mk (Kd.V_below (Kd.V_elderB (by (with_reducible repeat (first | apply Kd.V_alloc | apply Kd.V_drewN | apply Kd.V_drew)); exact HO_259001.out) gb281 (Nat.le_of_eq hg.symm)) hb)
               have n2_ := Aside0.mk (Kd.V_below (Kd.V_elderB (by (with_reducible repeat (first | apply Kd.V_alloc | apply Kd.V_drewN | apply Kd.V_drew)); exact HO_259002.out) gb281 (Nat.le_of_eq hg.symm)) hb)
               have n3_ := Aside0.mk (Kd.V_below (Kd.V_elderB (by (with_reducible repeat (first | apply Kd.V_alloc | apply Kd.V_drewN | apply Kd.V_drew)); exact HO276.out) gb281 (Nat.le_of_eq hg.symm)) hb)
               have n4_ := Aside0.mk (Kd.V_below (Kd.V_elderB (by (with_reducible repeat (first | apply Kd.V_alloc | apply Kd.V_drewN | apply Kd.V_drew)); exact HO279.out) gb281 (Nat.le_of_eq hg.symm)) hb)
               have n5_ := Aside0.mk (blk_below (g := gb258) (o := .cells #[.int .i64 x259000_1, .slice Ao16 x259001_1.length co16, .slice Ao17 x259002_1.length co17] 32 (0, 0)) (by (with_reducible repeat (first | apply bkN | apply bkD | apply bkA)); exact BK258.out) hb)
               have n6_ := Aside0.mk (below_step (by repeat (first | (with_reducible first | exact HB.out | apply bwA | apply bwN | apply bwD | refine below_set ?_ GE258.out) | exact HB.out)) hb)
               have n7_ := Aside0.mk (hbox)
               have n8_ := Aside0.mk ((by rw [hg]; exact (below_size (by repeat (first | (with_reducible first | exact HB.out | apply bwA | apply bwN | apply bwD | refine below_set ?_ GE258.out) | exact HB.out))) : w.heap.size ≤ gb281))
               have n9_ := Aside0.mk ((by rw [hg]; exact (below_size (by repeat (first | (with_reducible first | exact HB.out | apply bwA | apply bwN | apply bwD | refine below_set ?_ GE258.out) | exact HB.out))) : w.heap.size ≤ gb281))
               have n10_ := Aside0.mk ((by rw [hg]; exact Nat.ne_of_lt (blk_lt (g := gb258) (o := .cells #[.int .i64 x259000_1, .slice Ao16 x259001_1.length co16, .slice Ao17 x259002_1.length co17] 32 (0, 0)) (by (with_reducible repeat (first | apply bkN | apply bkD | apply bkA)); exact BK258.out)) : gb258 ≠ gb281))
               have n11_ := Aside0.mk ((by rw [hg]; exact Nat.ne_of_gt (blk_lt (g := gb258) (o := .cells #[.int .i64 x259000_1, .slice Ao16 x259001_1.length co16, .slice Ao17 x259002_1.length co17] 32 (0, 0)) (by (with_reducible repeat (first | apply bkN | apply bkD | apply bkA)); exact BK258.out)) : gb281 ≠ gb258))
               clear HO_11
               clear HO_259001
               clear HO_259002
               clear HO276
               clear HO279
               clear BK258
               clear HB
               have HO_11 := n0_
               have HO_259001 := n1_
               have HO_259002 := n2_
               have HO276 := n3_
               have HO279 := n4_
               have BK258 := n5_
               have HB := n6_
               have BK281 := n7_
               have GW281 := n8_
               have GE281 := n9_
               have NB258_281 := n10_
               have NB281_258 := n11_
               clear n0_ n1_ n2_ n3_ n4_ n5_ n6_ n7_ n8_ n9_ n10_ n11_
               clear hb hbox hg
               refine hK.out _ _ ⟨(blk_cell BK258.out 0).trans rfl, (blk_cell BK258.out 1).trans rfl, (blk_cell BK258.out 2).trans rfl, HS3_, HS4_, HS5_, HS6_⟩ (fun hHeld => ?_)
               clear hK K
               refine norm_ (a' := ?_) ?_ ?_
               rotate_left
               ·show Act.put _ (some 13) _ = _
                simp only [Act.put, sqA, sqB, sqC, i64_w, i32_w]
                rfl
               exact norm_ (by simp only [putAll, Act.put, List.setIfInBounds_toArray, List.set_cons_zero, List.set_cons_succ]) (hCont (v275, v278, gb281) _ ⟨hHeld, (by (with_reducible repeat (first | apply Kd.V_alloc | apply Kd.V_drewN | apply Kd.V_drew)); exact Kd.V_mono HO276.out (fun _ hk => ⟨hk.1.1, ⟨hk.1.2, hk.2⟩⟩)), (by (with_reducible repeat (first | apply Kd.V_alloc | apply Kd.V_drewN | apply Kd.V_drew)); exact Kd.V_mono HO279.out (fun _ hk => ⟨hk.1.1, ⟨hk.1.2, hk.2⟩⟩)), (by (with_reducible repeat (first | apply rwA | apply rwN | apply rwD)); exact HO_11.out), (by (with_reducible repeat (first | apply Kd.V_alloc | apply Kd.V_drewN | apply Kd.V_drew)); exact Kd.V_mono HO_259001.out (fun _ hk => ⟨hk.1.1, ⟨hk.1.2, hk.2⟩⟩)), (by (with_reducible repeat (first | apply Kd.V_alloc | apply Kd.V_drewN | apply Kd.V_drew)); exact Kd.V_mono HO_259002.out (fun _ hk => ⟨hk.1.1, ⟨hk.1.2, hk.2⟩⟩)), (by (with_reducible repeat (first | apply bkN | apply bkD | apply bkA)); exact BK258.out), (by (with_reducible repeat (first | apply bkN | apply bkD | apply bkA)); exact BK281.out), GW281.out, GE281.out, NB258_281.out, NB281_258.out, (by repeat (first | (with_reducible first | exact HB.out | apply bwA | apply bwN | apply bwD | refine below_set ?_ GE258.out | refine below_set ?_ GE281.out) | exact HB.out))⟩)
              ·skip
               refine box_step ?hg (N := 13) ?hd (cs := #[.int .i64 0, .slice none 0 0, .slice none 0 0]) (t := 32) ?hr ?_; (case hd => rfl); (case hg => rfl); (case hr => first | (go_simp; done) | (go_simp; rfl))
               intro gb281 hg w44 hbox hb
               have HS3_ := (hb.cell (World.block_lt_of_cell? _ _ (hHeld.2.2.2.1))).trans (hHeld.2.2.2.1)
               have HS4_ := (hb.cell (World.block_lt_of_cell? _ _ (hHeld.2.2.2.2.1))).trans (hHeld.2.2.2.2.1)
               have HS5_ := (hb.cell (World.block_lt_of_cell? _ _ (hHeld.2.2.2.2.2.1))).trans (hHeld.2.2.2.2.2.1)
               have HS6_ := (hb.cell (World.block_lt_of_cell? _ _ (hHeld.2.2.2.2.2.2))).trans (hHeld.2.2.2.2.2.2)
               have n0_ := Aside0.mk (Kd.R_below (by (with_reducible repeat (first | apply rwA | apply rwN | apply rwD)); exact HO_11.out) hb)
               have n1_ := Aside0.mk (Kd.V_below (Kd.V_elderB (by (with_reducible repeat (first | apply Kd.V_alloc | apply Kd.V_drewN | apply Kd.V_drew)); exact HO_259001.out) gb281 (Nat.le_of_eq hg.symm)) hb)
               have n2_ := Aside0.mk (Kd.V_below (Kd.V_elderB (by (with_reducible repeat (first | apply Kd.V_alloc | apply Kd.V_drewN | apply Kd.V_drew)); exact HO_259002.out) gb281 (Nat.le_of_eq hg.symm)) hb)
               have n3_ := Aside0.mk (blk_below (g := gb258) (o := .cells #[.int .i64 x259000_1, .slice Ao16 x259001_1.length co16, .slice Ao17 x259002_1.length co17] 32 (0, 0)) (by (with_reducible repeat (first | apply bkN | apply bkD | apply bkA)); exact BK258.out) hb)
               have n4_ := Aside0.mk (below_step (by repeat (first | (with_reducible first | exact HB.out | apply bwA | apply bwN | apply bwD | refine below_set ?_ GE258.out) | exact HB.out)) hb)
               have n5_ := Aside0.mk (hbox)
               have n6_ := Aside0.mk ((by rw [hg]; exact (below_size (by repeat (first | (with_reducible first | exact HB.out | apply bwA | apply bwN | apply bwD | refine below_set ?_ GE258.out) | exact HB.out))) : w.heap.size ≤ gb281))
               have n7_ := Aside0.mk ((by rw [hg]; exact (below_size (by repeat (first | (with_reducible first | exact HB.out | apply bwA | apply bwN | apply bwD | refine below_set ?_ GE258.out) | exact HB.out))) : w.heap.size ≤ gb281))
               have n8_ := Aside0.mk ((by rw [hg]; exact Nat.ne_of_lt (blk_lt (g := gb258) (o := .cells #[.int .i64 x259000_1, .slice Ao16 x259001_1.length co16, .slice Ao17 x259002_1.length co17] 32 (0, 0)) (by (with_reducible repeat (first | apply bkN | apply bkD | apply bkA)); exact BK258.out)) : gb258 ≠ gb281))
               have n9_ := Aside0.mk ((by rw [hg]; exact Nat.ne_of_gt (blk_lt (g := gb258) (o := .cells #[.int .i64 x259000_1, .slice Ao16 x259001_1.length co16, .slice Ao17 x259002_1.length co17] 32 (0, 0)) (by (with_reducible repeat (first | apply bkN | apply bkD | apply bkA)); exact BK258.out)) : gb281 ≠ gb258))
               clear HO_11
               clear HO_259001
               clear HO_259002
               clear BK258
               clear HB
               have HO_11 := n0_
               have HO_259001 := n1_
               have HO_259002 := n2_
               have BK258 := n3_
               have HB := n4_
               have BK281 := n5_
               have GW281 := n6_
               have GE281 := n7_
               have NB258_281 := n8_
               have NB281_258 := n9_
               clear n0_ n1_ n2_ n3_ n4_ n5_ n6_ n7_ n8_ n9_
               clear hb hbox hg
               refine hK.out _ _ ⟨(blk_cell BK258.out 0).trans rfl, (blk_cell BK258.out 1).trans rfl, (blk_cell BK258.out 2).trans rfl, HS3_, HS4_, HS5_, HS6_⟩ (fun hHeld => ?_)
               clear hK K
               refine norm_ (a' := ?_) ?_ ?_
               rotate_left
               ·show Act.put _ (some 13) _ = _
                simp only [Act.put, sqA, sqB, sqC, i64_w, i32_w]
                rfl
               refine one_ (i := 6) (N := some 68) T947_13 rfl rfl (one_of HT_.out (by kernel_rfl)) (by decide) (fun K hK => ?_)
               refine goes_ Try.func17 (by kernel_rfl) rfl #[.agg #[.int .i64 x259000_1, .slice Ao16 x259001_1.length co16, .slice Ao17 x259002_1.length co17], .int .i64 1, .int .i64 ((rd_T46 t265 (ji37)).f1)] (by rfl) rfl rfl (by (try simp only [List.map_toArray, List.map_cons, List.map_nil]); first | done | (simp only [hji37]; rfl) | rfl | (simp only [List.length_drop, List.length_take]; rfl)) ?_
               with_reducible refine (send_Got.calls x259000_1 (fun k_ => ((some k_ ≠ (.slice (some ad272) t265.length co42 : Value).ownBlock ∧ k_ ≠ gb258) ∧ k_ ≠ gb281)) _ _ x259001_1 (fun k_ => ((some k_ ≠ (.slice (some ad272) t265.length co42 : Value).ownBlock ∧ k_ ≠ gb258) ∧ k_ ≠ gb281)) _ _ x259002_1 1 ((rd_T46 t265 (ji37)).f1) t273 t274 t277 t280 _ ?side1 ?side2 A40.out).mono ?_
               (case side1 => exact HO_259001.out)
               (case side2 => exact HO_259002.out)
               rintro e w45 ⟨v275, v278, rfl, ho0, ho1, hb⟩
               have HS3_ := (hb.cell (World.block_lt_of_cell? _ _ (hHeld.2.2.2.1))).trans (hHeld.2.2.2.1)
               have HS4_ := (hb.cell (World.block_lt_of_cell? _ _ (hHeld.2.2.2.2.1))).trans (hHeld.2.2.2.2.1)
               have HS5_ := (hb.cell (World.block_lt_of_cell? _ _ (hHeld.2.2.2.2.2.1))).trans (hHeld.2.2.2.2.2.1)
               have HS6_ := (hb.cell (World.block_lt_of_cell? _ _ (hHeld.2.2.2.2.2.2))).trans (hHeld.2.2.2.2.2.2)
               refine ⟨_, rfl, ?_⟩
               have n0_ := Aside0.mk (Kd.R_below (by (with_reducible repeat (first | apply rwA | apply rwN | apply rwD)); exact HO_11.out) hb)
               have n1_ := Aside0.mk (Kd.V_below (by (with_reducible repeat (first | apply Kd.V_alloc | apply Kd.V_drewN | apply Kd.V_drew)); exact HO_259001.out) hb)
               have n2_ := Aside0.mk (Kd.V_below (by (with_reducible repeat (first | apply Kd.V_alloc | apply Kd.V_drewN | apply Kd.V_drew)); exact HO_259002.out) hb)
               have n3_ := Aside0.mk (Kd.V_lower (Kd.V_mono (ok' := fun k_ => some k_ ≠ (.slice (some ad272) t265.length co42 : Value).ownBlock ∧ k_ ≠ gb258 ∧ k_ ≠ gb281) ho0 (fun k_ hk_ => ⟨Or.elim hk_ (fun hs_ => Or.elim hs_ (fun hs_ => hs_.1.1) (fun hs_ => hs_.1.1)) (fun hn_ => (Kd.fresh' (Kd.R_lt (by (with_reducible repeat (first | apply rwA | apply rwN | apply rwD)); exact HO_11.out)) k_ hn_)), Or.elim hk_ (fun hs_ => Or.elim hs_ (fun hs_ => hs_.1.2) (fun hs_ => hs_.1.2)) (fun hn_ => (Kd.freshB (g := gb258) (o := .cells #[.int .i64 x259000_1, .slice Ao16 x259001_1.length co16, .slice Ao17 x259002_1.length co17] 32 (0, 0)) (by (with_reducible repeat (first | apply bkN | apply bkD | apply bkA)); exact BK258.out) k_ hn_)), Or.elim hk_ (fun hs_ => Or.elim hs_ (fun hs_ => hs_.2) (fun hs_ => hs_.2)) (fun hn_ => (Kd.freshB (g := gb281) (o := .cells #[.int .i64 0, .slice none 0 0, .slice none 0 0] 32 (0, 0)) (by (with_reducible repeat (first | apply bkN | apply bkD | apply bkA)); exact BK281.out) k_ hn_))⟩)) (below_size (by repeat (first | (with_reducible first | exact HB.out | apply bwA | apply bwN | apply bwD | refine below_set ?_ GE258.out | refine below_set ?_ GE281.out) | exact HB.out))))
               have n4_ := Aside0.mk (Kd.V_lower (Kd.V_mono (ok' := fun k_ => some k_ ≠ (.slice (some ad272) t265.length co42 : Value).ownBlock ∧ k_ ≠ gb258 ∧ k_ ≠ gb281) ho1 (fun k_ hk_ => ⟨Or.elim hk_ (fun hs_ => Or.elim hs_ (fun hs_ => hs_.1.1) (fun hs_ => hs_.1.1)) (fun hn_ => (Kd.fresh' (Kd.R_lt (by (with_reducible repeat (first | apply rwA | apply rwN | apply rwD)); exact HO_11.out)) k_ hn_)), Or.elim hk_ (fun hs_ => Or.elim hs_ (fun hs_ => hs_.1.2) (fun hs_ => hs_.1.2)) (fun hn_ => (Kd.freshB (g := gb258) (o := .cells #[.int .i64 x259000_1, .slice Ao16 x259001_1.length co16, .slice Ao17 x259002_1.length co17] 32 (0, 0)) (by (with_reducible repeat (first | apply bkN | apply bkD | apply bkA)); exact BK258.out) k_ hn_)), Or.elim hk_ (fun hs_ => Or.elim hs_ (fun hs_ => hs_.2) (fun hs_ => hs_.2)) (fun hn_ => (Kd.freshB (g := gb281) (o := .cells #[.int .i64 0, .slice none 0 0, .slice none 0 0] 32 (0, 0)) (by (with_reducible repeat (first | apply bkN | apply bkD | apply bkA)); exact BK281.out) k_ hn_))⟩)) (below_size (by repeat (first | (with_reducible first | exact HB.out | apply bwA | apply bwN | apply bwD | refine below_set ?_ GE258.out | refine below_set ?_ GE281.out) | exact HB.out))))
               have n5_ := Aside0.mk (blk_below (g := gb258) (o := .cells #[.int .i64 x259000_1, .slice Ao16 x259001_1.length co16, .slice Ao17 x259002_1.length co17] 32 (0, 0)) (by (with_reducible repeat (first | apply bkN | apply bkD | apply bkA)); exact BK258.out) hb)
               have n6_ := Aside0.mk (blk_below (g := gb281) (o := .cells #[.int .i64 0, .slice none 0 0, .slice none 0 0] 32 (0, 0)) (by (with_reducible repeat (first | apply bkN | apply bkD | apply bkA)); exact BK281.out) hb)
               have n7_ := Aside0.mk (below_step (by repeat (first | (with_reducible first | exact HB.out | apply bwA | apply bwN | apply bwD | refine below_set ?_ GE258.out | refine below_set ?_ GE281.out) | exact HB.out)) hb)
               clear HO_11
               clear HO_259001
               clear HO_259002
               clear BK258
               clear BK281
               clear HB
               have HO_11 := n0_
               have HO_259001 := n1_
               have HO_259002 := n2_
               have HO276 := n3_
               have HO279 := n4_
               have BK258 := n5_
               have BK281 := n6_
               have HB := n7_
               clear n0_ n1_ n2_ n3_ n4_ n5_ n6_ n7_
               (try clear hb)
               (try clear hb2)
               (try clear hk)
               (try clear hi)
               (try clear ho0)
               (try clear ho1)
               refine hK.out _ _ ⟨(blk_cell BK258.out 0).trans rfl, (blk_cell BK258.out 1).trans rfl, (blk_cell BK258.out 2).trans rfl, HS3_, HS4_, HS5_, HS6_⟩ (fun hHeld => ?_)
               clear hK K
               refine norm_ (a' := ?_) ?_ ?_
               rotate_left
               ·show Act.put _ (some 68) _ = _
                simp only [Act.put, sqA, sqB, sqC, i64_w, i32_w]
                rfl
               refine pure_ (i := 7) (N := some 61) (v := ?_) (a' := ?_) T947_14 rfl rfl (any_of HT_.out (by kernel_rfl)) idq (.inl ⟨by rfl, ?_⟩) ?_ ?_
               rotate_left; ·intro w'; go_simp; with_reducible rfl
               rotate_left; ·simp only [Act.put, sqA, sqB, sqC, i64_w, i32_w]; rfl
               refine pure_ (i := 8) (N := some 69) (v := ?_) (a' := ?_) T947_15 rfl rfl (any_of HT_.out (by kernel_rfl)) idq (.inl ⟨by rfl, ?_⟩) ?_ ?_
               rotate_left; ·intro w'; go_simp; with_reducible rfl
               rotate_left; ·simp only [Act.put, sqA, sqB, sqC, i64_w, i32_w]; rfl
               refine pure_ (i := 9) (N := some 70) (v := ?_) (a' := ?_) T947_7 rfl rfl (any_of HT_.out (by kernel_rfl)) idq (.inl ⟨by rfl, ?_⟩) ?_ ?_
               rotate_left; ·intro w'; go_simp; with_reducible rfl
               rotate_left; ·simp only [Act.put, sqA, sqB, sqC, i64_w, i32_w]; rfl
               exact norm_ (by simp only [putAll, Act.put, List.setIfInBounds_toArray, List.set_cons_zero, List.set_cons_succ]) (hCont (v275, v278, gb281) _ ⟨hHeld, (by (with_reducible repeat (first | apply Kd.V_alloc | apply Kd.V_drewN | apply Kd.V_drew)); exact HO276.out), (by (with_reducible repeat (first | apply Kd.V_alloc | apply Kd.V_drewN | apply Kd.V_drew)); exact HO279.out), (by (with_reducible repeat (first | apply rwA | apply rwN | apply rwD)); exact HO_11.out), (by (with_reducible repeat (first | apply Kd.V_alloc | apply Kd.V_drewN | apply Kd.V_drew)); exact Kd.V_mono HO_259001.out (fun _ hk => ⟨hk.1.1, ⟨hk.1.2, hk.2⟩⟩)), (by (with_reducible repeat (first | apply Kd.V_alloc | apply Kd.V_drewN | apply Kd.V_drew)); exact Kd.V_mono HO_259002.out (fun _ hk => ⟨hk.1.1, ⟨hk.1.2, hk.2⟩⟩)), (by (with_reducible repeat (first | apply bkN | apply bkD | apply bkA)); exact BK258.out), (by (with_reducible repeat (first | apply bkN | apply bkD | apply bkA)); exact BK281.out), GW281.out, GE281.out, NB258_281.out, NB281_258.out, (by repeat (first | (with_reducible first | exact HB.out | apply bwA | apply bwN | apply bwD | refine below_set ?_ GE258.out | refine below_set ?_ GE281.out) | exact HB.out))⟩)
             rintro ⟨v275, v278, gb281⟩ w46 ⟨hS_, h0_, h1_, h2_, h3_, h4_, h5_, h6_, h7_, h8_, h9_, h10_, h11_⟩
             have n0_ : Aside0 (Kd.V Kd.string 9 w46 w.heap.size (fun k_ => some k_ ≠ (.slice (some ad272) t265.length co42 : Value).ownBlock ∧ k_ ≠ gb258 ∧ k_ ≠ gb281) v275 t274) := ⟨h0_⟩
             have n1_ : Aside0 (Kd.V Kd.bool 4 w46 w.heap.size (fun k_ => some k_ ≠ (.slice (some ad272) t265.length co42 : Value).ownBlock ∧ k_ ≠ gb258 ∧ k_ ≠ gb281) v278 t277) := ⟨h1_⟩
             have n2_ : Aside0 (Kd.R k46 46 w46 w.heap.size (fun _ => True) (.slice (some ad272) t265.length co42) t265) := ⟨h2_⟩
             have n3_ : Aside0 (Kd.V Kd.string 9 w46 w.heap.size (fun k_ => some k_ ≠ (.slice (some ad272) t265.length co42 : Value).ownBlock ∧ k_ ≠ gb258 ∧ k_ ≠ gb281) (.slice Ao16 x259001_1.length co16) x259001_1) := ⟨h3_⟩
             have n4_ : Aside0 (Kd.V Kd.bool 4 w46 w.heap.size (fun k_ => some k_ ≠ (.slice (some ad272) t265.length co42 : Value).ownBlock ∧ k_ ≠ gb258 ∧ k_ ≠ gb281) (.slice Ao17 x259002_1.length co17) x259002_1) := ⟨h4_⟩
             have n5_ : Aside0 (w46.heap[gb258]? = some (.cells #[.int .i64 x259000_1, .slice Ao16 x259001_1.length co16, .slice Ao17 x259002_1.length co17] 32 (0, 0))) := ⟨h5_⟩
             have n6_ : Aside0 (w46.heap[gb281]? = some (.cells #[.int .i64 0, .slice none 0 0, .slice none 0 0] 32 (0, 0))) := ⟨h6_⟩
             have n7_ : Aside0 (w.heap.size ≤ gb281) := ⟨h7_⟩
             have n8_ : Aside0 (w.heap.size ≤ gb281) := ⟨h8_⟩
             have n9_ : Aside0 (gb258 ≠ gb281) := ⟨h9_⟩
             have n10_ : Aside0 (gb281 ≠ gb258) := ⟨h10_⟩
             have n11_ : Aside0 (Below w.heap.size w w46) := ⟨h11_⟩
             clear HO_11
             clear HO_259001
             clear HO_259002
             clear BK258
             clear HB
             clear h0_ h1_ h2_ h3_ h4_ h5_ h6_ h7_ h8_ h9_ h10_ h11_
             have HO276 := n0_
             have HO279 := n1_
             have HO_11 := n2_
             have HO_259001 := n3_
             have HO_259002 := n4_
             have BK258 := n5_
             have BK281 := n6_
             have GW281 := n7_
             have GE281 := n8_
             have NB258_281 := n9_
             have NB281_258 := n10_
             have HB := n11_
             clear n0_ n1_ n2_ n3_ n4_ n5_ n6_ n7_ n8_ n9_ n10_ n11_
             have hHeld : w46.cell? ⟨gb258, 0, none⟩ = some (.int .i64 x259000_1) ∧ w46.cell? ⟨gb258, 1, none⟩ = some (.slice Ao16 x259001_1.length co16) ∧ w46.cell? ⟨gb258, 2, none⟩ = some (.slice Ao17 x259002_1.length co17) ∧ w46.cell? (ad272.add (((ji37)).toNat * 4)) = some (.int .i64 ((rd_T46 t265 (ji37)).f0)) ∧ w46.cell? ⟨(ad272.add (((ji37)).toNat * 4)).block, (ad272.add (((ji37)).toNat * 4)).off + 1, none⟩ = some (.int .i64 ((rd_T46 t265 (ji37)).f1)) ∧ w46.cell? ⟨(ad272.add (((ji37)).toNat * 4)).block, (ad272.add (((ji37)).toNat * 4)).off + 2, none⟩ = some (.int .i64 ((rd_T46 t265 (ji37)).f2)) ∧ w46.cell? ⟨(ad272.add (((ji37)).toNat * 4)).block, (ad272.add (((ji37)).toNat * 4)).off + 3, none⟩ = some (.string ((rd_T46 t265 (ji37)).f3)) := hS_
             obtain ⟨Ao48, co48, eo48⟩ := Kd.V_slice HO276.out
             (first | subst eo48 | (injection eo48 with f1_ f2_ f3_; have f4_ := f1_.symm; have f5_ := f3_.symm; clear f1_ f2_ f3_; subst f4_; subst f5_))
             obtain ⟨Ao50, co50, eo50⟩ := Kd.V_slice HO279.out
             (first | subst eo50 | (injection eo50 with f1_ f2_ f3_; have f4_ := f1_.symm; have f5_ := f3_.symm; clear f1_ f2_ f3_; subst f4_; subst f5_))
             refine norm_ (a' := ?_) ?_ ?_
             rotate_left; ·simp only [putAll, Act.put, List.setIfInBounds_toArray, List.set_cons_zero, List.set_cons_succ]; rfl
             refine one_ (i := 11) (N := none) T947_16 rfl rfl (one_of HT_.out (by kernel_rfl)) (by decide) (fun K hK => ?_)
             have hs47 : w46.cell? ⟨gb281, 0, none⟩ = some (.int .i64 0) := (blk_cell BK281.out 0).trans rfl
             have hfs47 := blk_frozen BK281.out 0
             have hns47_0 := NB258_281.out
             have hms47_0 := NB281_258.out
             have hs49 : w46.cell? ⟨gb281, 1, none⟩ = some (.slice none 0 0) := (blk_cell BK281.out 1).trans rfl
             have hfs49 := blk_frozen BK281.out 1
             have hns49_0 := NB258_281.out
             have hms49_0 := NB281_258.out
             have hs51 : w46.cell? ⟨gb281, 2, none⟩ = some (.slice none 0 0) := (blk_cell BK281.out 2).trans rfl
             have hfs51 := blk_frozen BK281.out 2
             have hns51_0 := NB258_281.out
             have hms51_0 := NB281_258.out
             refine skip_ (w1 := ?_) (by rfl) rfl ?_ ?_
             rotate_left; ·go_simp; rfl
             refine hK.out _ _ ⟨((cell_far (p := ⟨gb281, _, none⟩) NB258_281.out _).trans (((cell_far (p := ⟨gb281, _, none⟩) NB258_281.out _).trans (((cell_far (p := ⟨gb281, _, none⟩) NB258_281.out _).trans (hHeld.1)))))), ((cell_far (p := ⟨gb281, _, none⟩) NB258_281.out _).trans (((cell_far (p := ⟨gb281, _, none⟩) NB258_281.out _).trans (((cell_far (p := ⟨gb281, _, none⟩) NB258_281.out _).trans (hHeld.2.1)))))), ((cell_far (p := ⟨gb281, _, none⟩) NB258_281.out _).trans (((cell_far (p := ⟨gb281, _, none⟩) NB258_281.out _).trans (((cell_far (p := ⟨gb281, _, none⟩) NB258_281.out _).trans (hHeld.2.2.1)))))), ((cell_far (p := ⟨gb281, _, none⟩) (by first | exact Kd.own_blk (Kd.R_ne HO_11.out BK281.out (by decide)) | (rw [add_block]; exact Kd.own_blk (Kd.R_ne HO_11.out BK281.out (by decide))) | (show (Addr.add _ _).block ≠ _; rw [add_block]; exact Kd.own_blk (Kd.R_ne HO_11.out BK281.out (by decide))) | (dsimp only; exact Kd.own_blk (Kd.R_ne HO_11.out BK281.out (by decide)))) _).trans (((cell_far (p := ⟨gb281, _, none⟩) (by first | exact Kd.own_blk (Kd.R_ne HO_11.out BK281.out (by decide)) | (rw [add_block]; exact Kd.own_blk (Kd.R_ne HO_11.out BK281.out (by decide))) | (show (Addr.add _ _).block ≠ _; rw [add_block]; exact Kd.own_blk (Kd.R_ne HO_11.out BK281.out (by decide))) | (dsimp only; exact Kd.own_blk (Kd.R_ne HO_11.out BK281.out (by decide)))) _).trans (((cell_far (p := ⟨gb281, _, none⟩) (by first | exact Kd.own_blk (Kd.R_ne HO_11.out BK281.out (by decide)) | (rw [add_block]; exact Kd.own_blk (Kd.R_ne HO_11.out BK281.out (by decide))) | (show (Addr.add _ _).block ≠ _; rw [add_block]; exact Kd.own_blk (Kd.R_ne HO_11.out BK281.out (by decide))) | (dsimp only; exact Kd.own_blk (Kd.R_ne HO_11.out BK281.out (by decide)))) _).trans (hHeld.2.2.2.1)))))), ((cell_far (p := ⟨gb281, _, none⟩) (by first | exact Kd.own_blk (Kd.R_ne HO_11.out BK281.out (by decide)) | (rw [add_block]; exact Kd.own_blk (Kd.R_ne HO_11.out BK281.out (by decide))) | (show (Addr.add _ _).block ≠ _; rw [add_block]; exact Kd.own_blk (Kd.R_ne HO_11.out BK281.out (by decide))) | (dsimp only; exact Kd.own_blk (Kd.R_ne HO_11.out BK281.out (by decide)))) _).trans (((cell_far (p := ⟨gb281, _, none⟩) (by first | exact Kd.own_blk (Kd.R_ne HO_11.out BK281.out (by decide)) | (rw [add_block]; exact Kd.own_blk (Kd.R_ne HO_11.out BK281.out (by decide))) | (show (Addr.add _ _).block ≠ _; rw [add_block]; exact Kd.own_blk (Kd.R_ne HO_11.out BK281.out (by decide))) | (dsimp only; exact Kd.own_blk (Kd.R_ne HO_11.out BK281.out (by decide)))) _).trans (((cell_far (p := ⟨gb281, _, none⟩) (by first | exact Kd.own_blk (Kd.R_ne HO_11.out BK281.out (by decide)) | (rw [add_block]; exact Kd.own_blk (Kd.R_ne HO_11.out BK281.out (by decide))) | (show (Addr.add _ _).block ≠ _; rw [add_block]; exact Kd.own_blk (Kd.R_ne HO_11.out BK281.out (by decide))) | (dsimp only; exact Kd.own_blk (Kd.R_ne HO_11.out BK281.out (by decide)))) _).trans (hHeld.2.2.2.2.1)))))), ((cell_far (p := ⟨gb281, _, none⟩) (by first | exact Kd.own_blk (Kd.R_ne HO_11.out BK281.out (by decide)) | (rw [add_block]; exact Kd.own_blk (Kd.R_ne HO_11.out BK281.out (by decide))) | (show (Addr.add _ _).block ≠ _; rw [add_block]; exact Kd.own_blk (Kd.R_ne HO_11.out BK281.out (by decide))) | (dsimp only; exact Kd.own_blk (Kd.R_ne HO_11.out BK281.out (by decide)))) _).trans (((cell_far (p := ⟨gb281, _, none⟩) (by first | exact Kd.own_blk (Kd.R_ne HO_11.out BK281.out (by decide)) | (rw [add_block]; exact Kd.own_blk (Kd.R_ne HO_11.out BK281.out (by decide))) | (show (Addr.add _ _).block ≠ _; rw [add_block]; exact Kd.own_blk (Kd.R_ne HO_11.out BK281.out (by decide))) | (dsimp only; exact Kd.own_blk (Kd.R_ne HO_11.out BK281.out (by decide)))) _).trans (((cell_far (p := ⟨gb281, _, none⟩) (by first | exact Kd.own_blk (Kd.R_ne HO_11.out BK281.out (by decide)) | (rw [add_block]; exact Kd.own_blk (Kd.R_ne HO_11.out BK281.out (by decide))) | (show (Addr.add _ _).block ≠ _; rw [add_block]; exact Kd.own_blk (Kd.R_ne HO_11.out BK281.out (by decide))) | (dsimp only; exact Kd.own_blk (Kd.R_ne HO_11.out BK281.out (by decide)))) _).trans (hHeld.2.2.2.2.2.1)))))), ((cell_far (p := ⟨gb281, _, none⟩) (by first | exact Kd.own_blk (Kd.R_ne HO_11.out BK281.out (by decide)) | (rw [add_block]; exact Kd.own_blk (Kd.R_ne HO_11.out BK281.out (by decide))) | (show (Addr.add _ _).block ≠ _; rw [add_block]; exact Kd.own_blk (Kd.R_ne HO_11.out BK281.out (by decide))) | (dsimp only; exact Kd.own_blk (Kd.R_ne HO_11.out BK281.out (by decide)))) _).trans (((cell_far (p := ⟨gb281, _, none⟩) (by first | exact Kd.own_blk (Kd.R_ne HO_11.out BK281.out (by decide)) | (rw [add_block]; exact Kd.own_blk (Kd.R_ne HO_11.out BK281.out (by decide))) | (show (Addr.add _ _).block ≠ _; rw [add_block]; exact Kd.own_blk (Kd.R_ne HO_11.out BK281.out (by decide))) | (dsimp only; exact Kd.own_blk (Kd.R_ne HO_11.out BK281.out (by decide)))) _).trans (((cell_far (p := ⟨gb281, _, none⟩) (by first | exact Kd.own_blk (Kd.R_ne HO_11.out BK281.out (by decide)) | (rw [add_block]; exact Kd.own_blk (Kd.R_ne HO_11.out BK281.out (by decide))) | (show (Addr.add _ _).block ≠ _; rw [add_block]; exact Kd.own_blk (Kd.R_ne HO_11.out BK281.out (by decide))) | (dsimp only; exact Kd.own_blk (Kd.R_ne HO_11.out BK281.out (by decide)))) _).trans (hHeld.2.2.2.2.2.2))))))⟩ (fun hHeld => ?_)
             clear hK K
             refine pure_ (i := 12) (N := some 14) (v := ?_) (a' := ?_) T947_17 rfl rfl (any_of HT_.out (by kernel_rfl)) idq (.inl ⟨by rfl, ?_⟩) ?_ ?_
             rotate_left; ·intro w'; go_simp; with_reducible rfl
             rotate_left; ·simp only [Act.put, sqA, sqB, sqC, i64_w, i32_w]; rfl
             refine done_ (done_of HT_.out (by kernel_rfl)) ?_
             have hnb52 := NB281_258.out
             have hnc52 := NB258_281.out
             have hcz53_0 : w46.cell? ⟨gb281, 0, none⟩ = some (.int .i64 0) := (blk_cell BK281.out 0).trans rfl
             have hcz53_1 : w46.cell? ⟨gb281, 1, none⟩ = some (.slice none 0 0) := (blk_cell BK281.out 1).trans rfl
             have hcz53_2 : w46.cell? ⟨gb281, 2, none⟩ = some (.slice none 0 0) := (blk_cell BK281.out 2).trans rfl
             have hfz53_0 := blk_frozen BK281.out 0
             have hfz53_1 := blk_frozen BK281.out 1
             have hfz53_2 := blk_frozen BK281.out 2
             have hcz54_0 : w46.cell? ⟨gb258, 0, none⟩ = some (.int .i64 x259000_1) := (blk_cell BK258.out 0).trans rfl
             have hcz54_1 : w46.cell? ⟨gb258, 1, none⟩ = some (.slice Ao16 x259001_1.length co16) := (blk_cell BK258.out 1).trans rfl
             have hcz54_2 : w46.cell? ⟨gb258, 2, none⟩ = some (.slice Ao17 x259002_1.length co17) := (blk_cell BK258.out 2).trans rfl
             have hfz54_0 := blk_frozen BK258.out 0
             have hfz54_1 := blk_frozen BK258.out 1
             have hfz54_2 := blk_frozen BK258.out 2
             try go_wp2
             go_roundg kj13
             case measure => have := HK1.out; have := HJ13.out; omega
             case rel => exact ⟨(wrap64 (x10_1 + 1)), (t273), (t274), (t277), (.slice Ao48 t274.length co48), (.slice Ao50 t277.length co50), (by first | rfl | (simp; done) | (simp [*]; done)), H', ⟨by have := HK1.out; have := HJ13.out; omega⟩, ⟨by (with_reducible repeat (first | apply Kd.V_alloc | apply Kd.V_drewN | apply Kd.V_drew)); exact Kd.V_mono (Kd.V_far (p := ⟨gb258, 2, none⟩) (Kd.V_far (p := ⟨gb258, 1, none⟩) (Kd.V_far (p := ⟨gb258, 0, none⟩) (Kd.V_far (p := ⟨gb281, 2, none⟩) (Kd.V_far (p := ⟨gb281, 1, none⟩) (Kd.V_far (p := ⟨gb281, 0, none⟩) (Kd.V_mono (Kd.V_mono HO276.out (fun k_ hk => (⟨hk, hk.2.2⟩ : _ ∧ k_ ≠ gb281))) (fun k_ hk => (⟨hk, hk.1.2.1⟩ : _ ∧ k_ ≠ gb258))) (fun _ hk => hk.1.2) (.int .i64 t273)) (fun _ hk => hk.1.2) (.slice Ao48 t274.length co48)) (fun _ hk => hk.1.2) (.slice Ao50 t277.length co50)) (fun _ hk => hk.2) (.int .i64 t273)) (fun _ hk => hk.2) (.slice Ao48 t274.length co48)) (fun _ hk => hk.2) (.slice Ao50 t277.length co50)) (fun _ hk => hk.1.1.2.1)⟩, ⟨by (with_reducible repeat (first | apply Kd.V_alloc | apply Kd.V_drewN | apply Kd.V_drew)); exact Kd.V_mono (Kd.V_far (p := ⟨gb258, 2, none⟩) (Kd.V_far (p := ⟨gb258, 1, none⟩) (Kd.V_far (p := ⟨gb258, 0, none⟩) (Kd.V_far (p := ⟨gb281, 2, none⟩) (Kd.V_far (p := ⟨gb281, 1, none⟩) (Kd.V_far (p := ⟨gb281, 0, none⟩) (Kd.V_mono (Kd.V_mono HO279.out (fun k_ hk => (⟨hk, hk.2.2⟩ : _ ∧ k_ ≠ gb281))) (fun k_ hk => (⟨hk, hk.1.2.1⟩ : _ ∧ k_ ≠ gb258))) (fun _ hk => hk.1.2) (.int .i64 t273)) (fun _ hk => hk.1.2) (.slice Ao48 t274.length co48)) (fun _ hk => hk.1.2) (.slice Ao50 t277.length co50)) (fun _ hk => hk.2) (.int .i64 t273)) (fun _ hk => hk.2) (.slice Ao48 t274.length co48)) (fun _ hk => hk.2) (.slice Ao50 t277.length co50)) (fun _ hk => hk.1.1.2.1)⟩, ⟨by (with_reducible repeat (first | apply bkN | apply bkD | apply bkA)); refine blk_put (cs := #[.int .i64 t273, .slice Ao48 t274.length co48, .slice Ao17 x259002_1.length co17]) ?_ 2 _ rfl; (with_reducible repeat (first | apply bkN | apply bkD | apply bkA)); refine blk_put (cs := #[.int .i64 t273, .slice Ao16 x259001_1.length co16, .slice Ao17 x259002_1.length co17]) ?_ 1 _ rfl; (with_reducible repeat (first | apply bkN | apply bkD | apply bkA)); refine blk_put (cs := #[.int .i64 x259000_1, .slice Ao16 x259001_1.length co16, .slice Ao17 x259002_1.length co17]) ?_ 0 _ rfl; (with_reducible repeat (first | apply bkN | apply bkD | apply bkA)); refine blk_far ?_ NB258_281.out _; (with_reducible repeat (first | apply bkN | apply bkD | apply bkA)); refine blk_far ?_ NB258_281.out _; (with_reducible repeat (first | apply bkN | apply bkD | apply bkA)); refine blk_far ?_ NB258_281.out _; (with_reducible repeat (first | apply bkN | apply bkD | apply bkA)); exact BK258.out⟩, ⟨by repeat (first | (with_reducible first | exact HB.out | apply bwA | apply bwN | apply bwD | refine below_set ?_ GE258.out | refine below_set ?_ GE281.out) | exact HB.out)⟩⟩
            ·rw [if_neg c41] at H
             exact absurd (Option.some.inj H) (by rw [hr_.out]; decide)
           ·rw [if_neg c39] at H
            exact absurd H (by simp)
          ·rw [if_neg c38] at H
           exact absurd H (by simp)
         ·rw [if_neg c36] at H
          have c36b0 : decide ((Int.tmod a2 (t265.length : Int)) < 0) = false := decide_eq_false c36
          clear c36
          obtain ⟨ji55, hji55⟩ : ∃ j_ : Int, (Int.tmod a2 (t265.length : Int)) = j_ := ⟨_, rfl⟩
          replace H : (if 0 ≤ (ji55) then (if (ji55) < (t265.length : Int) then ((send_Got.f x259000_1 x259001_1 x259002_1 1 ((rd_T46 t265 (ji55)).f1)).bind fun bt283 => (if bt283.2.2.2 = 0 then (tillerlaw20_SendEnds.l0 kj13 a2 (t251.length : Int) (wrap64 (x10_1 + 1)) bt283.1 bt283.2.1 bt283.2.2.1) else (some false))) else (none)) else (none)) = some r := by first | (rw [hji55] at H; exact H) | (simp only [hji55] at H ⊢; exact H)
          (try rw [hji55] at c36b0)
          by_cases c56 : 0 ≤ (ji55)
          ·rw [if_pos c56] at H
           have c56b0 : decide (0 ≤ (ji55)) = true := decide_eq_true c56
           clear c56
           by_cases c57 : (ji55) < (t265.length : Int)
           ·rw [if_pos c57] at H
            have c57b0 : decide ((ji55) < (t265.length : Int)) = true := decide_eq_true c57
            clear c57
            replace H := Option.bind_eq_some_iff.mp H
            obtain ⟨⟨t283, t284, t287, t290⟩, A580, H⟩ := H
            replace H : (if t290 = 0 then (tillerlaw20_SendEnds.l0 kj13 a2 (t251.length : Int) (wrap64 (x10_1 + 1)) t283 t284 t287) else (some false)) = some r := H
            have A58 := Aside0.mk A580
            clear A580
            by_cases c59 : t290 = 0
            ·rw [if_pos c59] at H
             have c59b0 : (t290 == 0) = true := beq_iff_eq.mpr c59
             have c59b1 : (t290 != 0) = false := bne_eq_false_iff_eq.mpr c59
             clear c59
             have H' := Aside0.mk H
             clear H
             obtain ⟨Ao60, co60, eo60⟩ := Kd.R_slice HO_11.out
             subst eo60
             try go_wp2
             have n0_ := Aside0.mk (Kd.R_drew HO_11.out)
             have n1_ := Aside0.mk (Kd.V_drew HO_259001.out)
             have n2_ := Aside0.mk (Kd.V_drew HO_259002.out)
             have n3_ := Aside0.mk (blk_drew BK258.out)
             have n4_ := Aside0.mk (below_drew1 HB.out)
             clear HO_11
             clear HO_259001
             clear HO_259002
             clear BK258
             clear HB
             have HO_11 := n0_
             have HO_259001 := n1_
             have HO_259002 := n2_
             have BK258 := n3_
             have HB := n4_
             clear n0_ n1_ n2_ n3_ n4_
             have p282 : 0 ≤ ((ji55) : Int) := ofd_
             have q282 : (ji55) < (t265.length : Int) := ofd_
             obtain ⟨ad282, e282, hx282_0, hx282_1, hx282_2, hx282_3⟩ := at_T46 (Kd.R_reads' HO_11.out).2.2 (ji55) p282 q282
             cases e282
             replace p282 := eq_true p282
             replace q282 := eq_true q282
             refine start_ (n := 13) (S := fun w' => w'.cell? ⟨gb258, 0, none⟩ = some (.int .i64 x259000_1) ∧ w'.cell? ⟨gb258, 1, none⟩ = some (.slice Ao16 x259001_1.length co16) ∧ w'.cell? ⟨gb258, 2, none⟩ = some (.slice Ao17 x259002_1.length co17) ∧ w'.cell? (ad282.add (((ji55)).toNat * 4)) = some (.int .i64 ((rd_T46 t265 (ji55)).f0)) ∧ w'.cell? ⟨(ad282.add (((ji55)).toNat * 4)).block, (ad282.add (((ji55)).toNat * 4)).off + 1, none⟩ = some (.int .i64 ((rd_T46 t265 (ji55)).f1)) ∧ w'.cell? ⟨(ad282.add (((ji55)).toNat * 4)).block, (ad282.add (((ji55)).toNat * 4)).off + 2, none⟩ = some (.int .i64 ((rd_T46 t265 (ji55)).f2)) ∧ w'.cell? ⟨(ad282.add (((ji55)).toNat * 4)).block, (ad282.add (((ji55)).toNat * 4)).off + 3, none⟩ = some (.string ((rd_T46 t265 (ji55)).f3))) (ds := []) T947_0 (by kernel_rfl) rfl rfl ⟨(blk_cell BK258.out 0).trans rfl, (blk_cell BK258.out 1).trans rfl, (blk_cell BK258.out 2).trans rfl, hx282_0, hx282_1, hx282_2, hx282_3⟩ (fun hHeld => ?_); refine with_tabW tillerlaw20_SendEnds.tab14 tillerlaw20_SendEnds.bits14 (fun HT_ HW_ => ?_)
             generalize wc.drew = w61 at HO_11 HO_259001 HO_259002 BK258 HB hx282_0 hx282_1 hx282_2 hx282_3 hHeld ⊢
             refine pure_ (i := 1) (N := some 63) (v := ?_) (a' := ?_) T947_1 rfl rfl (any_of HT_.out (by kernel_rfl)) idq (.inl ⟨by rfl, ?_⟩) ?_ ?_
             rotate_left; ·intro w'; go_simp; with_reducible rfl
             rotate_left; ·simp only [Act.put, sqA, sqB, sqC, i64_w, i32_w]; rfl
             refine pure_ (i := 2) (N := some 64) (v := ?_) (a' := ?_) T947_2 rfl rfl (any_of HT_.out (by kernel_rfl)) idq (.inl ⟨by rfl, ?_⟩) ?_ ?_
             rotate_left; ·intro w'; go_simp; with_reducible rfl
             rotate_left; ·simp only [Act.put, sqA, sqB, sqC, i64_w, i32_w]; rfl
             refine pure_ (i := 3) (N := some 65) (v := ?_) (a' := ?_) T947_3 rfl rfl (any_of HT_.out (by kernel_rfl)) idq (.inl ⟨by rfl, ?_⟩) ?_ ?_
             rotate_left; ·intro w'; go_simp; with_reducible rfl
             rotate_left; ·simp only [Act.put, sqA, sqB, sqC, i64_w, i32_w]; rfl
             refine pure_ (i := 4) (N := some 66) (v := ?_) (a' := ?_) T947_4 rfl rfl (any_of HT_.out (by kernel_rfl)) idq (.inl ⟨by rfl, ?_⟩) ?_ ?_
             rotate_left; ·intro w'; go_simp; with_reducible rfl
             rotate_left; ·simp only [Act.put, sqA, sqB, sqC, i64_w, i32_w]; rfl
             refine take_ (i := 0) (N := some 62) (v := ?_) (a' := ?_) T947_5 rfl rfl (take_ofW HT_.out HW_.out (by kernel_rfl)) idq (.inl ⟨by rfl, ?_⟩) hHeld ?_ ?_
             rotate_left
             ·rintro w' ⟨s0, s1, s2, s3, s4, s5, s6⟩
              go_simp
              with_reducible rfl
             rotate_left; ·simp only [Act.put, sqA, sqB, sqC, i64_w, i32_w]; rfl
             refine take_ (i := 5) (N := some 67) (v := ?_) (a' := ?_) T947_6 rfl rfl (take_ofW HT_.out HW_.out (by kernel_rfl)) idq (.inl ⟨by rfl, ?_⟩) hHeld ?_ ?_
             rotate_left
             ·rintro w' ⟨s0, s1, s2, s3, s4, s5, s6⟩
              go_simp
              with_reducible rfl
             rotate_left; ·simp only [Act.put, sqA, sqB, sqC, i64_w, i32_w]; rfl
             refine join_ (σ := Value × Value × Nat) 2 T947_7 (fun s_ => [(68, .tuple #[.agg #[.int .i64 t283, s_.1, s_.2.1], .int .i64 t290]), (13, .pointer (some ⟨s_.2.2, 0, none⟩)), (61, .tuple #[.agg #[.int .i64 t283, s_.1, s_.2.1], .int .i64 t290]), (69, .agg #[.int .i64 t283, s_.1, s_.2.1]), (70, .int .i64 t290)]) (fun s_ w' => (w'.cell? ⟨gb258, 0, none⟩ = some (.int .i64 x259000_1) ∧ w'.cell? ⟨gb258, 1, none⟩ = some (.slice Ao16 x259001_1.length co16) ∧ w'.cell? ⟨gb258, 2, none⟩ = some (.slice Ao17 x259002_1.length co17) ∧ w'.cell? (ad282.add (((ji55)).toNat * 4)) = some (.int .i64 ((rd_T46 t265 (ji55)).f0)) ∧ w'.cell? ⟨(ad282.add (((ji55)).toNat * 4)).block, (ad282.add (((ji55)).toNat * 4)).off + 1, none⟩ = some (.int .i64 ((rd_T46 t265 (ji55)).f1)) ∧ w'.cell? ⟨(ad282.add (((ji55)).toNat * 4)).block, (ad282.add (((ji55)).toNat * 4)).off + 2, none⟩ = some (.int .i64 ((rd_T46 t265 (ji55)).f2)) ∧ w'.cell? ⟨(ad282.add (((ji55)).toNat * 4)).block, (ad282.add (((ji55)).toNat * 4)).off + 3, none⟩ = some (.string ((rd_T46 t265 (ji55)).f3))) ∧ (Kd.V Kd.string 9 w' w.heap.size (fun k_ => some k_ ≠ (.slice (some ad282) t265.length co60 : Value).ownBlock ∧ k_ ≠ gb258 ∧ k_ ≠ s_.2.2) s_.1 t284) ∧ (Kd.V Kd.bool 4 w' w.heap.size (fun k_ => some k_ ≠ (.slice (some ad282) t265.length co60 : Value).ownBlock ∧ k_ ≠ gb258 ∧ k_ ≠ s_.2.2) s_.2.1 t287) ∧ (Kd.R k46 46 w' w.heap.size (fun _ => True) (.slice (some ad282) t265.length co60) t265) ∧ (Kd.V Kd.string 9 w' w.heap.size (fun k_ => some k_ ≠ (.slice (some ad282) t265.length co60 : Value).ownBlock ∧ k_ ≠ gb258 ∧ k_ ≠ s_.2.2) (.slice Ao16 x259001_1.length co16) x259001_1) ∧ (Kd.V Kd.bool 4 w' w.heap.size (fun k_ => some k_ ≠ (.slice (some ad282) t265.length co60 : Value).ownBlock ∧ k_ ≠ gb258 ∧ k_ ≠ s_.2.2) (.slice Ao17 x259002_1.length co17) x259002_1) ∧ (w'.heap[gb258]? = some (.cells #[.int .i64 x259000_1, .slice Ao16 x259001_1.length co16, .slice Ao17 x259002_1.length co17] 32 (0, 0))) ∧ (w'.heap[s_.2.2]? = some (.cells #[.int .i64 0, .slice none 0 0, .slice none 0 0] 32 (0, 0))) ∧ (w.heap.size ≤ s_.2.2) ∧ (w.heap.size ≤ s_.2.2) ∧ (gb258 ≠ s_.2.2) ∧ (s_.2.2 ≠ gb258) ∧ (Below w.heap.size w w')) ?_ ?_
             rotate_left
             ·intro hCont
              refine two_ (i := 6) (j := 10) (Ni := some 68) (Nj := some 13) T947_8 T947_9 rfl rfl rfl rfl (two_of HT_.out (by kernel_rfl)) (by decide) (by decide) (fun K hK => ?_) (fun K hK => ?_)
              ·skip
               refine goes_ Try.func17 (by kernel_rfl) rfl #[.agg #[.int .i64 x259000_1, .slice Ao16 x259001_1.length co16, .slice Ao17 x259002_1.length co17], .int .i64 1, .int .i64 ((rd_T46 t265 (ji55)).f1)] (by rfl) rfl rfl (by (try simp only [List.map_toArray, List.map_cons, List.map_nil]); first | done | (simp only [hji55]; rfl) | rfl | (simp only [List.length_drop, List.length_take]; rfl)) ?_
               with_reducible refine (send_Got.calls x259000_1 (fun k_ => (some k_ ≠ (.slice (some ad282) t265.length co60 : Value).ownBlock ∧ k_ ≠ gb258)) _ _ x259001_1 (fun k_ => (some k_ ≠ (.slice (some ad282) t265.length co60 : Value).ownBlock ∧ k_ ≠ gb258)) _ _ x259002_1 1 ((rd_T46 t265 (ji55)).f1) t283 t284 t287 t290 _ ?side1 ?side2 A58.out).mono ?_
               (case side1 => exact HO_259001.out)
               (case side2 => exact HO_259002.out)
               rintro e w62 ⟨v285, v288, rfl, ho0, ho1, hb⟩
               have HS3_ := (hb.cell (World.block_lt_of_cell? _ _ (hHeld.2.2.2.1))).trans (hHeld.2.2.2.1)
               have HS4_ := (hb.cell (World.block_lt_of_cell? _ _ (hHeld.2.2.2.2.1))).trans (hHeld.2.2.2.2.1)
               have HS5_ := (hb.cell (World.block_lt_of_cell? _ _ (hHeld.2.2.2.2.2.1))).trans (hHeld.2.2.2.2.2.1)
               have HS6_ := (hb.cell (World.block_lt_of_cell? _ _ (hHeld.2.2.2.2.2.2))).trans (hHeld.2.2.2.2.2.2)
               refine ⟨_, rfl, ?_⟩
               have n0_ := Aside0.mk (Kd.R_below (by (with_reducible repeat (first | apply rwA | apply rwN | apply rwD)); exact HO_11.out) hb)
               have n1_ := Aside0.mk (Kd.V_below (by (with_reducible repeat (first | apply Kd.V_alloc | apply Kd.V_drewN | apply Kd.V_drew)); exact HO_259001.out) hb)
               have n2_ := Aside0.mk (Kd.V_below (by (with_reducible repeat (first | apply Kd.V_alloc | apply Kd.V_drewN | apply Kd.V_drew)); exact HO_259002.out) hb)
               have n3_ := Aside0.mk (Kd.V_lower (Kd.V_mono (ok' := fun k_ => some k_ ≠ (.slice (some ad282) t265.length co60 : Value).ownBlock ∧ k_ ≠ gb258) ho0 (fun k_ hk_ => ⟨Or.elim hk_ (fun hs_ => Or.elim hs_ (fun hs_ => hs_.1) (fun hs_ => hs_.1)) (fun hn_ => (Kd.fresh' (Kd.R_lt (by (with_reducible repeat (first | apply rwA | apply rwN | apply rwD)); exact HO_11.out)) k_ hn_)), Or.elim hk_ (fun hs_ => Or.elim hs_ (fun hs_ => hs_.2) (fun hs_ => hs_.2)) (fun hn_ => (Kd.freshB (g := gb258) (o := .cells #[.int .i64 x259000_1, .slice Ao16 x259001_1.length co16, .slice Ao17 x259002_1.length co17] 32 (0, 0)) (by (with_reducible repeat (first | apply bkN | apply bkD | apply bkA)); exact BK258.out) k_ hn_))⟩)) (below_size (by repeat (first | (with_reducible first | exact HB.out | apply bwA | apply bwN | apply bwD | refine below_set ?_ GE258.out) | exact HB.out))))
               have n4_ := Aside0.mk (Kd.V_lower (Kd.V_mono (ok' := fun k_ => some k_ ≠ (.slice (some ad282) t265.length co60 : Value).ownBlock ∧ k_ ≠ gb258) ho1 (fun k_ hk_ => ⟨Or.elim hk_ (fun hs_ => Or.elim hs_ (fun hs_ => hs_.1) (fun hs_ => hs_.1)) (fun hn_ => (Kd.fresh' (Kd.R_lt (by (with_reducible repeat (first | apply rwA | apply rwN | apply rwD)); exact HO_11.out)) k_ hn_)), Or.elim hk_ (fun hs_ => Or.elim hs_ (fun hs_ => hs_.2) (fun hs_ => hs_.2)) (fun hn_ => (Kd.freshB (g := gb258) (o := .cells #[.int .i64 x259000_1, .slice Ao16 x259001_1.length co16, .slice Ao17 x259002_1.length co17] 32 (0, 0)) (by (with_reducible repeat (first | apply bkN | apply bkD | apply bkA)); exact BK258.out) k_ hn_))⟩)) (below_size (by repeat (first | (with_reducible first | exact HB.out | apply bwA | apply bwN | apply bwD | refine below_set ?_ GE258.out) | exact HB.out))))
               have n5_ := Aside0.mk (blk_below (g := gb258) (o := .cells #[.int .i64 x259000_1, .slice Ao16 x259001_1.length co16, .slice Ao17 x259002_1.length co17] 32 (0, 0)) (by (with_reducible repeat (first | apply bkN | apply bkD | apply bkA)); exact BK258.out) hb)
               have n6_ := Aside0.mk (below_step (by repeat (first | (with_reducible first | exact HB.out | apply bwA | apply bwN | apply bwD | refine below_set ?_ GE258.out) | exact HB.out)) hb)
               clear HO_11
               clear HO_259001
               clear HO_259002
               clear BK258
               clear HB
               have HO_11 := n0_
               have HO_259001 := n1_
               have HO_259002 := n2_
               have HO286 := n3_
               have HO289 := n4_
               have BK258 := n5_
               have HB := n6_
               clear n0_ n1_ n2_ n3_ n4_ n5_ n6_
               (try clear hb)
               (try clear hb2)
               (try clear hk)
               (try clear hi)
               (try clear ho0)
               (try clear ho1)
               refine hK.out _ _ ⟨(blk_cell BK258.out 0).trans rfl, (blk_cell BK258.out 1).trans rfl, (blk_cell BK258.out 2).trans rfl, HS3_, HS4_, HS5_, HS6_⟩ (fun hHeld => ?_)
               clear hK K
               refine norm_ (a' := ?_) ?_ ?_
               rotate_left
               ·show Act.put _ (some 68) _ = _
                simp only [Act.put, sqA, sqB, sqC, i64_w, i32_w]
                rfl
               refine pure_ (i := 7) (N := some 61) (v := ?_) (a' := ?_) T947_10 rfl rfl (any_of HT_.out (by kernel_rfl)) idq (.inl ⟨by rfl, ?_⟩) ?_ ?_
               rotate_left; ·intro w'; go_simp; with_reducible rfl
               rotate_left; ·simp only [Act.put, sqA, sqB, sqC, i64_w, i32_w]; rfl
               refine pure_ (i := 8) (N := some 69) (v := ?_) (a' := ?_) T947_11 rfl rfl (any_of HT_.out (by kernel_rfl)) idq (.inl ⟨by rfl, ?_⟩) ?_ ?_
               rotate_left; ·intro w'; go_simp; with_reducible rfl
               rotate_left; ·simp only [Act.put, sqA, sqB, sqC, i64_w, i32_w]; rfl
               refine pure_ (i := 9) (N := some 70) (v := ?_) (a' := ?_) T947_12 rfl rfl (any_of HT_.out (by kernel_rfl)) idq (.inl ⟨by rfl, ?_⟩) ?_ ?_
               rotate_left; ·intro w'; go_simp; with_reducible rfl
               rotate_left; ·simp only [Act.put, sqA, sqB, sqC, i64_w, i32_w]; rfl
               refine one_ (i := 10) (N := some 13) T947_7 rfl rfl (one_of HT_.out (by kernel_rfl)) (by decide) (fun K hK => ?_)
               refine box_step ?hg (N := 13) ?hd (cs := #[.int .i64 0, .slice none 0 0, .slice none 0 0]) (t := 32) ?hr ?_; (case hd => rfl); (case hg => rfl); (case hr => first | (go_simp; done) | (go_simp; rfl))
               intro gb291 hg w63 hbox hb
               have HS3_ := (hb.cell (World.block_lt_of_cell? _ _ (hHeld.2.2.2.1))).trans (hHeld.2.2.2.1)
               have HS4_ := (hb.cell (World.block_lt_of_cell? _ _ (hHeld.2.2.2.2.1))).trans (hHeld.2.2.2.2.1)
               have HS5_ := (hb.cell (World.block_lt_of_cell? _ _ (hHeld.2.2.2.2.2.1))).trans (hHeld.2.2.2.2.2.1)
               have HS6_ := (hb.cell (World.block_lt_of_cell? _ _ (hHeld.2.2.2.2.2.2))).trans (hHeld.2.2.2.2.2.2)
               have n0_ := Aside0.mk (Kd.R_below (by (with_reducible repeat (first | apply rwA | apply rwN | apply rwD)); exact HO_11.out) hb)
               have n1_ := Aside0.mk (Kd.V_below (Kd.V_elderB (by (with_reducible repeat (first | apply Kd.V_alloc | apply Kd.V_drewN | apply Kd.V_drew)); exact HO_259001.out) gb291 (Nat.le_of_eq hg.symm)) hb)
               have n2_ := Aside0.mk (Kd.V_below (Kd.V_elderB (by (with_reducible repeat (first | apply Kd.V_alloc | apply Kd.V_drewN | apply Kd.V_drew)); exact HO_259002.out) gb291 (Nat.le_of_eq hg.symm)) hb)
               have n3_ := Aside0.mk (Kd.V_below (Kd.V_elderB (by (with_reducible repeat (first | apply Kd.V_alloc | apply Kd.V_drewN | apply Kd.V_drew)); exact HO286.out) gb291 (Nat.le_of_eq hg.symm)) hb)
               have n4_ := Aside0.mk (Kd.V_below (Kd.V_elderB (by (with_reducible repeat (first | apply Kd.V_alloc | apply Kd.V_drewN | apply Kd.V_drew)); exact HO289.out) gb291 (Nat.le_of_eq hg.symm)) hb)
               have n5_ := Aside0.mk (blk_below (g := gb258) (o := .cells #[.int .i64 x259000_1, .slice Ao16 x259001_1.length co16, .slice Ao17 x259002_1.length co17] 32 (0, 0)) (by (with_reducible repeat (first | apply bkN | apply bkD | apply bkA)); exact BK258.out) hb)
               have n6_ := Aside0.mk (below_step (by repeat (first | (with_reducible first | exact HB.out | apply bwA | apply bwN | apply bwD | refine below_set ?_ GE258.out) | exact HB.out)) hb)
               have n7_ := Aside0.mk (hbox)
               have n8_ := Aside0.mk ((by rw [hg]; exact (below_size (by repeat (first | (with_reducible first | exact HB.out | apply bwA | apply bwN | apply bwD | refine below_set ?_ GE258.out) | exact HB.out))) : w.heap.size ≤ gb291))
               have n9_ := Aside0.mk ((by rw [hg]; exact (below_size (by repeat (first | (with_reducible first | exact HB.out | apply bwA | apply bwN | apply bwD | refine below_set ?_ GE258.out) | exact HB.out))) : w.heap.size ≤ gb291))
               have n10_ := Aside0.mk ((by rw [hg]; exact Nat.ne_of_lt (blk_lt (g := gb258) (o := .cells #[.int .i64 x259000_1, .slice Ao16 x259001_1.length co16, .slice Ao17 x259002_1.length co17] 32 (0, 0)) (by (with_reducible repeat (first | apply bkN | apply bkD | apply bkA)); exact BK258.out)) : gb258 ≠ gb291))
               have n11_ := Aside0.mk ((by rw [hg]; exact Nat.ne_of_gt (blk_lt (g := gb258) (o := .cells #[.int .i64 x259000_1, .slice Ao16 x259001_1.length co16, .slice Ao17 x259002_1.length co17] 32 (0, 0)) (by (with_reducible repeat (first | apply bkN | apply bkD | apply bkA)); exact BK258.out)) : gb291 ≠ gb258))
               clear HO_11
               clear HO_259001
               clear HO_259002
               clear HO286
               clear HO289
               clear BK258
               clear HB
               have HO_11 := n0_
               have HO_259001 := n1_
               have HO_259002 := n2_
               have HO286 := n3_
               have HO289 := n4_
               have BK258 := n5_
               have HB := n6_
               have BK291 := n7_
               have GW291 := n8_
               have GE291 := n9_
               have NB258_291 := n10_
               have NB291_258 := n11_
               clear n0_ n1_ n2_ n3_ n4_ n5_ n6_ n7_ n8_ n9_ n10_ n11_
               clear hb hbox hg
               refine hK.out _ _ ⟨(blk_cell BK258.out 0).trans rfl, (blk_cell BK258.out 1).trans rfl, (blk_cell BK258.out 2).trans rfl, HS3_, HS4_, HS5_, HS6_⟩ (fun hHeld => ?_)
               clear hK K
               refine norm_ (a' := ?_) ?_ ?_
               rotate_left
               ·show Act.put _ (some 13) _ = _
                simp only [Act.put, sqA, sqB, sqC, i64_w, i32_w]
                rfl
               exact norm_ (by simp only [putAll, Act.put, List.setIfInBounds_toArray, List.set_cons_zero, List.set_cons_succ]) (hCont (v285, v288, gb291) _ ⟨hHeld, (by (with_reducible repeat (first | apply Kd.V_alloc | apply Kd.V_drewN | apply Kd.V_drew)); exact Kd.V_mono HO286.out (fun _ hk => ⟨hk.1.1, ⟨hk.1.2, hk.2⟩⟩)), (by (with_reducible repeat (first | apply Kd.V_alloc | apply Kd.V_drewN | apply Kd.V_drew)); exact Kd.V_mono HO289.out (fun _ hk => ⟨hk.1.1, ⟨hk.1.2, hk.2⟩⟩)), (by (with_reducible repeat (first | apply rwA | apply rwN | apply rwD)); exact HO_11.out), (by (with_reducible repeat (first | apply Kd.V_alloc | apply Kd.V_drewN | apply Kd.V_drew)); exact Kd.V_mono HO_259001.out (fun _ hk => ⟨hk.1.1, ⟨hk.1.2, hk.2⟩⟩)), (by (with_reducible repeat (first | apply Kd.V_alloc | apply Kd.V_drewN | apply Kd.V_drew)); exact Kd.V_mono HO_259002.out (fun _ hk => ⟨hk.1.1, ⟨hk.1.2, hk.2⟩⟩)), (by (with_reducible repeat (first | apply bkN | apply bkD | apply bkA)); exact BK258.out), (by (with_reducible repeat (first | apply bkN | apply bkD | apply bkA)); exact BK291.out), GW291.out, GE291.out, NB258_291.out, NB291_258.out, (by repeat (first | (with_reducible first | exact HB.out | apply bwA | apply bwN | apply bwD | refine below_set ?_ GE258.out | refine below_set ?_ GE291.out) | exact HB.out))⟩)
              ·skip
               refine box_step ?hg (N := 13) ?hd (cs := #[.int .i64 0, .slice none 0 0, .slice none 0 0]) (t := 32) ?hr ?_; (case hd => rfl); (case hg => rfl); (case hr => first | (go_simp; done) | (go_simp; rfl))
               intro gb291 hg w62 hbox hb
               have HS3_ := (hb.cell (World.block_lt_of_cell? _ _ (hHeld.2.2.2.1))).trans (hHeld.2.2.2.1)
               have HS4_ := (hb.cell (World.block_lt_of_cell? _ _ (hHeld.2.2.2.2.1))).trans (hHeld.2.2.2.2.1)
               have HS5_ := (hb.cell (World.block_lt_of_cell? _ _ (hHeld.2.2.2.2.2.1))).trans (hHeld.2.2.2.2.2.1)
               have HS6_ := (hb.cell (World.block_lt_of_cell? _ _ (hHeld.2.2.2.2.2.2))).trans (hHeld.2.2.2.2.2.2)
               have n0_ := Aside0.mk (Kd.R_below (by (with_reducible repeat (first | apply rwA | apply rwN | apply rwD)); exact HO_11.out) hb)
               have n1_ := Aside0.mk (Kd.V_below (Kd.V_elderB (by (with_reducible repeat (first | apply Kd.V_alloc | apply Kd.V_drewN | apply Kd.V_drew)); exact HO_259001.out) gb291 (Nat.le_of_eq hg.symm)) hb)
               have n2_ := Aside0.mk (Kd.V_below (Kd.V_elderB (by (with_reducible repeat (first | apply Kd.V_alloc | apply Kd.V_drewN | apply Kd.V_drew)); exact HO_259002.out) gb291 (Nat.le_of_eq hg.symm)) hb)
               have n3_ := Aside0.mk (blk_below (g := gb258) (o := .cells #[.int .i64 x259000_1, .slice Ao16 x259001_1.length co16, .slice Ao17 x259002_1.length co17] 32 (0, 0)) (by (with_reducible repeat (first | apply bkN | apply bkD | apply bkA)); exact BK258.out) hb)
               have n4_ := Aside0.mk (below_step (by repeat (first | (with_reducible first | exact HB.out | apply bwA | apply bwN | apply bwD | refine below_set ?_ GE258.out) | exact HB.out)) hb)
               have n5_ := Aside0.mk (hbox)
               have n6_ := Aside0.mk ((by rw [hg]; exact (below_size (by repeat (first | (with_reducible first | exact HB.out | apply bwA | apply bwN | apply bwD | refine below_set ?_ GE258.out) | exact HB.out))) : w.heap.size ≤ gb291))
               have n7_ := Aside0.mk ((by rw [hg]; exact (below_size (by repeat (first | (with_reducible first | exact HB.out | apply bwA | apply bwN | apply bwD | refine below_set ?_ GE258.out) | exact HB.out))) : w.heap.size ≤ gb291))
               have n8_ := Aside0.mk ((by rw [hg]; exact Nat.ne_of_lt (blk_lt (g := gb258) (o := .cells #[.int .i64 x259000_1, .slice Ao16 x259001_1.length co16, .slice Ao17 x259002_1.length co17] 32 (0, 0)) (by (with_reducible repeat (first | apply bkN | apply bkD | apply bkA)); exact BK258.out)) : gb258 ≠ gb291))
               have n9_ := Aside0.mk ((by rw [hg]; exact Nat.ne_of_gt (blk_lt (g := gb258) (o := .cells #[.int .i64 x259000_1, .slice Ao16 x259001_1.length co16, .slice Ao17 x259002_1.length co17] 32 (0, 0)) (by (with_reducible repeat (first | apply bkN | apply bkD | apply bkA)); exact BK258.out)) : gb291 ≠ gb258))
               clear HO_11
               clear HO_259001
               clear HO_259002
               clear BK258
               clear HB
               have HO_11 := n0_
               have HO_259001 := n1_
               have HO_259002 := n2_
               have BK258 := n3_
               have HB := n4_
               have BK291 := n5_
               have GW291 := n6_
               have GE291 := n7_
               have NB258_291 := n8_
               have NB291_258 := n9_
               clear n0_ n1_ n2_ n3_ n4_ n5_ n6_ n7_ n8_ n9_
               clear hb hbox hg
               refine hK.out _ _ ⟨(blk_cell BK258.out 0).trans rfl, (blk_cell BK258.out 1).trans rfl, (blk_cell BK258.out 2).trans rfl, HS3_, HS4_, HS5_, HS6_⟩ (fun hHeld => ?_)
               clear hK K
               refine norm_ (a' := ?_) ?_ ?_
               rotate_left
               ·show Act.put _ (some 13) _ = _
                simp only [Act.put, sqA, sqB, sqC, i64_w, i32_w]
                rfl
               refine one_ (i := 6) (N := some 68) T947_13 rfl rfl (one_of HT_.out (by kernel_rfl)) (by decide) (fun K hK => ?_)
               refine goes_ Try.func17 (by kernel_rfl) rfl #[.agg #[.int .i64 x259000_1, .slice Ao16 x259001_1.length co16, .slice Ao17 x259002_1.length co17], .int .i64 1, .int .i64 ((rd_T46 t265 (ji55)).f1)] (by rfl) rfl rfl (by (try simp only [List.map_toArray, List.map_cons, List.map_nil]); first | done | (simp only [hji55]; rfl) | rfl | (simp only [List.length_drop, List.length_take]; rfl)) ?_
               with_reducible refine (send_Got.calls x259000_1 (fun k_ => ((some k_ ≠ (.slice (some ad282) t265.length co60 : Value).ownBlock ∧ k_ ≠ gb258) ∧ k_ ≠ gb291)) _ _ x259001_1 (fun k_ => ((some k_ ≠ (.slice (some ad282) t265.length co60 : Value).ownBlock ∧ k_ ≠ gb258) ∧ k_ ≠ gb291)) _ _ x259002_1 1 ((rd_T46 t265 (ji55)).f1) t283 t284 t287 t290 _ ?side1 ?side2 A58.out).mono ?_
               (case side1 => exact HO_259001.out)
               (case side2 => exact HO_259002.out)
               rintro e w63 ⟨v285, v288, rfl, ho0, ho1, hb⟩
               have HS3_ := (hb.cell (World.block_lt_of_cell? _ _ (hHeld.2.2.2.1))).trans (hHeld.2.2.2.1)
               have HS4_ := (hb.cell (World.block_lt_of_cell? _ _ (hHeld.2.2.2.2.1))).trans (hHeld.2.2.2.2.1)
               have HS5_ := (hb.cell (World.block_lt_of_cell? _ _ (hHeld.2.2.2.2.2.1))).trans (hHeld.2.2.2.2.2.1)
               have HS6_ := (hb.cell (World.block_lt_of_cell? _ _ (hHeld.2.2.2.2.2.2))).trans (hHeld.2.2.2.2.2.2)
               refine ⟨_, rfl, ?_⟩
               have n0_ := Aside0.mk (Kd.R_below (by (with_reducible repeat (first | apply rwA | apply rwN | apply rwD)); exact HO_11.out) hb)
               have n1_ := Aside0.mk (Kd.V_below (by (with_reducible repeat (first | apply Kd.V_alloc | apply Kd.V_drewN | apply Kd.V_drew)); exact HO_259001.out) hb)
               have n2_ := Aside0.mk (Kd.V_below (by (with_reducible repeat (first | apply Kd.V_alloc | apply Kd.V_drewN | apply Kd.V_drew)); exact HO_259002.out) hb)
               have n3_ := Aside0.mk (Kd.V_lower (Kd.V_mono (ok' := fun k_ => some k_ ≠ (.slice (some ad282) t265.length co60 : Value).ownBlock ∧ k_ ≠ gb258 ∧ k_ ≠ gb291) ho0 (fun k_ hk_ => ⟨Or.elim hk_ (fun hs_ => Or.elim hs_ (fun hs_ => hs_.1.1) (fun hs_ => hs_.1.1)) (fun hn_ => (Kd.fresh' (Kd.R_lt (by (with_reducible repeat (first | apply rwA | apply rwN | apply rwD)); exact HO_11.out)) k_ hn_)), Or.elim hk_ (fun hs_ => Or.elim hs_ (fun hs_ => hs_.1.2) (fun hs_ => hs_.1.2)) (fun hn_ => (Kd.freshB (g := gb258) (o := .cells #[.int .i64 x259000_1, .slice Ao16 x259001_1.length co16, .slice Ao17 x259002_1.length co17] 32 (0, 0)) (by (with_reducible repeat (first | apply bkN | apply bkD | apply bkA)); exact BK258.out) k_ hn_)), Or.elim hk_ (fun hs_ => Or.elim hs_ (fun hs_ => hs_.2) (fun hs_ => hs_.2)) (fun hn_ => (Kd.freshB (g := gb291) (o := .cells #[.int .i64 0, .slice none 0 0, .slice none 0 0] 32 (0, 0)) (by (with_reducible repeat (first | apply bkN | apply bkD | apply bkA)); exact BK291.out) k_ hn_))⟩)) (below_size (by repeat (first | (with_reducible first | exact HB.out | apply bwA | apply bwN | apply bwD | refine below_set ?_ GE258.out | refine below_set ?_ GE291.out) | exact HB.out))))
               have n4_ := Aside0.mk (Kd.V_lower (Kd.V_mono (ok' := fun k_ => some k_ ≠ (.slice (some ad282) t265.length co60 : Value).ownBlock ∧ k_ ≠ gb258 ∧ k_ ≠ gb291) ho1 (fun k_ hk_ => ⟨Or.elim hk_ (fun hs_ => Or.elim hs_ (fun hs_ => hs_.1.1) (fun hs_ => hs_.1.1)) (fun hn_ => (Kd.fresh' (Kd.R_lt (by (with_reducible repeat (first | apply rwA | apply rwN | apply rwD)); exact HO_11.out)) k_ hn_)), Or.elim hk_ (fun hs_ => Or.elim hs_ (fun hs_ => hs_.1.2) (fun hs_ => hs_.1.2)) (fun hn_ => (Kd.freshB (g := gb258) (o := .cells #[.int .i64 x259000_1, .slice Ao16 x259001_1.length co16, .slice Ao17 x259002_1.length co17] 32 (0, 0)) (by (with_reducible repeat (first | apply bkN | apply bkD | apply bkA)); exact BK258.out) k_ hn_)), Or.elim hk_ (fun hs_ => Or.elim hs_ (fun hs_ => hs_.2) (fun hs_ => hs_.2)) (fun hn_ => (Kd.freshB (g := gb291) (o := .cells #[.int .i64 0, .slice none 0 0, .slice none 0 0] 32 (0, 0)) (by (with_reducible repeat (first | apply bkN | apply bkD | apply bkA)); exact BK291.out) k_ hn_))⟩)) (below_size (by repeat (first | (with_reducible first | exact HB.out | apply bwA | apply bwN | apply bwD | refine below_set ?_ GE258.out | refine below_set ?_ GE291.out) | exact HB.out))))
               have n5_ := Aside0.mk (blk_below (g := gb258) (o := .cells #[.int .i64 x259000_1, .slice Ao16 x259001_1.length co16, .slice Ao17 x259002_1.length co17] 32 (0, 0)) (by (with_reducible repeat (first | apply bkN | apply bkD | apply bkA)); exact BK258.out) hb)
               have n6_ := Aside0.mk (blk_below (g := gb291) (o := .cells #[.int .i64 0, .slice none 0 0, .slice none 0 0] 32 (0, 0)) (by (with_reducible repeat (first | apply bkN | apply bkD | apply bkA)); exact BK291.out) hb)
               have n7_ := Aside0.mk (below_step (by repeat (first | (with_reducible first | exact HB.out | apply bwA | apply bwN | apply bwD | refine below_set ?_ GE258.out | refine below_set ?_ GE291.out) | exact HB.out)) hb)
               clear HO_11
               clear HO_259001
               clear HO_259002
               clear BK258
               clear BK291
               clear HB
               have HO_11 := n0_
               have HO_259001 := n1_
               have HO_259002 := n2_
               have HO286 := n3_
               have HO289 := n4_
               have BK258 := n5_
               have BK291 := n6_
               have HB := n7_
               clear n0_ n1_ n2_ n3_ n4_ n5_ n6_ n7_
               (try clear hb)
               (try clear hb2)
               (try clear hk)
               (try clear hi)
               (try clear ho0)
               (try clear ho1)
               refine hK.out _ _ ⟨(blk_cell BK258.out 0).trans rfl, (blk_cell BK258.out 1).trans rfl, (blk_cell BK258.out 2).trans rfl, HS3_, HS4_, HS5_, HS6_⟩ (fun hHeld => ?_)
               clear hK K
               refine norm_ (a' := ?_) ?_ ?_
               rotate_left
               ·show Act.put _ (some 68) _ = _
                simp only [Act.put, sqA, sqB, sqC, i64_w, i32_w]
                rfl
               refine pure_ (i := 7) (N := some 61) (v := ?_) (a' := ?_) T947_14 rfl rfl (any_of HT_.out (by kernel_rfl)) idq (.inl ⟨by rfl, ?_⟩) ?_ ?_
               rotate_left; ·intro w'; go_simp; with_reducible rfl
               rotate_left; ·simp only [Act.put, sqA, sqB, sqC, i64_w, i32_w]; rfl
               refine pure_ (i := 8) (N := some 69) (v := ?_) (a' := ?_) T947_15 rfl rfl (any_of HT_.out (by kernel_rfl)) idq (.inl ⟨by rfl, ?_⟩) ?_ ?_
               rotate_left; ·intro w'; go_simp; with_reducible rfl
               rotate_left; ·simp only [Act.put, sqA, sqB, sqC, i64_w, i32_w]; rfl
               refine pure_ (i := 9) (N := some 70) (v := ?_) (a' := ?_) T947_7 rfl rfl (any_of HT_.out (by kernel_rfl)) idq (.inl ⟨by rfl, ?_⟩) ?_ ?_
               rotate_left; ·intro w'; go_simp; with_reducible rfl
               rotate_left; ·simp only [Act.put, sqA, sqB, sqC, i64_w, i32_w]; rfl
               exact norm_ (by simp only [putAll, Act.put, List.setIfInBounds_toArray, List.set_cons_zero, List.set_cons_succ]) (hCont (v285, v288, gb291) _ ⟨hHeld, (by (with_reducible repeat (first | apply Kd.V_alloc | apply Kd.V_drewN | apply Kd.V_drew)); exact HO286.out), (by (with_reducible repeat (first | apply Kd.V_alloc | apply Kd.V_drewN | apply Kd.V_drew)); exact HO289.out), (by (with_reducible repeat (first | apply rwA | apply rwN | apply rwD)); exact HO_11.out), (by (with_reducible repeat (first | apply Kd.V_alloc | apply Kd.V_drewN | apply Kd.V_drew)); exact Kd.V_mono HO_259001.out (fun _ hk => ⟨hk.1.1, ⟨hk.1.2, hk.2⟩⟩)), (by (with_reducible repeat (first | apply Kd.V_alloc | apply Kd.V_drewN | apply Kd.V_drew)); exact Kd.V_mono HO_259002.out (fun _ hk => ⟨hk.1.1, ⟨hk.1.2, hk.2⟩⟩)), (by (with_reducible repeat (first | apply bkN | apply bkD | apply bkA)); exact BK258.out), (by (with_reducible repeat (first | apply bkN | apply bkD | apply bkA)); exact BK291.out), GW291.out, GE291.out, NB258_291.out, NB291_258.out, (by repeat (first | (with_reducible first | exact HB.out | apply bwA | apply bwN | apply bwD | refine below_set ?_ GE258.out | refine below_set ?_ GE291.out) | exact HB.out))⟩)
             rintro ⟨v285, v288, gb291⟩ w64 ⟨hS_, h0_, h1_, h2_, h3_, h4_, h5_, h6_, h7_, h8_, h9_, h10_, h11_⟩
             have n0_ : Aside0 (Kd.V Kd.string 9 w64 w.heap.size (fun k_ => some k_ ≠ (.slice (some ad282) t265.length co60 : Value).ownBlock ∧ k_ ≠ gb258 ∧ k_ ≠ gb291) v285 t284) := ⟨h0_⟩
             have n1_ : Aside0 (Kd.V Kd.bool 4 w64 w.heap.size (fun k_ => some k_ ≠ (.slice (some ad282) t265.length co60 : Value).ownBlock ∧ k_ ≠ gb258 ∧ k_ ≠ gb291) v288 t287) := ⟨h1_⟩
             have n2_ : Aside0 (Kd.R k46 46 w64 w.heap.size (fun _ => True) (.slice (some ad282) t265.length co60) t265) := ⟨h2_⟩
             have n3_ : Aside0 (Kd.V Kd.string 9 w64 w.heap.size (fun k_ => some k_ ≠ (.slice (some ad282) t265.length co60 : Value).ownBlock ∧ k_ ≠ gb258 ∧ k_ ≠ gb291) (.slice Ao16 x259001_1.length co16) x259001_1) := ⟨h3_⟩
             have n4_ : Aside0 (Kd.V Kd.bool 4 w64 w.heap.size (fun k_ => some k_ ≠ (.slice (some ad282) t265.length co60 : Value).ownBlock ∧ k_ ≠ gb258 ∧ k_ ≠ gb291) (.slice Ao17 x259002_1.length co17) x259002_1) := ⟨h4_⟩
             have n5_ : Aside0 (w64.heap[gb258]? = some (.cells #[.int .i64 x259000_1, .slice Ao16 x259001_1.length co16, .slice Ao17 x259002_1.length co17] 32 (0, 0))) := ⟨h5_⟩
             have n6_ : Aside0 (w64.heap[gb291]? = some (.cells #[.int .i64 0, .slice none 0 0, .slice none 0 0] 32 (0, 0))) := ⟨h6_⟩
             have n7_ : Aside0 (w.heap.size ≤ gb291) := ⟨h7_⟩
             have n8_ : Aside0 (w.heap.size ≤ gb291) := ⟨h8_⟩
             have n9_ : Aside0 (gb258 ≠ gb291) := ⟨h9_⟩
             have n10_ : Aside0 (gb291 ≠ gb258) := ⟨h10_⟩
             have n11_ : Aside0 (Below w.heap.size w w64) := ⟨h11_⟩
             clear HO_11
             clear HO_259001
             clear HO_259002
             clear BK258
             clear HB
             clear h0_ h1_ h2_ h3_ h4_ h5_ h6_ h7_ h8_ h9_ h10_ h11_
             have HO286 := n0_
             have HO289 := n1_
             have HO_11 := n2_
             have HO_259001 := n3_
             have HO_259002 := n4_
             have BK258 := n5_
             have BK291 := n6_
             have GW291 := n7_
             have GE291 := n8_
             have NB258_291 := n9_
             have NB291_258 := n10_
             have HB := n11_
             clear n0_ n1_ n2_ n3_ n4_ n5_ n6_ n7_ n8_ n9_ n10_ n11_
             have hHeld : w64.cell? ⟨gb258, 0, none⟩ = some (.int .i64 x259000_1) ∧ w64.cell? ⟨gb258, 1, none⟩ = some (.slice Ao16 x259001_1.length co16) ∧ w64.cell? ⟨gb258, 2, none⟩ = some (.slice Ao17 x259002_1.length co17) ∧ w64.cell? (ad282.add (((ji55)).toNat * 4)) = some (.int .i64 ((rd_T46 t265 (ji55)).f0)) ∧ w64.cell? ⟨(ad282.add (((ji55)).toNat * 4)).block, (ad282.add (((ji55)).toNat * 4)).off + 1, none⟩ = some (.int .i64 ((rd_T46 t265 (ji55)).f1)) ∧ w64.cell? ⟨(ad282.add (((ji55)).toNat * 4)).block, (ad282.add (((ji55)).toNat * 4)).off + 2, none⟩ = some (.int .i64 ((rd_T46 t265 (ji55)).f2)) ∧ w64.cell? ⟨(ad282.add (((ji55)).toNat * 4)).block, (ad282.add (((ji55)).toNat * 4)).off + 3, none⟩ = some (.string ((rd_T46 t265 (ji55)).f3)) := hS_
             obtain ⟨Ao66, co66, eo66⟩ := Kd.V_slice HO286.out
             (first | subst eo66 | (injection eo66 with f1_ f2_ f3_; have f4_ := f1_.symm; have f5_ := f3_.symm; clear f1_ f2_ f3_; subst f4_; subst f5_))
             obtain ⟨Ao68, co68, eo68⟩ := Kd.V_slice HO289.out
             (first | subst eo68 | (injection eo68 with f1_ f2_ f3_; have f4_ := f1_.symm; have f5_ := f3_.symm; clear f1_ f2_ f3_; subst f4_; subst f5_))
             refine norm_ (a' := ?_) ?_ ?_
             rotate_left; ·simp only [putAll, Act.put, List.setIfInBounds_toArray, List.set_cons_zero, List.set_cons_succ]; rfl
             refine one_ (i := 11) (N := none) T947_16 rfl rfl (one_of HT_.out (by kernel_rfl)) (by decide) (fun K hK => ?_)
             have hs65 : w64.cell? ⟨gb291, 0, none⟩ = some (.int .i64 0) := (blk_cell BK291.out 0).trans rfl
             have hfs65 := blk_frozen BK291.out 0
             have hns65_0 := NB258_291.out
             have hms65_0 := NB291_258.out
             have hs67 : w64.cell? ⟨gb291, 1, none⟩ = some (.slice none 0 0) := (blk_cell BK291.out 1).trans rfl
             have hfs67 := blk_frozen BK291.out 1
             have hns67_0 := NB258_291.out
             have hms67_0 := NB291_258.out
             have hs69 : w64.cell? ⟨gb291, 2, none⟩ = some (.slice none 0 0) := (blk_cell BK291.out 2).trans rfl
             have hfs69 := blk_frozen BK291.out 2
             have hns69_0 := NB258_291.out
             have hms69_0 := NB291_258.out
             refine skip_ (w1 := ?_) (by rfl) rfl ?_ ?_
             rotate_left; ·go_simp; rfl
             refine hK.out _ _ ⟨((cell_far (p := ⟨gb291, _, none⟩) NB258_291.out _).trans (((cell_far (p := ⟨gb291, _, none⟩) NB258_291.out _).trans (((cell_far (p := ⟨gb291, _, none⟩) NB258_291.out _).trans (hHeld.1)))))), ((cell_far (p := ⟨gb291, _, none⟩) NB258_291.out _).trans (((cell_far (p := ⟨gb291, _, none⟩) NB258_291.out _).trans (((cell_far (p := ⟨gb291, _, none⟩) NB258_291.out _).trans (hHeld.2.1)))))), ((cell_far (p := ⟨gb291, _, none⟩) NB258_291.out _).trans (((cell_far (p := ⟨gb291, _, none⟩) NB258_291.out _).trans (((cell_far (p := ⟨gb291, _, none⟩) NB258_291.out _).trans (hHeld.2.2.1)))))), ((cell_far (p := ⟨gb291, _, none⟩) (by first | exact Kd.own_blk (Kd.R_ne HO_11.out BK291.out (by decide)) | (rw [add_block]; exact Kd.own_blk (Kd.R_ne HO_11.out BK291.out (by decide))) | (show (Addr.add _ _).block ≠ _; rw [add_block]; exact Kd.own_blk (Kd.R_ne HO_11.out BK291.out (by decide))) | (dsimp only; exact Kd.own_blk (Kd.R_ne HO_11.out BK291.out (by decide)))) _).trans (((cell_far (p := ⟨gb291, _, none⟩) (by first | exact Kd.own_blk (Kd.R_ne HO_11.out BK291.out (by decide)) | (rw [add_block]; exact Kd.own_blk (Kd.R_ne HO_11.out BK291.out (by decide))) | (show (Addr.add _ _).block ≠ _; rw [add_block]; exact Kd.own_blk (Kd.R_ne HO_11.out BK291.out (by decide))) | (dsimp only; exact Kd.own_blk (Kd.R_ne HO_11.out BK291.out (by decide)))) _).trans (((cell_far (p := ⟨gb291, _, none⟩) (by first | exact Kd.own_blk (Kd.R_ne HO_11.out BK291.out (by decide)) | (rw [add_block]; exact Kd.own_blk (Kd.R_ne HO_11.out BK291.out (by decide))) | (show (Addr.add _ _).block ≠ _; rw [add_block]; exact Kd.own_blk (Kd.R_ne HO_11.out BK291.out (by decide))) | (dsimp only; exact Kd.own_blk (Kd.R_ne HO_11.out BK291.out (by decide)))) _).trans (hHeld.2.2.2.1)))))), ((cell_far (p := ⟨gb291, _, none⟩) (by first | exact Kd.own_blk (Kd.R_ne HO_11.out BK291.out (by decide)) | (rw [add_block]; exact Kd.own_blk (Kd.R_ne HO_11.out BK291.out (by decide))) | (show (Addr.add _ _).block ≠ _; rw [add_block]; exact Kd.own_blk (Kd.R_ne HO_11.out BK291.out (by decide))) | (dsimp only; exact Kd.own_blk (Kd.R_ne HO_11.out BK291.out (by decide)))) _).trans (((cell_far (p := ⟨gb291, _, none⟩) (by first | exact Kd.own_blk (Kd.R_ne HO_11.out BK291.out (by decide)) | (rw [add_block]; exact Kd.own_blk (Kd.R_ne HO_11.out BK291.out (by decide))) | (show (Addr.add _ _).block ≠ _; rw [add_block]; exact Kd.own_blk (Kd.R_ne HO_11.out BK291.out (by decide))) | (dsimp only; exact Kd.own_blk (Kd.R_ne HO_11.out BK291.out (by decide)))) _).trans (((cell_far (p := ⟨gb291, _, none⟩) (by first | exact Kd.own_blk (Kd.R_ne HO_11.out BK291.out (by decide)) | (rw [add_block]; exact Kd.own_blk (Kd.R_ne HO_11.out BK291.out (by decide))) | (show (Addr.add _ _).block ≠ _; rw [add_block]; exact Kd.own_blk (Kd.R_ne HO_11.out BK291.out (by decide))) | (dsimp only; exact Kd.own_blk (Kd.R_ne HO_11.out BK291.out (by decide)))) _).trans (hHeld.2.2.2.2.1)))))), ((cell_far (p := ⟨gb291, _, none⟩) (by first | exact Kd.own_blk (Kd.R_ne HO_11.out BK291.out (by decide)) | (rw [add_block]; exact Kd.own_blk (Kd.R_ne HO_11.out BK291.out (by decide))) | (show (Addr.add _ _).block ≠ _; rw [add_block]; exact Kd.own_blk (Kd.R_ne HO_11.out BK291.out (by decide))) | (dsimp only; exact Kd.own_blk (Kd.R_ne HO_11.out BK291.out (by decide)))) _).trans (((cell_far (p := ⟨gb291, _, none⟩) (by first | exact Kd.own_blk (Kd.R_ne HO_11.out BK291.out (by decide)) | (rw [add_block]; exact Kd.own_blk (Kd.R_ne HO_11.out BK291.out (by decide))) | (show (Addr.add _ _).block ≠ _; rw [add_block]; exact Kd.own_blk (Kd.R_ne HO_11.out BK291.out (by decide))) | (dsimp only; exact Kd.own_blk (Kd.R_ne HO_11.out BK291.out (by decide)))) _).trans (((cell_far (p := ⟨gb291, _, none⟩) (by first | exact Kd.own_blk (Kd.R_ne HO_11.out BK291.out (by decide)) | (rw [add_block]; exact Kd.own_blk (Kd.R_ne HO_11.out BK291.out (by decide))) | (show (Addr.add _ _).block ≠ _; rw [add_block]; exact Kd.own_blk (Kd.R_ne HO_11.out BK291.out (by decide))) | (dsimp only; exact Kd.own_blk (Kd.R_ne HO_11.out BK291.out (by decide)))) _).trans (hHeld.2.2.2.2.2.1)))))), ((cell_far (p := ⟨gb291, _, none⟩) (by first | exact Kd.own_blk (Kd.R_ne HO_11.out BK291.out (by decide)) | (rw [add_block]; exact Kd.own_blk (Kd.R_ne HO_11.out BK291.out (by decide))) | (show (Addr.add _ _).block ≠ _; rw [add_block]; exact Kd.own_blk (Kd.R_ne HO_11.out BK291.out (by decide))) | (dsimp only; exact Kd.own_blk (Kd.R_ne HO_11.out BK291.out (by decide)))) _).trans (((cell_far (p := ⟨gb291, _, none⟩) (by first | exact Kd.own_blk (Kd.R_ne HO_11.out BK291.out (by decide)) | (rw [add_block]; exact Kd.own_blk (Kd.R_ne HO_11.out BK291.out (by decide))) | (show (Addr.add _ _).block ≠ _; rw [add_block]; exact Kd.own_blk (Kd.R_ne HO_11.out BK291.out (by decide))) | (dsimp only; exact Kd.own_blk (Kd.R_ne HO_11.out BK291.out (by decide)))) _).trans (((cell_far (p := ⟨gb291, _, none⟩) (by first | exact Kd.own_blk (Kd.R_ne HO_11.out BK291.out (by decide)) | (rw [add_block]; exact Kd.own_blk (Kd.R_ne HO_11.out BK291.out (by decide))) | (show (Addr.add _ _).block ≠ _; rw [add_block]; exact Kd.own_blk (Kd.R_ne HO_11.out BK291.out (by decide))) | (dsimp only; exact Kd.own_blk (Kd.R_ne HO_11.out BK291.out (by decide)))) _).trans (hHeld.2.2.2.2.2.2))))))⟩ (fun hHeld => ?_)
             clear hK K
             refine pure_ (i := 12) (N := some 14) (v := ?_) (a' := ?_) T947_17 rfl rfl (any_of HT_.out (by kernel_rfl)) idq (.inl ⟨by rfl, ?_⟩) ?_ ?_
             rotate_left; ·intro w'; go_simp; with_reducible rfl
             rotate_left; ·simp only [Act.put, sqA, sqB, sqC, i64_w, i32_w]; rfl
             refine done_ (done_of HT_.out (by kernel_rfl)) ?_
             have hnb70 := NB291_258.out
             have hnc70 := NB258_291.out
             have hcz71_0 : w64.cell? ⟨gb291, 0, none⟩ = some (.int .i64 0) := (blk_cell BK291.out 0).trans rfl
             have hcz71_1 : w64.cell? ⟨gb291, 1, none⟩ = some (.slice none 0 0) := (blk_cell BK291.out 1).trans rfl
             have hcz71_2 : w64.cell? ⟨gb291, 2, none⟩ = some (.slice none 0 0) := (blk_cell BK291.out 2).trans rfl
             have hfz71_0 := blk_frozen BK291.out 0
             have hfz71_1 := blk_frozen BK291.out 1
             have hfz71_2 := blk_frozen BK291.out 2
             have hcz72_0 : w64.cell? ⟨gb258, 0, none⟩ = some (.int .i64 x259000_1) := (blk_cell BK258.out 0).trans rfl
             have hcz72_1 : w64.cell? ⟨gb258, 1, none⟩ = some (.slice Ao16 x259001_1.length co16) := (blk_cell BK258.out 1).trans rfl
             have hcz72_2 : w64.cell? ⟨gb258, 2, none⟩ = some (.slice Ao17 x259002_1.length co17) := (blk_cell BK258.out 2).trans rfl
             have hfz72_0 := blk_frozen BK258.out 0
             have hfz72_1 := blk_frozen BK258.out 1
             have hfz72_2 := blk_frozen BK258.out 2
             try go_wp2
             go_roundg kj13
             case measure => have := HK1.out; have := HJ13.out; omega
             case rel => exact ⟨(wrap64 (x10_1 + 1)), (t283), (t284), (t287), (.slice Ao66 t284.length co66), (.slice Ao68 t287.length co68), (by first | rfl | (simp; done) | (simp [*]; done)), H', ⟨by have := HK1.out; have := HJ13.out; omega⟩, ⟨by (with_reducible repeat (first | apply Kd.V_alloc | apply Kd.V_drewN | apply Kd.V_drew)); exact Kd.V_mono (Kd.V_far (p := ⟨gb258, 2, none⟩) (Kd.V_far (p := ⟨gb258, 1, none⟩) (Kd.V_far (p := ⟨gb258, 0, none⟩) (Kd.V_far (p := ⟨gb291, 2, none⟩) (Kd.V_far (p := ⟨gb291, 1, none⟩) (Kd.V_far (p := ⟨gb291, 0, none⟩) (Kd.V_mono (Kd.V_mono HO286.out (fun k_ hk => (⟨hk, hk.2.2⟩ : _ ∧ k_ ≠ gb291))) (fun k_ hk => (⟨hk, hk.1.2.1⟩ : _ ∧ k_ ≠ gb258))) (fun _ hk => hk.1.2) (.int .i64 t283)) (fun _ hk => hk.1.2) (.slice Ao66 t284.length co66)) (fun _ hk => hk.1.2) (.slice Ao68 t287.length co68)) (fun _ hk => hk.2) (.int .i64 t283)) (fun _ hk => hk.2) (.slice Ao66 t284.length co66)) (fun _ hk => hk.2) (.slice Ao68 t287.length co68)) (fun _ hk => hk.1.1.2.1)⟩, ⟨by (with_reducible repeat (first | apply Kd.V_alloc | apply Kd.V_drewN | apply Kd.V_drew)); exact Kd.V_mono (Kd.V_far (p := ⟨gb258, 2, none⟩) (Kd.V_far (p := ⟨gb258, 1, none⟩) (Kd.V_far (p := ⟨gb258, 0, none⟩) (Kd.V_far (p := ⟨gb291, 2, none⟩) (Kd.V_far (p := ⟨gb291, 1, none⟩) (Kd.V_far (p := ⟨gb291, 0, none⟩) (Kd.V_mono (Kd.V_mono HO289.out (fun k_ hk => (⟨hk, hk.2.2⟩ : _ ∧ k_ ≠ gb291))) (fun k_ hk => (⟨hk, hk.1.2.1⟩ : _ ∧ k_ ≠ gb258))) (fun _ hk => hk.1.2) (.int .i64 t283)) (fun _ hk => hk.1.2) (.slice Ao66 t284.length co66)) (fun _ hk => hk.1.2) (.slice Ao68 t287.length co68)) (fun _ hk => hk.2) (.int .i64 t283)) (fun _ hk => hk.2) (.slice Ao66 t284.length co66)) (fun _ hk => hk.2) (.slice Ao68 t287.length co68)) (fun _ hk => hk.1.1.2.1)⟩, ⟨by (with_reducible repeat (first | apply bkN | apply bkD | apply bkA)); refine blk_put (cs := #[.int .i64 t283, .slice Ao66 t284.length co66, .slice Ao17 x259002_1.length co17]) ?_ 2 _ rfl; (with_reducible repeat (first | apply bkN | apply bkD | apply bkA)); refine blk_put (cs := #[.int .i64 t283, .slice Ao16 x259001_1.length co16, .slice Ao17 x259002_1.length co17]) ?_ 1 _ rfl; (with_reducible repeat (first | apply bkN | apply bkD | apply bkA)); refine blk_put (cs := #[.int .i64 x259000_1, .slice Ao16 x259001_1.length co16, .slice Ao17 x259002_1.length co17]) ?_ 0 _ rfl; (with_reducible repeat (first | apply bkN | apply bkD | apply bkA)); refine blk_far ?_ NB258_291.out _; (with_reducible repeat (first | apply bkN | apply bkD | apply bkA)); refine blk_far ?_ NB258_291.out _; (with_reducible repeat (first | apply bkN | apply bkD | apply bkA)); refine blk_far ?_ NB258_291.out _; (with_reducible repeat (first | apply bkN | apply bkD | apply bkA)); exact BK258.out⟩, ⟨by repeat (first | (with_reducible first | exact HB.out | apply bwA | apply bwN | apply bwD | refine below_set ?_ GE258.out | refine below_set ?_ GE291.out) | exact HB.out)⟩⟩
            ·rw [if_neg c59] at H
             exact absurd (Option.some.inj H) (by rw [hr_.out]; decide)
           ·rw [if_neg c57] at H
            exact absurd H (by simp)
          ·rw [if_neg c56] at H
           exact absurd H (by simp)
    ·rw [if_neg c12] at H
     have c12b0 : decide (x10_1 < (t251.length : Int)) = false := decide_eq_false c12
     clear c12
     replace H := Option.bind_eq_some_iff.mp H
     obtain ⟨t260, A730, H⟩ := H
     replace H : (if t260 = true then ((send_Over.f k1 x259000_1 x259001_1 x259002_1).bind fun t261 => (if t261 = true then ((send_Next.f k1 x259000_1 x259001_1 x259002_1 3).bind fun t262 => (some ((t262.length : Int) == 0))) else (some false))) else (some false)) = some r := H
     have A73 := Aside0.mk A730
     clear A730
     by_cases c74 : t260 = true
     ·subst c74
      have H1 : ((send_Over.f k1 x259000_1 x259001_1 x259002_1).bind fun t261 => (if t261 = true then ((send_Next.f k1 x259000_1 x259001_1 x259002_1 3).bind fun t262 => (some ((t262.length : Int) == 0))) else (some false))) = some r := by rw [if_pos rfl] at H; exact H
      clear H
      have H := H1
      clear H1
      replace H := Option.bind_eq_some_iff.mp H
      obtain ⟨t261, A750, H⟩ := H
      replace H : (if t261 = true then ((send_Next.f k1 x259000_1 x259001_1 x259002_1 3).bind fun t262 => (some ((t262.length : Int) == 0))) else (some false)) = some r := H
      have A75 := Aside0.mk A750
      clear A750
      by_cases c76 : t261 = true
      ·subst c76
       have H1 : ((send_Next.f k1 x259000_1 x259001_1 x259002_1 3).bind fun t262 => (some ((t262.length : Int) == 0))) = some r := by rw [if_pos rfl] at H; exact H
       clear H
       have H := H1
       clear H1
       replace H := Option.bind_eq_some_iff.mp H
       obtain ⟨t262, A770, H⟩ := H
       replace H : (some ((t262.length : Int) == 0)) = some r := H
       have A77 := Aside0.mk A770
       clear A770
       obtain rfl := Option.some.inj H
       go_wp2_with (first | ((with_reducible refine gate_callee (f := 13) rfl ?_); refine goesL_ (some 74) rfl rfl Try.func13 (by kernel_rfl) rfl #[] rfl (by (try simp only [List.map_toArray, List.map_cons, List.map_nil]); first | done | rfl | (simp only [List.length_drop, List.length_take]; rfl)) ?_; (with_reducible refine (tillerlaw20_awake.calls k1  true _ A73.out).mono ?_); rintro e w78 ⟨rfl, hb⟩; refine ⟨_, rfl, ?_⟩; have n0_ := Aside0.mk (Kd.V_below (by (with_reducible repeat (first | apply Kd.V_alloc | apply Kd.V_drewN | apply Kd.V_drew)); exact HO_259001.out) hb); have n1_ := Aside0.mk (Kd.V_below (by (with_reducible repeat (first | apply Kd.V_alloc | apply Kd.V_drewN | apply Kd.V_drew)); exact HO_259002.out) hb); have n2_ := Aside0.mk (blk_below (g := gb258) (o := .cells #[.int .i64 x259000_1, u259001, u259002] 32 (0, 0)) (by (with_reducible repeat (first | apply bkN | apply bkD | apply bkA)); exact BK258.out) hb); have n3_ := Aside0.mk (below_step (by repeat (first | (with_reducible first | exact HB.out | apply bwA | apply bwN | apply bwD | refine below_set ?_ GE258.out) | exact HB.out)) hb); clear HO_259001; clear HO_259002; clear BK258; clear HB; have HO_259001 := n0_; have HO_259002 := n1_; have BK258 := n2_; have HB := n3_; clear n0_ n1_ n2_ n3_; (try clear hb); (try clear hb2); (try clear hk); (try clear hi); have hcz79_0 : w78.cell? ⟨gb258, 0, none⟩ = some (.int .i64 x259000_1) := (blk_cell BK258.out 0).trans rfl; have hcz79_1 : w78.cell? ⟨gb258, 1, none⟩ = some (u259001) := (blk_cell BK258.out 1).trans rfl; have hcz79_2 : w78.cell? ⟨gb258, 2, none⟩ = some (u259002) := (blk_cell BK258.out 2).trans rfl; have hfz79_0 := blk_frozen BK258.out 0; have hfz79_1 := blk_frozen BK258.out 1; have hfz79_2 := blk_frozen BK258.out 2; obtain ⟨Ao80, co80, eo80⟩ := Kd.V_slice HO_259001.out; subst eo80; obtain ⟨Ao81, co81, eo81⟩ := Kd.V_slice HO_259002.out; subst eo81) | (go_at_call 21; (with_reducible refine (send_Over.calls k1 x259000_1 _ _ x259001_1 _ _ x259002_1 true _ ?side1 ?side2 ?side3 ?side4 A75.out).mono ?_); (case side1 => repeat (first | exact (Kd.V_reads' HO_259001.out).2.2 | (with_reducible refine Kd.C_alloc ?_ _) | (with_reducible refine Kd.C_drewN ?_ _) | (with_reducible refine Kd.C_drew ?_))); (case side2 => exact (Kd.V_reads' HO_259001.out).2.1); (case side3 => repeat (first | exact (Kd.V_reads' HO_259002.out).2.2 | (with_reducible refine Kd.C_alloc ?_ _) | (with_reducible refine Kd.C_drewN ?_ _) | (with_reducible refine Kd.C_drew ?_))); (case side4 => exact (Kd.V_reads' HO_259002.out).2.1); rintro e w82 ⟨rfl, hb⟩; have n0_ := Aside0.mk (Kd.V_below (by (with_reducible repeat (first | apply Kd.V_alloc | apply Kd.V_drewN | apply Kd.V_drew)); exact HO_259001.out) hb); have n1_ := Aside0.mk (Kd.V_below (by (with_reducible repeat (first | apply Kd.V_alloc | apply Kd.V_drewN | apply Kd.V_drew)); exact HO_259002.out) hb); have n2_ := Aside0.mk (blk_below (g := gb258) (o := .cells #[.int .i64 x259000_1, .slice Ao80 x259001_1.length co80, .slice Ao81 x259002_1.length co81] 32 (0, 0)) (by (with_reducible repeat (first | apply bkN | apply bkD | apply bkA)); exact BK258.out) hb); have n3_ := Aside0.mk (below_step (by repeat (first | (with_reducible first | exact HB.out | apply bwA | apply bwN | apply bwD | refine below_set ?_ GE258.out) | exact HB.out)) hb); clear HO_259001; clear HO_259002; clear BK258; clear HB; have HO_259001 := n0_; have HO_259002 := n1_; have BK258 := n2_; have HB := n3_; clear n0_ n1_ n2_ n3_; (try clear hb); (try clear hb2); (try clear hk); (try clear hi); have hcz83_0 : w82.cell? ⟨gb258, 0, none⟩ = some (.int .i64 x259000_1) := (blk_cell BK258.out 0).trans rfl; have hcz83_1 : w82.cell? ⟨gb258, 1, none⟩ = some (.slice Ao80 x259001_1.length co80) := (blk_cell BK258.out 1).trans rfl; have hcz83_2 : w82.cell? ⟨gb258, 2, none⟩ = some (.slice Ao81 x259002_1.length co81) := (blk_cell BK258.out 2).trans rfl; have hfz83_0 := blk_frozen BK258.out 0; have hfz83_1 := blk_frozen BK258.out 1; have hfz83_2 := blk_frozen BK258.out 2) | (go_at_call 22; (with_reducible refine (send_Next.calls k1 x259000_1 _ _ x259001_1 _ _ x259002_1 3 t262 _ ?side1 ?side2 ?side3 ?side4 A77.out).mono ?_); (case side1 => repeat (first | exact (Kd.V_reads' HO_259001.out).2.2 | (with_reducible refine Kd.C_alloc ?_ _) | (with_reducible refine Kd.C_drewN ?_ _) | (with_reducible refine Kd.C_drew ?_))); (case side2 => exact (Kd.V_reads' HO_259001.out).2.1); (case side3 => repeat (first | exact (Kd.V_reads' HO_259002.out).2.2 | (with_reducible refine Kd.C_alloc ?_ _) | (with_reducible refine Kd.C_drewN ?_ _) | (with_reducible refine Kd.C_drew ?_))); (case side4 => exact (Kd.V_reads' HO_259002.out).2.1); rintro e w84 ⟨v263, rfl, ho0, hb⟩; have n0_ := Aside0.mk (Kd.V_elder' (by (with_reducible repeat (first | apply Kd.V_alloc | apply Kd.V_drewN | apply Kd.V_drew)); exact HO_259001.out) (Kd.R_base ho0) hb); have n1_ := Aside0.mk (Kd.V_elder' (by (with_reducible repeat (first | apply Kd.V_alloc | apply Kd.V_drewN | apply Kd.V_drew)); exact HO_259002.out) (Kd.R_base ho0) hb); have n2_ := Aside0.mk (Kd.R_lower ho0 (below_size (by repeat (first | (with_reducible first | exact HB.out | apply bwA | apply bwN | apply bwD | refine below_set ?_ GE258.out) | exact HB.out)))); have n3_ := Aside0.mk (blk_below (g := gb258) (o := .cells #[.int .i64 x259000_1, .slice Ao80 x259001_1.length co80, .slice Ao81 x259002_1.length co81] 32 (0, 0)) (by (with_reducible repeat (first | apply bkN | apply bkD | apply bkA)); exact BK258.out) hb); have n4_ := Aside0.mk (below_step (by repeat (first | (with_reducible first | exact HB.out | apply bwA | apply bwN | apply bwD | refine below_set ?_ GE258.out) | exact HB.out)) hb); clear HO_259001; clear HO_259002; clear BK258; clear HB; have HO_259001 := n0_; have HO_259002 := n1_; have HO264 := n2_; have BK258 := n3_; have HB := n4_; clear n0_ n1_ n2_ n3_ n4_; (try clear hb); (try clear hb2); (try clear hk); (try clear hi); (try clear ho0); obtain ⟨Ao85, co85, eo85⟩ := Kd.R_slice HO264.out; subst eo85))
       go_ret
       exact ⟨by first | rfl | (simp [errW_none, errW_some] <;> rfl) | (simp [*, errW_none, errW_some] <;> rfl), by repeat (first | (with_reducible first | exact HB.out | apply bwA | apply bwN | apply bwD | refine below_set ?_ GE258.out) | exact HB.out)⟩
      ·replace c76 := Bool.eq_false_iff.mpr c76
       subst c76
       have H1 : (some false) = some r := by rw [if_neg (show ¬ (false = true) by decide)] at H; exact H
       clear H
       have H := H1
       clear H1
       exact absurd (Option.some.inj H) (by rw [hr_.out]; decide)
     ·replace c74 := Bool.eq_false_iff.mpr c74
      subst c74
      have H1 : (some false) = some r := by rw [if_neg (show ¬ (false = true) by decide)] at H; exact H
      clear H
      have H := H1
      clear H1
      exact absurd (Option.some.inj H) (by rw [hr_.out]; decide)
 ·rw [if_neg c6] at H
  have c6b0 : (t257 == 0) = false := beq_eq_false_iff_ne.mpr c6
  have c6b1 : (t257 != 0) = true := bne_iff_ne.mpr c6
  replace H := Option.bind_eq_some_iff.mp H
  obtain ⟨t259, A860, H⟩ := H
  replace H : (some t259) = some r := H
  have A86 := Aside0.mk A860
  clear A860
  obtain rfl := Option.some.inj H
  go_enter Try.func6, Try.ntmps6
  go_wp2_with (first | ((with_reducible refine gate_callee (f := 11) rfl ?_); refine goesL_ (some 17) rfl rfl Try.func11 (by kernel_rfl) rfl #[.string a0, .int .i64 300] rfl (by (try simp only [List.map_toArray, List.map_cons, List.map_nil]); first | done | rfl | (simp only [List.length_drop, List.length_take]; rfl)) ?_; (with_reducible refine (tillerlaw14_Cut.calls a0 300 t249 _ A4.out).mono ?_); rintro e w' ⟨rfl, ⟨nd, rfl⟩⟩; refine ⟨_, rfl, ?_⟩) | ((with_reducible refine gate_callee (f := 14) rfl ?_); refine goesL_ (some 19) rfl rfl Try.func14 (by kernel_rfl) rfl #[.int .i64 1, .string t249, .int .i64 a1] rfl (by (try simp only [List.map_toArray, List.map_cons, List.map_nil]); first | done | rfl | (simp only [List.length_drop, List.length_take]; rfl)) ?_; (with_reducible refine (send_Begin.calls k 1 t249 a1 t250 t251 t254 t257 _ A5.out).mono ?_); rintro e w87 ⟨v252, v255, rfl, ho0, ho1, hb⟩; refine ⟨_, rfl, ?_⟩; have n0_ := Aside0.mk (Kd.R_lower ho0 (below_size (by repeat (first | (with_reducible first | exact HB.out | apply bwA | apply bwN | apply bwD) | exact HB.out)))); have n1_ := Aside0.mk (Kd.R_lower ho1 (below_size (by repeat (first | (with_reducible first | exact HB.out | apply bwA | apply bwN | apply bwD) | exact HB.out)))); have n2_ := Aside0.mk (below_step (by repeat (first | (with_reducible first | exact HB.out | apply bwA | apply bwN | apply bwD) | exact HB.out)) hb); clear HB; have HO253 := n0_; have HO256 := n1_; have HB := n2_; clear n0_ n1_ n2_; (try clear hb); (try clear hb2); (try clear hk); (try clear hi); (try clear ho0); (try clear ho1)) | ((with_reducible refine gate_dst (N := 7) rfl ?_); (try (refine gate_guard (by rfl) ?_; dsimp only)); refine box_event ?hg (N := 7) ?hd (cs := #[.int .i64 0, .slice none 0 0, .slice none 0 0]) (t := 32) ?hr ?_; (case hd => rfl); (case hg => rfl); (case hr => first | (go_simp; done) | (go_simp; rfl)); intro gb258 hg w88 hbox hb; have n0_ := Aside0.mk (Kd.R_below (by (with_reducible repeat (first | apply rwA | apply rwN | apply rwD)); exact HO253.out) hb); have n1_ := Aside0.mk (Kd.R_below (by (with_reducible repeat (first | apply rwA | apply rwN | apply rwD)); exact HO256.out) hb); have n2_ := Aside0.mk (below_step (by repeat (first | (with_reducible first | exact HB.out | apply bwA | apply bwN | apply bwD) | exact HB.out)) hb); have n3_ := Aside0.mk (hbox); have n4_ := Aside0.mk ((by rw [hg]; exact (below_size (by repeat (first | (with_reducible first | exact HB.out | apply bwA | apply bwN | apply bwD) | exact HB.out))) : w.heap.size ≤ gb258)); have n5_ := Aside0.mk ((by rw [hg]; exact (below_size (by repeat (first | (with_reducible first | exact HB.out | apply bwA | apply bwN | apply bwD) | exact HB.out))) : w.heap.size ≤ gb258)); clear HO253; clear HO256; clear HB; have HO253 := n0_; have HO256 := n1_; have HB := n2_; have BK258 := n3_; have GW258 := n4_; have GE258 := n5_; clear n0_ n1_ n2_ n3_ n4_ n5_; clear hb hbox hg; have hcz89_0 : w88.cell? ⟨gb258, 0, none⟩ = some (.int .i64 0) := (blk_cell BK258.out 0).trans rfl; have hcz89_1 : w88.cell? ⟨gb258, 1, none⟩ = some (.slice none 0 0) := (blk_cell BK258.out 1).trans rfl; have hcz89_2 : w88.cell? ⟨gb258, 2, none⟩ = some (.slice none 0 0) := (blk_cell BK258.out 2).trans rfl; have hfz89_0 := blk_frozen BK258.out 0; have hfz89_1 := blk_frozen BK258.out 1; have hfz89_2 := blk_frozen BK258.out 2; obtain ⟨Ao90, co90, eo90⟩ := Kd.R_slice HO253.out; subst eo90; obtain ⟨Ao91, co91, eo91⟩ := Kd.R_slice HO256.out; subst eo91) | ((with_reducible refine gate_callee (f := 13) rfl ?_); refine goesL_ (some 24) rfl rfl Try.func13 (by kernel_rfl) rfl #[] rfl (by (try simp only [List.map_toArray, List.map_cons, List.map_nil]); first | done | rfl | (simp only [List.length_drop, List.length_take]; rfl)) ?_; (with_reducible refine (tillerlaw20_awake.calls k  t259 _ A86.out).mono ?_); rintro e w92 ⟨rfl, hb⟩; refine ⟨_, rfl, ?_⟩; have n0_ := Aside0.mk (Kd.R_below (by (with_reducible repeat (first | apply rwA | apply rwN | apply rwD)); exact (Kd.R_mono (Kd.R_far (p := ⟨gb258, 2, none⟩) (Kd.R_far (p := ⟨gb258, 1, none⟩) (Kd.R_far (p := ⟨gb258, 0, none⟩) (Kd.R_types HO253.out BK258.out (by decide)) (fun _ hk => hk.2) (.int .i64 t250)) (fun _ hk => hk.2) (.slice Ao90 t251.length co90)) (fun _ hk => hk.2) (.slice Ao91 t254.length co91)) (fun _ h_ => h_.1))) hb); have n1_ := Aside0.mk (Kd.R_below (by (with_reducible repeat (first | apply rwA | apply rwN | apply rwD)); exact (Kd.R_mono (Kd.R_far (p := ⟨gb258, 2, none⟩) (Kd.R_far (p := ⟨gb258, 1, none⟩) (Kd.R_far (p := ⟨gb258, 0, none⟩) (Kd.R_types HO256.out BK258.out (by decide)) (fun _ hk => hk.2) (.int .i64 t250)) (fun _ hk => hk.2) (.slice Ao90 t251.length co90)) (fun _ hk => hk.2) (.slice Ao91 t254.length co91)) (fun _ h_ => h_.1))) hb); have n2_ := Aside0.mk (blk_below (g := gb258) (o := .cells #[.int .i64 t250, .slice Ao90 t251.length co90, .slice Ao91 t254.length co91] 32 (0, 0)) (by (with_reducible repeat (first | apply bkN | apply bkD | apply bkA)); refine blk_put (cs := #[.int .i64 t250, .slice Ao90 t251.length co90, .slice none 0 0]) ?_ 2 _ rfl; (with_reducible repeat (first | apply bkN | apply bkD | apply bkA)); refine blk_put (cs := #[.int .i64 t250, .slice none 0 0, .slice none 0 0]) ?_ 1 _ rfl; (with_reducible repeat (first | apply bkN | apply bkD | apply bkA)); refine blk_put (cs := #[.int .i64 0, .slice none 0 0, .slice none 0 0]) ?_ 0 _ rfl; (with_reducible repeat (first | apply bkN | apply bkD | apply bkA)); exact BK258.out) hb); have n3_ := Aside0.mk (below_step (by repeat (first | (with_reducible first | exact HB.out | apply bwA | apply bwN | apply bwD | refine below_set ?_ GE258.out) | exact HB.out)) hb); clear HO253; clear HO256; clear BK258; clear HB; have HO253 := n0_; have HO256 := n1_; have BK258 := n2_; have HB := n3_; clear n0_ n1_ n2_ n3_; (try clear hb); (try clear hb2); (try clear hk); (try clear hi)))
  go_ret
  exact ⟨by first | rfl | (simp [errW_none, errW_some] <;> rfl) | (simp [*, errW_none, errW_some] <;> rfl), by repeat (first | (with_reducible first | exact HB.out | apply bwA | apply bwN | apply bwD | refine below_set ?_ GE258.out) | exact HB.out)⟩

end Go.Proofs.Ytfonfdpimbnfaaa.GQ
