-- written by this session's program gprint.py
import Derived.Test.YtfonfdpimbnfaaaGQx0
import Derived.Test.YtfonfdpimbnfaaaWApart
import Derived.Test.YtfonfdpimbnfaaaWMore
import Derived.Test.YtfonfdpimbnfaaaWN
import Derived.Test.YtfonfdpimbnfaaaWWords
namespace Go.Proofs.Ytfonfdpimbnfaaa.GQ
open Go.RowKit Go.Proofs.YtfonfdpimbnfaaaW.PrintWords Go.Proofs.YtfonfdpimbnfaaaW.PrintLast Go.Proofs.YtfonfdpimbnfaaaW.PrintMore Go.Proofs.Ytfonfdpimbnfaaa.GJoin Go.Proofs.Ytfonfdpimbnfaaa.GGot
attribute [local go_sem] max2_int min2_int max_two min_two max_three min_three max_four min_four   -- for this text's walks alone
set_option linter.unusedVariables false
set_option linter.unusedSimpArgs false

/-! ### send_Left: function 20 -/
def send_Left.l0 : Nat → List Int → Int → Int → Int → List ByteArray → List Bool → Option (List Int)
 | 0, _, _, _, _, _, _ => none
 | k + 1, x3, x7, x8, x116000, x116001, x116002 => if x8 < x7 then (if x8 ≥ (x116002.length : Int) then (if x3.length < 17592186044416 then (send_Left.l0 k (x3 ++ [x8]) x7 (wrap64 (x8 + 1)) x116000 x116001 x116002) else (none)) else (if 0 ≤ x8 then (if x8 < (x116002.length : Int) then (if rdOf false x116002 x8 = true then (send_Left.l0 k x3 x7 (wrap64 (x8 + 1)) x116000 x116001 x116002) else (if x3.length < 17592186044416 then (send_Left.l0 k (x3 ++ [x8]) x7 (wrap64 (x8 + 1)) x116000 x116001 x116002) else (none))) else (none)) else (none))) else (some x3)
def send_Left.f (k : Nat) (a0_0 : Int) (l0_1 : List ByteArray) (l0_2 : List Bool) : Option (List Int) := send_Left.l0 k ([] : List Int) (l0_1.length : Int) 0 a0_0 l0_1 l0_2
theorem send_Left.mono_l : ∀ k, (∀ y0 y1 y2 y3 y4 y5, LeO (send_Left.l0 k y0 y1 y2 y3 y4 y5) (send_Left.l0 (k + 1) y0 y1 y2 y3 y4 y5))
 | 0 => fun _ _ _ _ _ _ r h => by simp [send_Left.l0] at h
 | k + 1 => by
  have ih0 := send_Left.mono_l k
  ·intro y0 y1 y2 y3 y4 y5
   unfold send_Left.l0
   repeat' first
   | (with_reducible exact ih0 _ _ _ _ _ _)
   | (with_reducible exact LeO.refl _)
   | (with_reducible exact LeO.none _)
   | (with_reducible refine LeO.ite ?_ ?_)
   | (with_reducible refine LeO.bind ?_ (fun _ => ?_))
   | exact ih0 _ _ _ _ _ _
   | exact LeO.none _
   | refine LeO.ite ?_ ?_
   | refine LeO.bind ?_ (fun _ => ?_)
theorem send_Left.mono : ∀ a0 a1 a2 k, LeO (send_Left.f k a0 a1 a2) (send_Left.f (k + 1) a0 a1 a2) := by
 intro a0 a1 a2 k
 have ih0 := send_Left.mono_l k
 unfold send_Left.f
 repeat' first
   | (with_reducible exact ih0 _ _ _ _ _ _)
   | (with_reducible exact LeO.refl _)
   | (with_reducible exact LeO.none _)
   | (with_reducible refine LeO.ite ?_ ?_)
   | (with_reducible refine LeO.bind ?_ (fun _ => ?_))
   | exact ih0 _ _ _ _ _ _
   | exact LeO.none _
   | refine LeO.ite ?_ ?_
   | refine LeO.bind ?_ (fun _ => ?_)
set_option maxHeartbeats 8000000 in
set_option maxRecDepth 100000 in
theorem send_Left.calls (k : Nat) (a0_0 : Int) (A0_1 : Option Addr) (c0_1 : Nat) (l0_1 : List ByteArray) (A0_2 : Option Addr) (c0_2 : Nat) (l0_2 : List Bool) (r : List Int) (w : World) (hr0_1 : Kd.C Kd.string w A0_1 l0_1.length l0_1) (hc0_1 : l0_1.length ≤ c0_1) (hr0_2 : Kd.C Kd.bool w A0_2 l0_2.length l0_2) (hc0_2 : l0_2.length ≤ c0_2) (h : send_Left.f k a0_0 l0_1 l0_2 = some r) :
  Calls Try.prog 20 #[.agg #[.int .i64 a0_0, .slice A0_1 l0_1.length c0_1, .slice A0_2 l0_2.length c0_2]] w fun e w' => ∃ v0_ : Value, e = .returned (v0_) ∧ Kd.R (Kd.int .i64) 3 w' w.heap.size (fun _ => True) v0_ r ∧ Below w.heap.size w w' := by
 have hu32 := Try.underlying32
 have HR0_1 := Aside0.mk hr0_1
 have HC0_1 := Aside0.mk hc0_1
 clear hr0_1 hc0_1
 have HR0_2 := Aside0.mk hr0_2
 have HC0_2 := Aside0.mk hc0_2
 clear hr0_2 hc0_2
 have HB := Aside0.mk (Below.refl w.heap.size w)
 have H : (send_Left.l0 k ([] : List Int) (l0_1.length : Int) 0 a0_0 l0_1 l0_2) = some r := h
 clear h
 have H' := Aside0.mk H
 clear H
 go_enter Try.func20, Try.ntmps20
 go_wp2_with (first | ((with_reducible refine gate_dst (N := 1) rfl ?_); refine box_event ?hg (N := 1) ?hd (cs := #[.int .i64 a0_0, .slice A0_1 l0_1.length c0_1, .slice A0_2 l0_2.length c0_2]) (t := 32) ?hr ?_; (case hd => rfl); (case hg => rfl); (case hr => first | (go_simp; done) | (go_simp; rfl)); intro gb115 hg w2 hbox hb; have n0_ := Aside0.mk (below_step (by repeat (first | (with_reducible first | exact HB.out | apply bwA | apply bwN | apply bwD) | exact HB.out)) hb); have n1_ := Aside0.mk (hbox); have n2_ := Aside0.mk ((by rw [hg]; exact (below_size (by repeat (first | (with_reducible first | exact HB.out | apply bwA | apply bwN | apply bwD) | exact HB.out))) : w.heap.size ≤ gb115)); have n3_ := Aside0.mk ((by rw [hg]; exact (below_size (by repeat (first | (with_reducible first | exact HB.out | apply bwA | apply bwN | apply bwD) | exact HB.out))) : w.heap.size ≤ gb115)); clear HB; have HB := n0_; have BK115 := n1_; have GW115 := n2_; have GE115 := n3_; clear n0_ n1_ n2_ n3_; clear hb hbox hg; have hcz3_0 : w2.cell? ⟨gb115, 0, none⟩ = some (.int .i64 a0_0) := (blk_cell BK115.out 0).trans rfl; have hcz3_1 : w2.cell? ⟨gb115, 1, none⟩ = some (.slice A0_1 l0_1.length c0_1) := (blk_cell BK115.out 1).trans rfl; have hcz3_2 : w2.cell? ⟨gb115, 2, none⟩ = some (.slice A0_2 l0_2.length c0_2) := (blk_cell BK115.out 2).trans rfl; have hfz3_0 := blk_frozen BK115.out 0; have hfz3_1 := blk_frozen BK115.out 1; have hfz3_2 := blk_frozen BK115.out 2))
 go_loopg [3, 8] k (fun kq v3 v8 w' => ∃ (x3_1 : List Int) (x8_1 : Int), v8 = .int .i64 x8_1 ∧ Aside0 (send_Left.l0 kq x3_1 (l0_1.length : Int) x8_1 a0_0 l0_1 l0_2 = some r) ∧ Aside0 (kq ≤ k) ∧ Aside0 (Kd.R (Kd.int .i64) 3 w' w.heap.size (fun _ => True) v3 x3_1) ∧ Aside0 (w'.heap[gb115]? = some (.cells #[.int .i64 a0_0, (.slice A0_1 l0_1.length c0_1), (.slice A0_2 l0_2.length c0_2)] 32 (0, 0))) ∧ Aside0 (Below w.heap.size w w'))
 case atStart => exact ⟨(([] : List Int)), (0), (by first | rfl | (simp; done) | (simp [*]; done)), H', ⟨Nat.le_refl _⟩, ⟨by first | exact Kd.R_nil _ _ _ _ _ | exact Kd.N_nil _ _ _ _ _ | exact Kd.V_nil _ _ _ _ _ | exact Kd.Q_nil _ _ _ _ _ | exact Kd.S_nil _ _ _ _ _⟩, ⟨by (with_reducible repeat (first | apply bkN | apply bkD | apply bkA)); exact BK115.out⟩, ⟨by repeat (first | (with_reducible first | exact HB.out | apply bwA | apply bwN | apply bwD | refine below_set ?_ GE115.out) | exact HB.out)⟩⟩
 case round =>
  clear H'
  try clear c2
  try clear p2
  try clear hcz3_0
  try clear hcz3_1
  try clear hcz3_2
  try clear hfz3_0
  try clear hfz3_1
  try clear hfz3_2
  obtain ⟨x3_1, x8_1, rfl, HA, HK1, HO_3, BK115, HB⟩ := hrel
  cases gk with
  | zero => exact absurd HA.out (by simp [send_Left.l0])
  | succ k1 =>
   have H := HA.out
   clear HA
   simp only [send_Left.l0] at H
   by_cases c4 : x8_1 < (l0_1.length : Int)
   ·rw [if_pos c4] at H
    have c4b0 : decide (x8_1 < (l0_1.length : Int)) = true := decide_eq_true c4
    clear c4
    by_cases c5 : x8_1 ≥ (l0_2.length : Int)
    ·rw [if_pos c5] at H
     have c5b0 : decide ((l0_2.length : Int) ≤ x8_1) = true := decide_eq_true c5
     clear c5
     by_cases c6 : x3_1.length < 17592186044416
     ·rw [if_pos c6] at H
      have LMc6 := Aside0.mk c6
      clear c6
      obtain ⟨y116, hy116⟩ : ∃ y_ : List Int, y_ = (x3_1 ++ [x8_1]) := ⟨_, rfl⟩
      replace H : (send_Left.l0 k1 y116 (l0_1.length : Int) (wrap64 (x8_1 + 1)) a0_0 l0_1 l0_2) = some r := by first | (rw [hy116]; with_reducible exact H) | (have H2_ := (Option.bind_some _ _).symm.trans H; rw [hy116]; with_reducible exact H2_) | (have H2_ := (Option.bind_some _ _).symm.trans H; with_reducible exact H2_) | with_reducible exact H | (rw [hy116]; exact H) | exact H
      have Ny116 := Aside0.mk hy116
      clear hy116
      have H' := Aside0.mk H
      clear H
      have hcz7_0 : wr.cell? ⟨gb115, 0, none⟩ = some (.int .i64 a0_0) := (blk_cell BK115.out 0).trans rfl
      have hcz7_1 : wr.cell? ⟨gb115, 1, none⟩ = some (.slice A0_1 l0_1.length c0_1) := (blk_cell BK115.out 1).trans rfl
      have hcz7_2 : wr.cell? ⟨gb115, 2, none⟩ = some (.slice A0_2 l0_2.length c0_2) := (blk_cell BK115.out 2).trans rfl
      have hfz7_0 := blk_frozen BK115.out 0
      have hfz7_1 := blk_frozen BK115.out 1
      have hfz7_2 := blk_frozen BK115.out 2
      go_wp2_with (first | ((with_reducible refine gate_builtin (b := .append) (xs := #[.tmp 24, .tmp 26]) rfl ?_); at_builtin; refine Kd.R_append (Kd.int .i64) (w0 := w) w.heap.size rfl (.tmp 24) (.tmp 26) 29 3 (.int .i64 0) 8 rfl Try.underlying29 info3 rfl (by decide) (by omega) u3 x3_1 x8_1 [.int .i64 x8_1] (fun _ => True) (fun _ => False) rfl rfl ?aP (fun _ hk => hk.elim) ?aF ?aO ?aB ?aS ?aL ?_; (case aP => exact rfl); (case aB => exact (by repeat (first | (with_reducible first | exact HB.out | apply bwA | apply bwN | apply bwD | refine below_set ?_ GE115.out) | exact HB.out))); (case aF => exact (fun _ _ => trivial)); (case aO => exact (by (with_reducible repeat (first | apply rwA | apply rwN | apply rwD)); exact HO_3.out)); (case aS => exact (below_size (by repeat (first | (with_reducible first | exact HB.out | apply bwA | apply bwN | apply bwD | refine below_set ?_ GE115.out) | exact HB.out)))); (case aL => have := LMc6.out; omega); intro v117 w8 ho hb hg hat; rw [← Ny116.out] at ho; have n0_ := Aside0.mk (blk_grown (g := gb115) (o := .cells #[.int .i64 a0_0, .slice A0_1 l0_1.length c0_1, .slice A0_2 l0_2.length c0_2] 32 (0, 0)) (by (with_reducible repeat (first | apply bkN | apply bkD | apply bkA)); exact BK115.out) hg (Kd.R_ne HO_3.out BK115.out (by decide))); have n1_ := Aside0.mk (hb); have n2_ := Aside0.mk (ho); clear BK115; clear HB; clear HO_3; have BK115 := n0_; have HB := n1_; have HO118 := n2_; clear n0_ n1_ n2_; clear ho hb hg hat))
      go_roundg k1
      case measure => have := HK1.out; omega
      case rel => exact ⟨(y116), (wrap64 (x8_1 + 1)), (by first | rfl | (simp; done) | (simp [*]; done)), H', ⟨by have := HK1.out; omega⟩, ⟨by (with_reducible repeat (first | apply rwA | apply rwN | apply rwD)); exact HO118.out⟩, ⟨by (with_reducible repeat (first | apply bkN | apply bkD | apply bkA)); exact BK115.out⟩, ⟨by repeat (first | (with_reducible first | exact HB.out | apply bwA | apply bwN | apply bwD | refine below_set ?_ GE115.out) | exact HB.out)⟩⟩
     ·rw [if_neg c6] at H
      exact absurd H (by simp)
    ·rw [if_neg c5] at H
     have c5b0 : decide ((l0_2.length : Int) ≤ x8_1) = false := decide_eq_false c5
     clear c5
     by_cases c9 : 0 ≤ x8_1
     ·rw [if_pos c9] at H
      have c9b0 : decide (0 ≤ x8_1) = true := decide_eq_true c9
      clear c9
      by_cases c10 : x8_1 < (l0_2.length : Int)
      ·rw [if_pos c10] at H
       have c10b0 : decide (x8_1 < (l0_2.length : Int)) = true := decide_eq_true c10
       clear c10
       obtain ⟨bq11, hbq11⟩ : ∃ b_ : Bool, b_ = (rdOf false l0_2 x8_1) := ⟨_, rfl⟩
       replace H : (if bq11 = true then (send_Left.l0 k1 x3_1 (l0_1.length : Int) (wrap64 (x8_1 + 1)) a0_0 l0_1 l0_2) else (if x3_1.length < 17592186044416 then (send_Left.l0 k1 (x3_1 ++ [x8_1]) (l0_1.length : Int) (wrap64 (x8_1 + 1)) a0_0 l0_1 l0_2) else (none))) = some r := by rw [← hbq11] at H; exact H
       have Nbq11 := Aside0.mk hbq11
       clear hbq11
       by_cases c12 : bq11 = true
       ·subst c12
        have H1 : (send_Left.l0 k1 x3_1 (l0_1.length : Int) (wrap64 (x8_1 + 1)) a0_0 l0_1 l0_2) = some r := by rw [if_pos rfl] at H; exact H
        clear H
        have H := H1
        clear H1
        have H' := Aside0.mk H
        clear H
        have hcz13_0 : wr.cell? ⟨gb115, 0, none⟩ = some (.int .i64 a0_0) := (blk_cell BK115.out 0).trans rfl
        have hcz13_1 : wr.cell? ⟨gb115, 1, none⟩ = some (.slice A0_1 l0_1.length c0_1) := (blk_cell BK115.out 1).trans rfl
        have hcz13_2 : wr.cell? ⟨gb115, 2, none⟩ = some (.slice A0_2 l0_2.length c0_2) := (blk_cell BK115.out 2).trans rfl
        have hfz13_0 := blk_frozen BK115.out 0
        have hfz13_1 := blk_frozen BK115.out 1
        have hfz13_2 := blk_frozen BK115.out 2
        have p119 : 0 ≤ (x8_1 : Int) := ofd_
        have q119 : x8_1 < (l0_2.length : Int) := ofd_
        obtain ⟨ad119, e119, hx119_0⟩ := Kd.at_bool HR0_2.out x8_1 p119 q119
        (try rw [← Nbq11.out] at hx119_0)
        cases e119
        replace hx119_0 := (HB.out.cell (World.block_lt_of_cell? w _ hx119_0)).trans hx119_0
        replace p119 := eq_true p119
        replace q119 := eq_true q119
        go_wp2
        go_roundg k1
        case measure => have := HK1.out; omega
        case rel => exact ⟨(x3_1), (wrap64 (x8_1 + 1)), (by first | rfl | (simp; done) | (simp [*]; done)), H', ⟨by have := HK1.out; omega⟩, ⟨by (with_reducible repeat (first | apply rwA | apply rwN | apply rwD)); exact HO_3.out⟩, ⟨by (with_reducible repeat (first | apply bkN | apply bkD | apply bkA)); exact BK115.out⟩, ⟨by repeat (first | (with_reducible first | exact HB.out | apply bwA | apply bwN | apply bwD | refine below_set ?_ GE115.out) | exact HB.out)⟩⟩
       ·replace c12 := Bool.eq_false_iff.mpr c12
        subst c12
        have H1 : (if x3_1.length < 17592186044416 then (send_Left.l0 k1 (x3_1 ++ [x8_1]) (l0_1.length : Int) (wrap64 (x8_1 + 1)) a0_0 l0_1 l0_2) else (none)) = some r := by rw [if_neg (show ¬ (false = true) by decide)] at H; exact H
        clear H
        have H := H1
        clear H1
        by_cases c14 : x3_1.length < 17592186044416
        ·rw [if_pos c14] at H
         have LMc14 := Aside0.mk c14
         clear c14
         obtain ⟨y120, hy120⟩ : ∃ y_ : List Int, y_ = (x3_1 ++ [x8_1]) := ⟨_, rfl⟩
         replace H : (send_Left.l0 k1 y120 (l0_1.length : Int) (wrap64 (x8_1 + 1)) a0_0 l0_1 l0_2) = some r := by first | (rw [hy120]; with_reducible exact H) | (have H2_ := (Option.bind_some _ _).symm.trans H; rw [hy120]; with_reducible exact H2_) | (have H2_ := (Option.bind_some _ _).symm.trans H; with_reducible exact H2_) | with_reducible exact H | (rw [hy120]; exact H) | exact H
         have Ny120 := Aside0.mk hy120
         clear hy120
         have H' := Aside0.mk H
         clear H
         have hcz15_0 : wr.cell? ⟨gb115, 0, none⟩ = some (.int .i64 a0_0) := (blk_cell BK115.out 0).trans rfl
         have hcz15_1 : wr.cell? ⟨gb115, 1, none⟩ = some (.slice A0_1 l0_1.length c0_1) := (blk_cell BK115.out 1).trans rfl
         have hcz15_2 : wr.cell? ⟨gb115, 2, none⟩ = some (.slice A0_2 l0_2.length c0_2) := (blk_cell BK115.out 2).trans rfl
         have hfz15_0 := blk_frozen BK115.out 0
         have hfz15_1 := blk_frozen BK115.out 1
         have hfz15_2 := blk_frozen BK115.out 2
         have p119 : 0 ≤ (x8_1 : Int) := ofd_
         have q119 : x8_1 < (l0_2.length : Int) := ofd_
         obtain ⟨ad119, e119, hx119_0⟩ := Kd.at_bool HR0_2.out x8_1 p119 q119
         (try rw [← Nbq11.out] at hx119_0)
         cases e119
         replace hx119_0 := (HB.out.cell (World.block_lt_of_cell? w _ hx119_0)).trans hx119_0
         replace p119 := eq_true p119
         replace q119 := eq_true q119
         go_wp2_with (first | ((with_reducible refine gate_builtin (b := .append) (xs := #[.tmp 24, .tmp 26]) rfl ?_); at_builtin; refine Kd.R_append (Kd.int .i64) (w0 := w) w.heap.size rfl (.tmp 24) (.tmp 26) 29 3 (.int .i64 0) 8 rfl Try.underlying29 info3 rfl (by decide) (by omega) u3 x3_1 x8_1 [.int .i64 x8_1] (fun _ => True) (fun _ => False) rfl rfl ?aP (fun _ hk => hk.elim) ?aF ?aO ?aB ?aS ?aL ?_; (case aP => exact rfl); (case aB => exact (by repeat (first | (with_reducible first | exact HB.out | apply bwA | apply bwN | apply bwD | refine below_set ?_ GE115.out) | exact HB.out))); (case aF => exact (fun _ _ => trivial)); (case aO => exact (by (with_reducible repeat (first | apply rwA | apply rwN | apply rwD)); exact HO_3.out)); (case aS => exact (below_size (by repeat (first | (with_reducible first | exact HB.out | apply bwA | apply bwN | apply bwD | refine below_set ?_ GE115.out) | exact HB.out)))); (case aL => have := LMc14.out; omega); intro v121 w16 ho hb hg hat; rw [← Ny120.out] at ho; have n0_ := Aside0.mk (blk_grown (g := gb115) (o := .cells #[.int .i64 a0_0, .slice A0_1 l0_1.length c0_1, .slice (some ad119) l0_2.length c0_2] 32 (0, 0)) (by (with_reducible repeat (first | apply bkN | apply bkD | apply bkA)); exact BK115.out) hg (Kd.R_ne HO_3.out BK115.out (by decide))); have n1_ := Aside0.mk (hb); have n2_ := Aside0.mk (ho); clear BK115; clear HB; clear HO_3; have BK115 := n0_; have HB := n1_; have HO122 := n2_; clear n0_ n1_ n2_; clear ho hb hg hat))
         go_roundg k1
         case measure => have := HK1.out; omega
         case rel => exact ⟨(y120), (wrap64 (x8_1 + 1)), (by first | rfl | (simp; done) | (simp [*]; done)), H', ⟨by have := HK1.out; omega⟩, ⟨by (with_reducible repeat (first | apply rwA | apply rwN | apply rwD)); exact HO122.out⟩, ⟨by (with_reducible repeat (first | apply bkN | apply bkD | apply bkA)); exact BK115.out⟩, ⟨by repeat (first | (with_reducible first | exact HB.out | apply bwA | apply bwN | apply bwD | refine below_set ?_ GE115.out) | exact HB.out)⟩⟩
        ·rw [if_neg c14] at H
         exact absurd H (by simp)
      ·rw [if_neg c10] at H
       exact absurd H (by simp)
     ·rw [if_neg c9] at H
      exact absurd H (by simp)
   ·rw [if_neg c4] at H
    have c4b0 : decide (x8_1 < (l0_1.length : Int)) = false := decide_eq_false c4
    clear c4
    obtain rfl := Option.some.inj H
    go_wp2
    go_ret
    exact ⟨_, by first | rfl | (simp [errW_none, errW_some] <;> rfl) | (simp [*, errW_none, errW_some] <;> rfl), by (with_reducible repeat (first | apply rwA | apply rwN | apply rwD)); exact HO_3.out, by repeat (first | (with_reducible first | exact HB.out | apply bwA | apply bwN | apply bwD | refine below_set ?_ GE115.out) | exact HB.out)⟩

end Go.Proofs.Ytfonfdpimbnfaaa.GQ
