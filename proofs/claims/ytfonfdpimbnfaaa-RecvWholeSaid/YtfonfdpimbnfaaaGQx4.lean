-- written by this session's program gprint.py
import Derived.Test.YtfonfdpimbnfaaaGQx0
import Derived.Test.YtfonfdpimbnfaaaGQx3
import Derived.Test.YtfonfdpimbnfaaaWApart
import Derived.Test.YtfonfdpimbnfaaaWLast
import Derived.Test.YtfonfdpimbnfaaaWMore
import Derived.Test.YtfonfdpimbnfaaaWN
import Derived.Test.YtfonfdpimbnfaaaWTab
import Derived.Test.YtfonfdpimbnfaaaWWords
namespace Go.Proofs.Ytfonfdpimbnfaaa.GQ
open Go.RowKit Go.Proofs.YtfonfdpimbnfaaaW.PrintWords Go.Proofs.YtfonfdpimbnfaaaW.PrintLast Go.Proofs.YtfonfdpimbnfaaaW.PrintMore Go.Proofs.Ytfonfdpimbnfaaa.GJoin Go.Proofs.Ytfonfdpimbnfaaa.GGot
attribute [local go_sem] max2_int min2_int max_two min_two max_three min_three max_four min_four   -- for this text's walks alone
set_option linter.unusedVariables false
set_option linter.unusedSimpArgs false
abbrev T75280_0 : Array Bool := #[false, false, false, false, false, false, false, false, false, false, false, false, false, false, false, false]
abbrev T75280_1 : Array Bool := #[true, false, false, false, false, false, false, false, false, false, false, false, false, false, false, false]
abbrev T75280_2 : Array Bool := #[true, true, false, false, false, false, false, false, false, false, false, false, false, false, false, false]
abbrev T75280_3 : Array Bool := #[true, true, false, true, false, false, false, false, false, false, false, false, false, false, false, false]
abbrev T75280_4 : Array Bool := #[true, true, false, true, true, false, false, false, false, false, false, false, false, false, false, false]
abbrev T75280_5 : Array Bool := #[true, true, false, true, true, false, false, true, false, false, false, false, false, false, false, false]
abbrev T75280_6 : Array Bool := #[true, true, false, true, true, false, false, true, false, true, false, false, false, false, false, false]
abbrev T75280_7 : Array Bool := #[true, true, true, true, true, false, false, true, false, true, false, false, false, false, false, false]
abbrev T75280_8 : Array Bool := #[true, true, true, true, true, true, false, true, false, true, false, false, false, false, false, false]
abbrev T75280_9 : Array Bool := #[true, true, true, true, true, true, true, true, false, true, false, false, false, false, false, false]
abbrev T75280_10 : Array Bool := #[true, true, true, true, true, true, true, true, true, true, false, false, false, false, false, false]
abbrev T75280_11 : Array Bool := #[true, true, true, true, true, true, true, true, true, true, true, false, false, false, false, false]
abbrev T75280_12 : Array Bool := #[true, true, true, true, true, true, true, true, true, true, true, true, false, false, false, false]
abbrev T75280_13 : Array Bool := #[true, true, true, true, true, true, true, true, true, true, true, true, true, false, false, false]
abbrev T75280_14 : Array Bool := #[true, true, true, true, true, true, true, true, true, true, true, true, true, true, false, false]
abbrev T75280_15 : Array Bool := #[true, true, true, true, true, true, true, true, true, true, true, true, true, true, true, false]
abbrev T75280_16 : Array Bool := #[true, true, true, true, true, true, true, true, true, true, true, true, true, true, true, true]

/-! ### send_Next: function 22 -/
def send_Next.l0 : Nat → Int → List (S46) → List Int → Int → Int → Int → List ByteArray → List Bool → Option ((List (S46)))
 | 0, _, _, _, _, _, _, _, _ => none
 | k + 1, x1, x5, x9, x10, x11, x124000, x124001, x124002 => if x11 < x10 then (if 0 ≤ x11 then (if x11 < (x9.length : Int) then (if (x5.length : Int) ≥ x1 then (some x5) else (if 0 ≤ (rd x9 x11) then (if (rd x9 x11) < (x124001.length : Int) then (if x5.length < 3518437208883 then (send_Next.l0 k x1 (x5 ++ [(⟨x124000, rd x9 x11, (x124001.length : Int), rdOf ByteArray.empty x124001 (rd x9 x11)⟩ : S46)]) x9 x10 (wrap64 (x11 + 1)) x124000 x124001 x124002) else (none)) else (none)) else (none))) else (none)) else (none)) else (some x5)
def send_Next.f (k : Nat) (a0_0 : Int) (l0_1 : List ByteArray) (l0_2 : List Bool) (a1 : Int) : Option ((List (S46))) := (send_Left.f k a0_0 l0_1 l0_2).bind fun t124 => (send_Next.l0 k a1 ([] : List (S46)) t124 (t124.length : Int) 0 a0_0 l0_1 l0_2)
theorem send_Next.mono_l : ∀ k, (∀ y0 y1 y2 y3 y4 y5 y6 y7, LeO (send_Next.l0 k y0 y1 y2 y3 y4 y5 y6 y7) (send_Next.l0 (k + 1) y0 y1 y2 y3 y4 y5 y6 y7))
 | 0 => fun _ _ _ _ _ _ _ _ r h => by simp [send_Next.l0] at h
 | k + 1 => by
  have ih0 := send_Next.mono_l k
  ·intro y0 y1 y2 y3 y4 y5 y6 y7
   unfold send_Next.l0
   repeat' first
   | (with_reducible exact ih0 _ _ _ _ _ _ _ _)
   | (with_reducible exact send_Left.mono _ _ _ _)
   | (with_reducible exact LeO.refl _)
   | (with_reducible exact LeO.none _)
   | (with_reducible refine LeO.ite ?_ ?_)
   | (with_reducible refine LeO.bind ?_ (fun _ => ?_))
   | exact ih0 _ _ _ _ _ _ _ _
   | exact send_Left.mono _ _ _ _
   | exact LeO.none _
   | refine LeO.ite ?_ ?_
   | refine LeO.bind ?_ (fun _ => ?_)
theorem send_Next.mono : ∀ a0 a1 a2 a3 k, LeO (send_Next.f k a0 a1 a2 a3) (send_Next.f (k + 1) a0 a1 a2 a3) := by
 intro a0 a1 a2 a3 k
 have ih0 := send_Next.mono_l k
 unfold send_Next.f
 repeat' first
   | (with_reducible exact ih0 _ _ _ _ _ _ _ _)
   | (with_reducible exact send_Left.mono _ _ _ _)
   | (with_reducible exact LeO.refl _)
   | (with_reducible exact LeO.none _)
   | (with_reducible refine LeO.ite ?_ ?_)
   | (with_reducible refine LeO.bind ?_ (fun _ => ?_))
   | exact ih0 _ _ _ _ _ _ _ _
   | exact send_Left.mono _ _ _ _
   | exact LeO.none _
   | refine LeO.ite ?_ ?_
   | refine LeO.bind ?_ (fun _ => ?_)
def send_Next.T6 : Bool × List (List Nat × List Nat) := (true, [([], []), ([], []), ([1], [1]), ([], []), ([], []), ([4], [4]), ([5], [5]), ([], []), ([7], [7]), ([], []), ([8, 9], [8, 9]), ([10], [10]), ([2, 3, 6, 11], [2, 3, 6, 11]), ([12], [12]), ([0, 13], [0, 13]), ([14, 14, 0, 1, 2, 3, 4, 5, 6, 7, 8, 9, 10, 11, 12, 13, 14], [0, 14])])
def send_Next.B6 : List Nat := [0, 0, 2, 0, 0, 16, 48, 0, 128, 0, 896, 1920, 4094, 8190, 16383, 32767]
theorem send_Next.tab6 : rtab .any (opsOf Try.f22 6) = send_Next.T6 := by kernel_rfl
theorem send_Next.bits6 : waitsOk send_Next.T6.2 send_Next.B6 = true := by kernel_rfl
set_option maxHeartbeats 8000000 in
set_option maxRecDepth 100000 in
theorem send_Next.calls (k : Nat) (a0_0 : Int) (A0_1 : Option Addr) (c0_1 : Nat) (l0_1 : List ByteArray) (A0_2 : Option Addr) (c0_2 : Nat) (l0_2 : List Bool) (a1 : Int) (r : List (S46)) (w : World) (hr0_1 : Kd.C Kd.string w A0_1 l0_1.length l0_1) (hc0_1 : l0_1.length ≤ c0_1) (hr0_2 : Kd.C Kd.bool w A0_2 l0_2.length l0_2) (hc0_2 : l0_2.length ≤ c0_2) (h : send_Next.f k a0_0 l0_1 l0_2 a1 = some r) :
  Calls Try.prog 22 #[.agg #[.int .i64 a0_0, .slice A0_1 l0_1.length c0_1, .slice A0_2 l0_2.length c0_2], .int .i64 a1] w fun e w' => ∃ v0_ : Value, e = .returned (v0_) ∧ Kd.R k46 46 w' w.heap.size (fun _ => True) v0_ r ∧ Below w.heap.size w w' := by
 have hu32 := Try.underlying32
 have hu46 := Try.underlying46
 have HR0_1 := Aside0.mk hr0_1
 have HC0_1 := Aside0.mk hc0_1
 clear hr0_1 hc0_1
 have HR0_2 := Aside0.mk hr0_2
 have HC0_2 := Aside0.mk hc0_2
 clear hr0_2 hc0_2
 have HB := Aside0.mk (Below.refl w.heap.size w)
 have H : ((send_Left.f k a0_0 l0_1 l0_2).bind fun t124 => (send_Next.l0 k a1 ([] : List (S46)) t124 (t124.length : Int) 0 a0_0 l0_1 l0_2)) = some r := h
 clear h
 replace H := Option.bind_eq_some_iff.mp H
 obtain ⟨t124, A30, H⟩ := H
 replace H : (send_Next.l0 k a1 ([] : List (S46)) t124 (t124.length : Int) 0 a0_0 l0_1 l0_2) = some r := H
 have A3 := Aside0.mk A30
 clear A30
 have H' := Aside0.mk H
 clear H
 go_enter Try.func22, Try.ntmps22
 go_wp2_with (first | ((with_reducible refine gate_dst (N := 2) rfl ?_); refine box_event ?hg (N := 2) ?hd (cs := #[.int .i64 a0_0, .slice A0_1 l0_1.length c0_1, .slice A0_2 l0_2.length c0_2]) (t := 32) ?hr ?_; (case hd => rfl); (case hg => rfl); (case hr => first | (go_simp; done) | (go_simp; rfl)); intro gb123 hg w4 hbox hb; have n0_ := Aside0.mk (below_step (by repeat (first | (with_reducible first | exact HB.out | apply bwA | apply bwN | apply bwD) | exact HB.out)) hb); have n1_ := Aside0.mk (hbox); have n2_ := Aside0.mk ((by rw [hg]; exact (below_size (by repeat (first | (with_reducible first | exact HB.out | apply bwA | apply bwN | apply bwD) | exact HB.out))) : w.heap.size ≤ gb123)); have n3_ := Aside0.mk ((by rw [hg]; exact (below_size (by repeat (first | (with_reducible first | exact HB.out | apply bwA | apply bwN | apply bwD) | exact HB.out))) : w.heap.size ≤ gb123)); clear HB; have HB := n0_; have BK123 := n1_; have GW123 := n2_; have GE123 := n3_; clear n0_ n1_ n2_ n3_; clear hb hbox hg; have hcz5_0 : w4.cell? ⟨gb123, 0, none⟩ = some (.int .i64 a0_0) := (blk_cell BK123.out 0).trans rfl; have hcz5_1 : w4.cell? ⟨gb123, 1, none⟩ = some (.slice A0_1 l0_1.length c0_1) := (blk_cell BK123.out 1).trans rfl; have hcz5_2 : w4.cell? ⟨gb123, 2, none⟩ = some (.slice A0_2 l0_2.length c0_2) := (blk_cell BK123.out 2).trans rfl; have hfz5_0 := blk_frozen BK123.out 0; have hfz5_1 := blk_frozen BK123.out 1; have hfz5_2 := blk_frozen BK123.out 2) | ((with_reducible refine gate_callee (f := 20) rfl ?_); refine goesL_ (some 9) rfl rfl Try.func20 (by kernel_rfl) rfl #[.agg #[.int .i64 a0_0, .slice A0_1 l0_1.length c0_1, .slice A0_2 l0_2.length c0_2]] rfl (by (try simp only [List.map_toArray, List.map_cons, List.map_nil]); first | done | rfl | (simp only [List.length_drop, List.length_take]; rfl)) ?_; (with_reducible refine (send_Left.calls k a0_0 _ _ l0_1 _ _ l0_2 t124 _ ?side1 ?side2 ?side3 ?side4 A3.out).mono ?_); (case side1 => repeat (first | exact (Kd.C_below HR0_1.out HB.out) | (with_reducible refine Kd.C_alloc ?_ _) | (with_reducible refine Kd.C_drewN ?_ _) | (with_reducible refine Kd.C_drew ?_))); (case side2 => exact HC0_1.out); (case side3 => repeat (first | exact (Kd.C_below HR0_2.out HB.out) | (with_reducible refine Kd.C_alloc ?_ _) | (with_reducible refine Kd.C_drewN ?_ _) | (with_reducible refine Kd.C_drew ?_))); (case side4 => exact HC0_2.out); rintro e w6 ⟨v125, rfl, ho0, hb⟩; refine ⟨_, rfl, ?_⟩; have n0_ := Aside0.mk (Kd.R_lower ho0 (below_size (by repeat (first | (with_reducible first | exact HB.out | apply bwA | apply bwN | apply bwD | refine below_set ?_ GE123.out) | exact HB.out)))); have n1_ := Aside0.mk (blk_below (g := gb123) (o := .cells #[.int .i64 a0_0, .slice A0_1 l0_1.length c0_1, .slice A0_2 l0_2.length c0_2] 32 (0, 0)) (by (with_reducible repeat (first | apply bkN | apply bkD | apply bkA)); exact BK123.out) hb); have n2_ := Aside0.mk (below_step (by repeat (first | (with_reducible first | exact HB.out | apply bwA | apply bwN | apply bwD | refine below_set ?_ GE123.out) | exact HB.out)) hb); clear BK123; clear HB; have HO126 := n0_; have BK123 := n1_; have HB := n2_; clear n0_ n1_ n2_; (try clear hb); (try clear hb2); (try clear hk); (try clear hi); (try clear ho0); obtain ⟨Ao7, co7, eo7⟩ := Kd.R_slice HO126.out; subst eo7))
 go_loopg [5, 11] k (fun kq v5 v11 w' => ∃ (x5_1 : List (S46)) (x11_1 : Int), v11 = .int .i64 x11_1 ∧ Aside0 (send_Next.l0 kq a1 x5_1 t124 (t124.length : Int) x11_1 a0_0 l0_1 l0_2 = some r) ∧ Aside0 (kq ≤ k) ∧ Aside0 (Kd.R k46 46 w' w.heap.size (fun _ => True) v5 x5_1) ∧ Aside0 (Kd.R (Kd.int .i64) 3 w' w.heap.size (fun _ => True) (.slice Ao7 t124.length co7) t124) ∧ Aside0 (w'.heap[gb123]? = some (.cells #[.int .i64 a0_0, (.slice A0_1 l0_1.length c0_1), (.slice A0_2 l0_2.length c0_2)] 32 (0, 0))) ∧ Aside0 (Below w.heap.size w w'))
 case atStart => exact ⟨(([] : List (S46))), (0), (by first | rfl | (simp; done) | (simp [*]; done)), H', ⟨Nat.le_refl _⟩, ⟨by first | exact Kd.R_nil _ _ _ _ _ | exact Kd.N_nil _ _ _ _ _ | exact Kd.V_nil _ _ _ _ _ | exact Kd.Q_nil _ _ _ _ _ | exact Kd.S_nil _ _ _ _ _⟩, ⟨by (with_reducible repeat (first | apply rwA | apply rwN | apply rwD)); exact HO126.out⟩, ⟨by (with_reducible repeat (first | apply bkN | apply bkD | apply bkA)); exact BK123.out⟩, ⟨by repeat (first | (with_reducible first | exact HB.out | apply bwA | apply bwN | apply bwD | refine below_set ?_ GE123.out) | exact HB.out)⟩⟩
 case round =>
  clear H'
  try clear c2
  try clear p2
  try clear hcz5_0
  try clear hcz5_1
  try clear hcz5_2
  try clear hfz5_0
  try clear hfz5_1
  try clear hfz5_2
  obtain ⟨x5_1, x11_1, rfl, HA, HK1, HO_5, HO_9, BK123, HB⟩ := hrel
  cases gk with
  | zero => exact absurd HA.out (by simp [send_Next.l0])
  | succ k1 =>
   have H := HA.out
   clear HA
   simp only [send_Next.l0] at H
   by_cases c8 : x11_1 < (t124.length : Int)
   ·rw [if_pos c8] at H
    have c8b0 : decide (x11_1 < (t124.length : Int)) = true := decide_eq_true c8
    clear c8
    by_cases c9 : 0 ≤ x11_1
    ·rw [if_pos c9] at H
     have c9b0 : decide (0 ≤ x11_1) = true := decide_eq_true c9
     clear c9
     by_cases c10 : x11_1 < (t124.length : Int)
     ·rw [if_pos c10] at H
      have c10b0 : decide (x11_1 < (t124.length : Int)) = true := decide_eq_true c10
      clear c10
      by_cases c11 : (x5_1.length : Int) ≥ a1
      ·rw [if_pos c11] at H
       have c11b0 : decide (a1 ≤ (x5_1.length : Int)) = true := decide_eq_true c11
       clear c11
       obtain rfl := Option.some.inj H
       have p127 : 0 ≤ (x11_1 : Int) := ofd_
       have q127 : x11_1 < (t124.length : Int) := ofd_
       (first | obtain ⟨ad127, e127, hx127_0⟩ := Kd.at_int (Kd.R_reads' HO_9.out).2.2 x11_1 p127 q127 | (obtain ⟨Az_, cz_, ez_⟩ := Kd.R_slice HO_9.out; subst ez_; obtain ⟨ad127, e127, hx127_0⟩ := Kd.at_int (Kd.R_reads' HO_9.out).2.2 x11_1 p127 q127))
       cases e127
       replace p127 := eq_true p127
       replace q127 := eq_true q127
       obtain ⟨Ao12, co12, eo12⟩ := Kd.R_slice HO_5.out
       subst eo12
       go_wp2
       go_ret
       exact ⟨_, by first | rfl | (simp [errW_none, errW_some] <;> rfl) | (simp [*, errW_none, errW_some] <;> rfl), by (with_reducible repeat (first | apply rwA | apply rwN | apply rwD)); exact HO_5.out, by repeat (first | (with_reducible first | exact HB.out | apply bwA | apply bwN | apply bwD | refine below_set ?_ GE123.out) | exact HB.out)⟩
      ·rw [if_neg c11] at H
       have c11b0 : decide (a1 ≤ (x5_1.length : Int)) = false := decide_eq_false c11
       clear c11
       by_cases c13 : 0 ≤ (rd t124 x11_1)
       ·rw [if_pos c13] at H
        have c13b0 : decide (0 ≤ (rd t124 x11_1)) = true := decide_eq_true c13
        clear c13
        by_cases c14 : (rd t124 x11_1) < (l0_1.length : Int)
        ·rw [if_pos c14] at H
         have c14b0 : decide ((rd t124 x11_1) < (l0_1.length : Int)) = true := decide_eq_true c14
         clear c14
         by_cases c15 : x5_1.length < 3518437208883
         ·rw [if_pos c15] at H
          have LMc15 := Aside0.mk c15
          clear c15
          obtain ⟨y129, hy129⟩ : ∃ y_ : List (S46), y_ = (x5_1 ++ [(⟨a0_0, rd t124 x11_1, (l0_1.length : Int), rdOf ByteArray.empty l0_1 (rd t124 x11_1)⟩ : S46)]) := ⟨_, rfl⟩
          replace H : (send_Next.l0 k1 a1 y129 t124 (t124.length : Int) (wrap64 (x11_1 + 1)) a0_0 l0_1 l0_2) = some r := by first | (rw [hy129]; with_reducible exact H) | (have H2_ := (Option.bind_some _ _).symm.trans H; rw [hy129]; with_reducible exact H2_) | (have H2_ := (Option.bind_some _ _).symm.trans H; with_reducible exact H2_) | with_reducible exact H | (rw [hy129]; exact H) | exact H
          have Ny129 := Aside0.mk hy129
          clear hy129
          have H' := Aside0.mk H
          clear H
          have p127 : 0 ≤ (x11_1 : Int) := ofd_
          have q127 : x11_1 < (t124.length : Int) := ofd_
          (first | obtain ⟨ad127, e127, hx127_0⟩ := Kd.at_int (Kd.R_reads' HO_9.out).2.2 x11_1 p127 q127 | (obtain ⟨Az_, cz_, ez_⟩ := Kd.R_slice HO_9.out; subst ez_; obtain ⟨ad127, e127, hx127_0⟩ := Kd.at_int (Kd.R_reads' HO_9.out).2.2 x11_1 p127 q127))
          cases e127
          replace p127 := eq_true p127
          replace q127 := eq_true q127
          obtain ⟨Ao16, co16, eo16⟩ := Kd.R_slice HO_5.out
          subst eo16
          try go_wp2
          have n0_ := Aside0.mk (Kd.R_drew HO_5.out)
          have n1_ := Aside0.mk (Kd.R_drew HO_9.out)
          have n2_ := Aside0.mk (blk_drew BK123.out)
          have n3_ := Aside0.mk (below_drew1 HB.out)
          clear HO_5
          clear HO_9
          clear BK123
          clear HB
          have HO_5 := n0_
          have HO_9 := n1_
          have BK123 := n2_
          have HB := n3_
          clear n0_ n1_ n2_ n3_
          have p128 : 0 ≤ ((rd t124 x11_1) : Int) := ofd_
          have q128 : (rd t124 x11_1) < (l0_1.length : Int) := ofd_
          obtain ⟨ad128, e128, hx128_0⟩ := Kd.at_string HR0_1.out (rd t124 x11_1) p128 q128
          have hw128_0 := hx128_0
          cases e128
          replace hx128_0 := (HB.out.cell (World.block_lt_of_cell? w _ hx128_0)).trans hx128_0
          replace p128 := eq_true p128
          replace q128 := eq_true q128
          refine start_ (n := 16) (S := fun w' => w'.cell? ⟨gb123, 0, none⟩ = some (.int .i64 a0_0) ∧ w'.cell? ⟨gb123, 1, none⟩ = some (.slice (some ad128) l0_1.length c0_1) ∧ w'.cell? ⟨gb123, 2, none⟩ = some (.slice A0_2 l0_2.length c0_2) ∧ w'.cell? (ad128.add ((rd t124 x11_1)).toNat) = some (.string (rdOf ByteArray.empty l0_1 (rd t124 x11_1)))) (ds := []) T75280_0 (by kernel_rfl) rfl rfl ⟨(blk_cell BK123.out 0).trans rfl, (blk_cell BK123.out 1).trans rfl, (blk_cell BK123.out 2).trans rfl, ((HB.out.cell (World.block_lt_of_cell? w _ hw128_0)).trans hw128_0)⟩ (fun hHeld => ?_); refine with_tabW send_Next.tab6 send_Next.bits6 (fun HT_ HW_ => ?_)
          generalize wr.drew = w17 at HO_5 HO_9 BK123 HB hx128_0 hHeld ⊢
          refine pure_ (i := 0) (N := some 19) (v := ?_) (a' := ?_) T75280_1 rfl rfl (any_of HT_.out (by kernel_rfl)) idq (.inl ⟨by rfl, ?_⟩) ?_ ?_
          rotate_left; ·intro w'; go_simp; with_reducible rfl
          rotate_left; ·simp only [Act.put, sqA, sqB, sqC, i64_w, i32_w]; rfl
          refine pure_ (i := 1) (N := some 20) (v := ?_) (a' := ?_) T75280_2 rfl rfl (any_of HT_.out (by kernel_rfl)) idq (.inl ⟨by rfl, ?_⟩) ?_ ?_
          rotate_left; ·intro w'; go_simp; with_reducible rfl
          rotate_left; ·simp only [Act.put, sqA, sqB, sqC, i64_w, i32_w]; rfl
          refine pure_ (i := 3) (N := some 22) (v := ?_) (a' := ?_) T75280_3 rfl rfl (any_of HT_.out (by kernel_rfl)) idq (.inl ⟨by rfl, ?_⟩) ?_ ?_
          rotate_left; ·intro w'; go_simp; with_reducible rfl
          rotate_left; ·simp only [Act.put, sqA, sqB, sqC, i64_w, i32_w]; rfl
          refine pure_ (i := 4) (N := some 23) (v := ?_) (a' := ?_) T75280_4 rfl rfl (any_of HT_.out (by kernel_rfl)) idq (.inl ⟨by rfl, ?_⟩) ?_ ?_
          rotate_left; ·intro w'; go_simp; with_reducible rfl
          rotate_left; ·simp only [Act.put, sqA, sqB, sqC, i64_w, i32_w]; rfl
          refine pure_ (i := 7) (N := some 26) (v := ?_) (a' := ?_) T75280_5 rfl rfl (any_of HT_.out (by kernel_rfl)) idq (.inl ⟨by rfl, ?_⟩) ?_ ?_
          rotate_left; ·intro w'; go_simp; with_reducible rfl
          rotate_left; ·simp only [Act.put, sqA, sqB, sqC, i64_w, i32_w]; rfl
          refine pure_ (i := 9) (N := some 28) (v := ?_) (a' := ?_) T75280_6 rfl rfl (any_of HT_.out (by kernel_rfl)) idq (.inl ⟨by rfl, ?_⟩) ?_ ?_
          rotate_left; ·intro w'; go_simp; with_reducible rfl
          rotate_left; ·simp only [Act.put, sqA, sqB, sqC, i64_w, i32_w]; rfl
          refine take_ (i := 2) (N := some 21) (v := ?_) (a' := ?_) T75280_7 rfl rfl (take_ofW HT_.out HW_.out (by kernel_rfl)) idq (.inl ⟨by rfl, ?_⟩) hHeld ?_ ?_
          rotate_left
          ·rintro w' ⟨s0, s1, s2, s3⟩
           go_simp
           with_reducible rfl
          rotate_left; ·simp only [Act.put, sqA, sqB, sqC, i64_w, i32_w]; rfl
          refine take_ (i := 5) (N := some 24) (v := ?_) (a' := ?_) T75280_8 rfl rfl (take_ofW HT_.out HW_.out (by kernel_rfl)) idq (.inl ⟨by rfl, ?_⟩) hHeld ?_ ?_
          rotate_left
          ·rintro w' ⟨s0, s1, s2, s3⟩
           go_simp
           with_reducible rfl
          rotate_left; ·simp only [Act.put, sqA, sqB, sqC, i64_w, i32_w]; rfl
          refine pure_ (i := 6) (N := some 25) (v := ?_) (a' := ?_) T75280_9 rfl rfl (any_of HT_.out (by kernel_rfl)) idq (.inl ⟨by rfl, ?_⟩) ?_ ?_
          rotate_left; ·intro w'; go_simp; with_reducible rfl
          rotate_left; ·simp only [Act.put, sqA, sqB, sqC, i64_w, i32_w]; rfl
          refine take_ (i := 8) (N := some 27) (v := ?_) (a' := ?_) T75280_10 rfl rfl (take_ofW HT_.out HW_.out (by kernel_rfl)) idq (.inl ⟨by rfl, ?_⟩) hHeld ?_ ?_
          rotate_left
          ·rintro w' ⟨s0, s1, s2, s3⟩
           go_simp
           with_reducible rfl
          rotate_left; ·simp only [Act.put, sqA, sqB, sqC, i64_w, i32_w]; rfl
          refine pure_ (i := 10) (N := some 29) (v := ?_) (a' := ?_) T75280_11 rfl rfl (any_of HT_.out (by kernel_rfl)) idq (.inl ⟨by rfl, ?_⟩) ?_ ?_
          rotate_left; ·intro w'; go_simp; with_reducible rfl
          rotate_left; ·simp only [Act.put, sqA, sqB, sqC, i64_w, i32_w]; rfl
          refine take_ (i := 11) (N := some 30) (v := ?_) (a' := ?_) T75280_12 rfl rfl (take_ofW HT_.out HW_.out (by kernel_rfl)) idq (.inl ⟨by rfl, ?_⟩) hHeld ?_ ?_
          rotate_left
          ·rintro w' ⟨s0, s1, s2, s3⟩
           go_simp
           with_reducible rfl
          rotate_left; ·simp only [Act.put, sqA, sqB, sqC, i64_w, i32_w]; rfl
          refine pure_ (i := 12) (N := some 31) (v := ?_) (a' := ?_) T75280_13 rfl rfl (any_of HT_.out (by kernel_rfl)) idq (.inl ⟨by rfl, ?_⟩) ?_ ?_
          rotate_left; ·intro w'; go_simp; with_reducible rfl
          rotate_left; ·simp only [Act.put, sqA, sqB, sqC, i64_w, i32_w]; rfl
          refine one_ (i := 13) (N := some 32) T75280_14 rfl rfl (one_of HT_.out (by kernel_rfl)) (by decide) (fun K hK => ?_)
          refine value_ (w1 := ?_) (v := ?_) (by rfl) rfl ?_ ?_
          rotate_left 2
          ·go_simp
           constructor
           ·rfl
           ·rfl
          refine hK.out _ _ ⟨(blk_cell (blk_alloc BK123.out _) 0).trans rfl, (blk_cell (blk_alloc BK123.out _) 1).trans rfl, (blk_cell (blk_alloc BK123.out _) 2).trans rfl, (World.cell?_alloc_lt _ _ _ (World.block_lt_of_cell? _ _ (((HB.out.cell (World.block_lt_of_cell? w _ hw128_0)).trans hw128_0)))).trans (((HB.out.cell (World.block_lt_of_cell? w _ hw128_0)).trans hw128_0))⟩ (fun hHeld => ?_)
          clear hK K
          refine norm_ (a' := ?_) ?_ ?_
          rotate_left
          ·show Act.put _ (some 32) _ = _
           simp only [Act.put, sqA, sqB, sqC, i64_w, i32_w]
           rfl
          refine one_ (i := 14) (N := some 33) T75280_15 rfl rfl (one_of HT_.out (by kernel_rfl)) (by decide) (fun K hK => ?_)
          refine Kd.R_append_step k46 (w0 := w) w.heap.size (by rfl) (.tmp 19) (.tmp 32) 43 46 (.agg #[(.int .i64 0), (.int .i64 0), (.int .i64 0), (.string ⟨#[]⟩)]) 40 rfl Try.underlying43 info46 rfl (by decide) (by omega) (.slice Ao16 x5_1.length co16) x5_1 (⟨a0_0, rd t124 x11_1, (l0_1.length : Int), rdOf ByteArray.empty l0_1 (rd t124 x11_1)⟩ : S46) [.int .i64 a0_0, .int .i64 (rd t124 x11_1), .int .i64 (l0_1.length : Int), .string (rdOf ByteArray.empty l0_1 (rd t124 x11_1))] (fun _ => True) (fun _ => False) rfl rfl ?aP (fun _ hk => hk.elim) ?aF ?aO ?aB ?aS ?aL ?_
          (case aP => exact k46_mkM _ _ _ (⟨a0_0, rd t124 x11_1, (l0_1.length : Int), rdOf ByteArray.empty l0_1 (rd t124 x11_1)⟩ : S46))
          (case aB => exact (by repeat (first | (with_reducible first | exact HB.out | apply bwA | apply bwN | apply bwD | refine below_set ?_ GE123.out) | exact HB.out)))
          (case aF => exact (fun _ _ => trivial))
          (case aO => exact (by (with_reducible repeat (first | apply rwA | apply rwN | apply rwD)); exact HO_5.out))
          (case aS => exact (below_size (by repeat (first | (with_reducible first | exact HB.out | apply bwA | apply bwN | apply bwD | refine below_set ?_ GE123.out) | exact HB.out))))
          (case aL => have := LMc15.out; omega)
          intro v130 w18 ho hb hg hat
          rw [← Ny129.out] at ho
          have n0_ := Aside0.mk (Kd.R_over' (by (with_reducible repeat (first | apply rwA | apply rwN | apply rwD)); exact HO_9.out) (Kd.R_typed (by (with_reducible repeat (first | apply rwA | apply rwN | apply rwD)); exact HO_5.out)) (by decide) hg)
          have n1_ := Aside0.mk (blk_grown (g := gb123) (o := .cells #[.int .i64 a0_0, .slice (some ad128) l0_1.length c0_1, .slice A0_2 l0_2.length c0_2] 32 (0, 0)) (by (with_reducible repeat (first | apply bkN | apply bkD | apply bkA)); exact BK123.out) hg (Kd.R_ne HO_5.out BK123.out (by decide)))
          have n2_ := Aside0.mk (hb)
          have n3_ := Aside0.mk (ho)
          clear HO_9
          clear BK123
          clear HB
          clear HO_5
          have HO_9 := n0_
          have BK123 := n1_
          have HB := n2_
          have HO131 := n3_
          clear n0_ n1_ n2_ n3_
          clear ho hb hg hat
          refine hK.out _ _ ⟨(blk_cell BK123.out 0).trans rfl, (blk_cell BK123.out 1).trans rfl, (blk_cell BK123.out 2).trans rfl, ((HB.out.cell (World.block_lt_of_cell? w _ hw128_0)).trans hw128_0)⟩ (fun hHeld => ?_)
          clear hK K
          refine norm_ (a' := ?_) ?_ ?_
          rotate_left
          ·show Act.put _ (some 33) _ = _
           simp only [Act.put, sqA, sqB, sqC, i64_w, i32_w]
           rfl
          refine pure_ (i := 15) (N := some 5) (v := ?_) (a' := ?_) T75280_16 rfl rfl (any_of HT_.out (by kernel_rfl)) idq (.inl ⟨by rfl, ?_⟩) ?_ ?_
          rotate_left; ·intro w'; go_simp; with_reducible rfl
          rotate_left; ·simp only [Act.put, sqA, sqB, sqC, i64_w, i32_w]; rfl
          refine done_ (done_of HT_.out (by kernel_rfl)) ?_
          try go_wp2
          go_roundg k1
          case measure => have := HK1.out; omega
          case rel => exact ⟨(y129), (wrap64 (x11_1 + 1)), (by first | rfl | (simp; done) | (simp [*]; done)), H', ⟨by have := HK1.out; omega⟩, ⟨by (with_reducible repeat (first | apply rwA | apply rwN | apply rwD)); exact HO131.out⟩, ⟨by (with_reducible repeat (first | apply rwA | apply rwN | apply rwD)); exact HO_9.out⟩, ⟨by (with_reducible repeat (first | apply bkN | apply bkD | apply bkA)); exact BK123.out⟩, ⟨by repeat (first | (with_reducible first | exact HB.out | apply bwA | apply bwN | apply bwD | refine below_set ?_ GE123.out) | exact HB.out)⟩⟩
         ·rw [if_neg c15] at H
          exact absurd H (by simp)
        ·rw [if_neg c14] at H
         exact absurd H (by simp)
       ·rw [if_neg c13] at H
        exact absurd H (by simp)
     ·rw [if_neg c10] at H
      exact absurd H (by simp)
    ·rw [if_neg c9] at H
     exact absurd H (by simp)
   ·rw [if_neg c8] at H
    have c8b0 : decide (x11_1 < (t124.length : Int)) = false := decide_eq_false c8
    clear c8
    obtain rfl := Option.some.inj H
    go_wp2
    go_ret
    exact ⟨_, by first | rfl | (simp [errW_none, errW_some] <;> rfl) | (simp [*, errW_none, errW_some] <;> rfl), by (with_reducible repeat (first | apply rwA | apply rwN | apply rwD)); exact HO_5.out, by repeat (first | (with_reducible first | exact HB.out | apply bwA | apply bwN | apply bwD | refine below_set ?_ GE123.out) | exact HB.out)⟩

end Go.Proofs.Ytfonfdpimbnfaaa.GQ
