-- written by this session's program gprint.py
import Derived.Test.YtfonfdpimbnfaaaGQx0
import Derived.Test.YtfonfdpimbnfaaaGQx2
import Derived.Test.YtfonfdpimbnfaaaGQx5
import Derived.Test.YtfonfdpimbnfaaaWLast
import Derived.Test.YtfonfdpimbnfaaaWMore
import Derived.Test.YtfonfdpimbnfaaaWWords
namespace Go.Proofs.Ytfonfdpimbnfaaa.GQ
open Go.RowKit Go.Proofs.YtfonfdpimbnfaaaW.PrintWords Go.Proofs.YtfonfdpimbnfaaaW.PrintLast Go.Proofs.YtfonfdpimbnfaaaW.PrintMore Go.Proofs.Ytfonfdpimbnfaaa.GJoin Go.Proofs.Ytfonfdpimbnfaaa.GGot
attribute [local go_sem] max2_int min2_int max_two min_two max_three min_three max_four min_four   -- for this text's walks alone
set_option linter.unusedVariables false
set_option linter.unusedSimpArgs false

/-! ### tillerlaw20_SendJoins: function 3 -/
def tillerlaw20_SendJoins.l0 : Nat → ByteArray → Int → List ByteArray → ByteArray → List ByteArray → Int → Int → Option (Bool)
 | 0, _, _, _, _, _, _, _ => none
 | k + 1, x0, x1, x5, x7, x41, x42, x43 => if x43 < x42 then (if 0 ≤ x43 then (if x43 < (x41.length : Int) then (if x7.size + (rdOf ByteArray.empty x41 x43).size ≤ 9223372036854775807 then (if (wrap64 (x43 + 1)) < (x5.length : Int) then (if ((rdOf ByteArray.empty x41 x43).size : Int) = x1 then (if ((rdOf ByteArray.empty x41 x43).size : Int) > x1 then (some false) else (if (rdOf ByteArray.empty x41 x43).toList = ([] : List UInt8) then (if x0.toList = ([] : List UInt8) then (tillerlaw20_SendJoins.l0 k x0 x1 x5 (x7 ++ (rdOf ByteArray.empty x41 x43)) x41 x42 (wrap64 (x43 + 1))) else (some false)) else (tillerlaw20_SendJoins.l0 k x0 x1 x5 (x7 ++ (rdOf ByteArray.empty x41 x43)) x41 x42 (wrap64 (x43 + 1))))) else (some false)) else (if ((rdOf ByteArray.empty x41 x43).size : Int) > x1 then (some false) else (if (rdOf ByteArray.empty x41 x43).toList = ([] : List UInt8) then (if x0.toList = ([] : List UInt8) then (tillerlaw20_SendJoins.l0 k x0 x1 x5 (x7 ++ (rdOf ByteArray.empty x41 x43)) x41 x42 (wrap64 (x43 + 1))) else (some false)) else (tillerlaw20_SendJoins.l0 k x0 x1 x5 (x7 ++ (rdOf ByteArray.empty x41 x43)) x41 x42 (wrap64 (x43 + 1)))))) else (none)) else (none)) else (none)) else ((tillerlaw20_awake.f k).bind fun t160 => (if t160 = true then (if x7.toList = x0.toList then (if (x5.length : Int) ≥ 1 then (some (decide ((x5.length : Int) ≤ 512))) else (some false)) else (some false)) else (some false)))
def tillerlaw20_SendJoins.f (k : Nat) (a0 : ByteArray) (a1 : Int) : Option (Bool) := (tillerlaw14_Cut.f a0 3000).bind fun t153 => ((send_Cut.f k t153 a1).bind fun bt154 => (if bt154.2 = 0 then (tillerlaw20_SendJoins.l0 k t153 a1 bt154.1 (⟨#[]⟩ : ByteArray) bt154.1 (bt154.1.length : Int) 0) else ((tillerlaw20_awake.f k).bind fun t158 => (if t158 = true then (if (bt154.1.length : Int) = 0 then (if a1 < 1 then (some true) else (if a1 > 4096 then (some true) else (some (decide ((t153.size : Int) > (wrap64 (512 * a1))))))) else (some false)) else (some false)))))
theorem tillerlaw20_SendJoins.mono_l : ∀ k, (∀ y0 y1 y2 y3 y4 y5 y6, LeO (tillerlaw20_SendJoins.l0 k y0 y1 y2 y3 y4 y5 y6) (tillerlaw20_SendJoins.l0 (k + 1) y0 y1 y2 y3 y4 y5 y6))
 | 0 => fun _ _ _ _ _ _ _ r h => by simp [tillerlaw20_SendJoins.l0] at h
 | k + 1 => by
  have ih0 := tillerlaw20_SendJoins.mono_l k
  ·intro y0 y1 y2 y3 y4 y5 y6
   unfold tillerlaw20_SendJoins.l0
   repeat' first
   | (with_reducible exact ih0 _ _ _ _ _ _ _)
   | (with_reducible exact send_Cut.mono _ _ _)
   | (with_reducible exact tillerlaw20_awake.mono _)
   | (with_reducible exact LeO.refl _)
   | (with_reducible exact LeO.none _)
   | (with_reducible refine LeO.ite ?_ ?_)
   | (with_reducible refine LeO.bind ?_ (fun _ => ?_))
   | exact ih0 _ _ _ _ _ _ _
   | exact send_Cut.mono _ _ _
   | exact tillerlaw20_awake.mono _
   | exact LeO.none _
   | refine LeO.ite ?_ ?_
   | refine LeO.bind ?_ (fun _ => ?_)
theorem tillerlaw20_SendJoins.mono : ∀ a0 a1 k, LeO (tillerlaw20_SendJoins.f k a0 a1) (tillerlaw20_SendJoins.f (k + 1) a0 a1) := by
 intro a0 a1 k
 have ih0 := tillerlaw20_SendJoins.mono_l k
 unfold tillerlaw20_SendJoins.f
 repeat' first
   | (with_reducible exact ih0 _ _ _ _ _ _ _)
   | (with_reducible exact send_Cut.mono _ _ _)
   | (with_reducible exact tillerlaw20_awake.mono _)
   | (with_reducible exact LeO.refl _)
   | (with_reducible exact LeO.none _)
   | (with_reducible refine LeO.ite ?_ ?_)
   | (with_reducible refine LeO.bind ?_ (fun _ => ?_))
   | exact ih0 _ _ _ _ _ _ _
   | exact send_Cut.mono _ _ _
   | exact tillerlaw20_awake.mono _
   | exact LeO.none _
   | refine LeO.ite ?_ ?_
   | refine LeO.bind ?_ (fun _ => ?_)
set_option maxHeartbeats 8000000 in
set_option maxRecDepth 100000 in
theorem tillerlaw20_SendJoins.calls (k : Nat) (a0 : ByteArray) (a1 : Int) (r : Bool) (w : World) (hr_ : Aside0 (r = true)) (h : tillerlaw20_SendJoins.f k a0 a1 = some r) :
  Calls Try.prog 3 #[.string a0, .int .i64 a1] w fun e w' => e = .returned (.bool r) ∧ Below w.heap.size w w' := by
 have HB := Aside0.mk (Below.refl w.heap.size w)
 have H : ((tillerlaw14_Cut.f a0 3000).bind fun t153 => ((send_Cut.f k t153 a1).bind fun bt154 => (if bt154.2 = 0 then (tillerlaw20_SendJoins.l0 k t153 a1 bt154.1 (⟨#[]⟩ : ByteArray) bt154.1 (bt154.1.length : Int) 0) else ((tillerlaw20_awake.f k).bind fun t158 => (if t158 = true then (if (bt154.1.length : Int) = 0 then (if a1 < 1 then (some true) else (if a1 > 4096 then (some true) else (some (decide ((t153.size : Int) > (wrap64 (512 * a1))))))) else (some false)) else (some false)))))) = some r := h
 clear h
 replace H := Option.bind_eq_some_iff.mp H
 obtain ⟨t153, A30, H⟩ := H
 replace H : ((send_Cut.f k t153 a1).bind fun bt154 => (if bt154.2 = 0 then (tillerlaw20_SendJoins.l0 k t153 a1 bt154.1 (⟨#[]⟩ : ByteArray) bt154.1 (bt154.1.length : Int) 0) else ((tillerlaw20_awake.f k).bind fun t158 => (if t158 = true then (if (bt154.1.length : Int) = 0 then (if a1 < 1 then (some true) else (if a1 > 4096 then (some true) else (some (decide ((t153.size : Int) > (wrap64 (512 * a1))))))) else (some false)) else (some false))))) = some r := H
 have A3 := Aside0.mk A30
 clear A30
 replace H := Option.bind_eq_some_iff.mp H
 obtain ⟨⟨t154, t155⟩, A40, H⟩ := H
 replace H : (if t155 = 0 then (tillerlaw20_SendJoins.l0 k t153 a1 t154 (⟨#[]⟩ : ByteArray) t154 (t154.length : Int) 0) else ((tillerlaw20_awake.f k).bind fun t158 => (if t158 = true then (if (t154.length : Int) = 0 then (if a1 < 1 then (some true) else (if a1 > 4096 then (some true) else (some (decide ((t153.size : Int) > (wrap64 (512 * a1))))))) else (some false)) else (some false)))) = some r := H
 have A4 := Aside0.mk A40
 clear A40
 by_cases c5 : t155 = 0
 ·rw [if_pos c5] at H
  have c5b0 : (t155 == 0) = true := beq_iff_eq.mpr c5
  have c5b1 : (t155 != 0) = false := bne_eq_false_iff_eq.mpr c5
  clear c5
  have H' := Aside0.mk H
  clear H
  go_enter Try.func3, Try.ntmps3
  go_wp2_with (first | ((with_reducible refine gate_callee (f := 11) rfl ?_); refine goesL_ (some 11) rfl rfl Try.func11 (by kernel_rfl) rfl #[.string a0, .int .i64 3000] rfl (by (try simp only [List.map_toArray, List.map_cons, List.map_nil]); first | done | rfl | (simp only [List.length_drop, List.length_take]; rfl)) ?_; (with_reducible refine (tillerlaw14_Cut.calls a0 3000 t153 _ A3.out).mono ?_); rintro e w' ⟨rfl, ⟨nd, rfl⟩⟩; refine ⟨_, rfl, ?_⟩) | ((with_reducible refine gate_callee (f := 12) rfl ?_); refine goesL_ (some 15) rfl rfl Try.func12 (by kernel_rfl) rfl #[.string t153, .int .i64 a1] rfl (by (try simp only [List.map_toArray, List.map_cons, List.map_nil]); first | done | rfl | (simp only [List.length_drop, List.length_take]; rfl)) ?_; (with_reducible refine (send_Cut.calls k t153 a1 t154 t155 _ A4.out).mono ?_); rintro e w6 ⟨v156, rfl, ho0, hb⟩; refine ⟨_, rfl, ?_⟩; have n0_ := Aside0.mk (Kd.R_lower ho0 (below_size (by repeat (first | (with_reducible first | exact HB.out | apply bwA | apply bwN | apply bwD) | exact HB.out)))); have n1_ := Aside0.mk (below_step (by repeat (first | (with_reducible first | exact HB.out | apply bwA | apply bwN | apply bwD) | exact HB.out)) hb); clear HB; have HO157 := n0_; have HB := n1_; clear n0_ n1_; (try clear hb); (try clear hb2); (try clear hk); (try clear hi); (try clear ho0); obtain ⟨Ao7, co7, eo7⟩ := Kd.R_slice HO157.out; subst eo7))
  go_loopg [7, 43] k (fun kq v7 v43 w' => ∃ (x7_1 : ByteArray) (x43_1 : Int), v7 = .string x7_1 ∧ v43 = .int .i64 x43_1 ∧ Aside0 (tillerlaw20_SendJoins.l0 kq t153 a1 t154 x7_1 t154 (t154.length : Int) x43_1 = some r) ∧ Aside0 (kq ≤ k) ∧ Aside0 (Kd.R Kd.string 9 w' w.heap.size (fun _ => True) (.slice Ao7 t154.length co7) t154) ∧ Aside0 (Kd.R Kd.string 9 w' w.heap.size (fun _ => True) (.slice Ao7 t154.length co7) t154) ∧ Aside0 (Below w.heap.size w w'))
  case atStart => exact ⟨((⟨#[]⟩ : ByteArray)), (0), (by first | rfl | (simp; done) | (simp [*]; done) | (simp [ne_nil_]; done)), (by first | rfl | (simp; done) | (simp [*]; done) | (simp [ne_nil_]; done)), H', ⟨Nat.le_refl _⟩, ⟨by (with_reducible repeat (first | apply rwA | apply rwN | apply rwD)); exact HO157.out⟩, ⟨by (with_reducible repeat (first | apply rwA | apply rwN | apply rwD)); exact HO157.out⟩, ⟨by repeat (first | (with_reducible first | exact HB.out | apply bwA | apply bwN | apply bwD) | exact HB.out)⟩⟩
  case round =>
   clear H'
   try clear c1
   try clear p2
   try clear c3
   try clear c5
   try clear c5b0
   try clear c5b1
   try clear p6
   obtain ⟨x7_1, x43_1, rfl, rfl, HA, HK1, HO_5, HO_41, HB⟩ := hrel
   cases gk with
   | zero => exact absurd HA.out (by simp [tillerlaw20_SendJoins.l0])
   | succ k1 =>
    have H := HA.out
    clear HA
    simp only [tillerlaw20_SendJoins.l0] at H
    by_cases c8 : x43_1 < (t154.length : Int)
    ·rw [if_pos c8] at H
     have c8b0 : decide (x43_1 < (t154.length : Int)) = true := decide_eq_true c8
     clear c8
     by_cases c9 : 0 ≤ x43_1
     ·rw [if_pos c9] at H
      have c9b0 : decide (0 ≤ x43_1) = true := decide_eq_true c9
      clear c9
      by_cases c10 : x43_1 < (t154.length : Int)
      ·rw [if_pos c10] at H
       have c10b0 : decide (x43_1 < (t154.length : Int)) = true := decide_eq_true c10
       clear c10
       by_cases c11 : x7_1.size + (rdOf ByteArray.empty t154 x43_1).size ≤ 9223372036854775807
       ·rw [if_pos c11] at H
        have c11b0 := eq_true c11
        have c11b1 : decide (x7_1.size + (rdOf ByteArray.empty t154 x43_1).size ≤ 9223372036854775807) = true := decide_eq_true c11
        try have c11b2 : (9223372036854775807 < x7_1.size + (rdOf ByteArray.empty t154 x43_1).size) = False := eq_false (Nat.not_lt.2 c11)
        by_cases c12 : (wrap64 (x43_1 + 1)) < (t154.length : Int)
        ·rw [if_pos c12] at H
         have c12b0 : decide ((wrap64 (x43_1 + 1)) < (t154.length : Int)) = true := decide_eq_true c12
         clear c12
         by_cases c13 : ((rdOf ByteArray.empty t154 x43_1).size : Int) = a1
         ·rw [if_pos c13] at H
          have c13b0 : (((rdOf ByteArray.empty t154 x43_1).size : Int) == a1) = true := beq_iff_eq.mpr c13
          have c13b1 : (((rdOf ByteArray.empty t154 x43_1).size : Int) != a1) = false := bne_eq_false_iff_eq.mpr c13
          clear c13
          by_cases c14 : ((rdOf ByteArray.empty t154 x43_1).size : Int) > a1
          ·rw [if_pos c14] at H
           exact absurd (Option.some.inj H) (by rw [hr_.out]; decide)
          ·rw [if_neg c14] at H
           have c14b0 : decide (a1 < ((rdOf ByteArray.empty t154 x43_1).size : Int)) = false := decide_eq_false c14
           clear c14
           by_cases c15 : (rdOf ByteArray.empty t154 x43_1).toList = ([] : List UInt8)
           ·rw [if_pos c15] at H
            have c15b0 : ((rdOf ByteArray.empty t154 x43_1).toList == ([] : List UInt8)) = true := beq_iff_eq.mpr c15
            have c15b1 : ((rdOf ByteArray.empty t154 x43_1).toList != ([] : List UInt8)) = false := bne_eq_false_iff_eq.mpr c15
            clear c15
            by_cases c16 : t153.toList = ([] : List UInt8)
            ·rw [if_pos c16] at H
             have c16b0 : (t153.toList == ([] : List UInt8)) = true := beq_iff_eq.mpr c16
             have c16b1 : (t153.toList != ([] : List UInt8)) = false := bne_eq_false_iff_eq.mpr c16
             clear c16
             have H' := Aside0.mk H
             clear H
             have p159 : 0 ≤ (x43_1 : Int) := ofd_
             have q159 : x43_1 < (t154.length : Int) := ofd_
             (first | obtain ⟨ad159, e159, hx159_0⟩ := Kd.at_string (Kd.R_reads' HO_41.out).2.2 x43_1 p159 q159 | (obtain ⟨Az_, cz_, ez_⟩ := Kd.R_slice HO_41.out; subst ez_; obtain ⟨ad159, e159, hx159_0⟩ := Kd.at_string (Kd.R_reads' HO_41.out).2.2 x43_1 p159 q159))
             cases e159
             replace p159 := eq_true p159
             replace q159 := eq_true q159
             go_wp2
             go_roundg k1
             case measure => have := HK1.out; omega
             case rel => exact ⟨(x7_1 ++ (rdOf ByteArray.empty t154 x43_1)), (wrap64 (x43_1 + 1)), (by first | rfl | (simp; done) | (simp [*]; done) | (simp [ne_nil_]; done)), (by first | rfl | (simp; done) | (simp [*]; done) | (simp [ne_nil_]; done)), H', ⟨by have := HK1.out; omega⟩, ⟨by (with_reducible repeat (first | apply rwA | apply rwN | apply rwD)); exact HO_5.out⟩, ⟨by (with_reducible repeat (first | apply rwA | apply rwN | apply rwD)); exact HO_41.out⟩, ⟨by repeat (first | (with_reducible first | exact HB.out | apply bwA | apply bwN | apply bwD) | exact HB.out)⟩⟩
            ·rw [if_neg c16] at H
             exact absurd (Option.some.inj H) (by rw [hr_.out]; decide)
           ·rw [if_neg c15] at H
            have c15b0 : ((rdOf ByteArray.empty t154 x43_1).toList == ([] : List UInt8)) = false := beq_eq_false_iff_ne.mpr c15
            have c15b1 : ((rdOf ByteArray.empty t154 x43_1).toList != ([] : List UInt8)) = true := bne_iff_ne.mpr c15
            have H' := Aside0.mk H
            clear H
            have p159 : 0 ≤ (x43_1 : Int) := ofd_
            have q159 : x43_1 < (t154.length : Int) := ofd_
            (first | obtain ⟨ad159, e159, hx159_0⟩ := Kd.at_string (Kd.R_reads' HO_41.out).2.2 x43_1 p159 q159 | (obtain ⟨Az_, cz_, ez_⟩ := Kd.R_slice HO_41.out; subst ez_; obtain ⟨ad159, e159, hx159_0⟩ := Kd.at_string (Kd.R_reads' HO_41.out).2.2 x43_1 p159 q159))
            cases e159
            replace p159 := eq_true p159
            replace q159 := eq_true q159
            go_wp2
            go_roundg k1
            case measure => have := HK1.out; omega
            case rel => exact ⟨(x7_1 ++ (rdOf ByteArray.empty t154 x43_1)), (wrap64 (x43_1 + 1)), (by first | rfl | (simp; done) | (simp [*]; done) | (simp [ne_nil_]; done)), (by first | rfl | (simp; done) | (simp [*]; done) | (simp [ne_nil_]; done)), H', ⟨by have := HK1.out; omega⟩, ⟨by (with_reducible repeat (first | apply rwA | apply rwN | apply rwD)); exact HO_5.out⟩, ⟨by (with_reducible repeat (first | apply rwA | apply rwN | apply rwD)); exact HO_41.out⟩, ⟨by repeat (first | (with_reducible first | exact HB.out | apply bwA | apply bwN | apply bwD) | exact HB.out)⟩⟩
         ·rw [if_neg c13] at H
          exact absurd (Option.some.inj H) (by rw [hr_.out]; decide)
        ·rw [if_neg c12] at H
         have c12b0 : decide ((wrap64 (x43_1 + 1)) < (t154.length : Int)) = false := decide_eq_false c12
         clear c12
         by_cases c17 : ((rdOf ByteArray.empty t154 x43_1).size : Int) > a1
         ·rw [if_pos c17] at H
          exact absurd (Option.some.inj H) (by rw [hr_.out]; decide)
         ·rw [if_neg c17] at H
          have c17b0 : decide (a1 < ((rdOf ByteArray.empty t154 x43_1).size : Int)) = false := decide_eq_false c17
          clear c17
          by_cases c18 : (rdOf ByteArray.empty t154 x43_1).toList = ([] : List UInt8)
          ·rw [if_pos c18] at H
           have c18b0 : ((rdOf ByteArray.empty t154 x43_1).toList == ([] : List UInt8)) = true := beq_iff_eq.mpr c18
           have c18b1 : ((rdOf ByteArray.empty t154 x43_1).toList != ([] : List UInt8)) = false := bne_eq_false_iff_eq.mpr c18
           clear c18
           by_cases c19 : t153.toList = ([] : List UInt8)
           ·rw [if_pos c19] at H
            have c19b0 : (t153.toList == ([] : List UInt8)) = true := beq_iff_eq.mpr c19
            have c19b1 : (t153.toList != ([] : List UInt8)) = false := bne_eq_false_iff_eq.mpr c19
            clear c19
            have H' := Aside0.mk H
            clear H
            have p159 : 0 ≤ (x43_1 : Int) := ofd_
            have q159 : x43_1 < (t154.length : Int) := ofd_
            (first | obtain ⟨ad159, e159, hx159_0⟩ := Kd.at_string (Kd.R_reads' HO_41.out).2.2 x43_1 p159 q159 | (obtain ⟨Az_, cz_, ez_⟩ := Kd.R_slice HO_41.out; subst ez_; obtain ⟨ad159, e159, hx159_0⟩ := Kd.at_string (Kd.R_reads' HO_41.out).2.2 x43_1 p159 q159))
            cases e159
            replace p159 := eq_true p159
            replace q159 := eq_true q159
            go_wp2
            go_roundg k1
            case measure => have := HK1.out; omega
            case rel => exact ⟨(x7_1 ++ (rdOf ByteArray.empty t154 x43_1)), (wrap64 (x43_1 + 1)), (by first | rfl | (simp; done) | (simp [*]; done) | (simp [ne_nil_]; done)), (by first | rfl | (simp; done) | (simp [*]; done) | (simp [ne_nil_]; done)), H', ⟨by have := HK1.out; omega⟩, ⟨by (with_reducible repeat (first | apply rwA | apply rwN | apply rwD)); exact HO_5.out⟩, ⟨by (with_reducible repeat (first | apply rwA | apply rwN | apply rwD)); exact HO_41.out⟩, ⟨by repeat (first | (with_reducible first | exact HB.out | apply bwA | apply bwN | apply bwD) | exact HB.out)⟩⟩
           ·rw [if_neg c19] at H
            exact absurd (Option.some.inj H) (by rw [hr_.out]; decide)
          ·rw [if_neg c18] at H
           have c18b0 : ((rdOf ByteArray.empty t154 x43_1).toList == ([] : List UInt8)) = false := beq_eq_false_iff_ne.mpr c18
           have c18b1 : ((rdOf ByteArray.empty t154 x43_1).toList != ([] : List UInt8)) = true := bne_iff_ne.mpr c18
           have H' := Aside0.mk H
           clear H
           have p159 : 0 ≤ (x43_1 : Int) := ofd_
           have q159 : x43_1 < (t154.length : Int) := ofd_
           (first | obtain ⟨ad159, e159, hx159_0⟩ := Kd.at_string (Kd.R_reads' HO_41.out).2.2 x43_1 p159 q159 | (obtain ⟨Az_, cz_, ez_⟩ := Kd.R_slice HO_41.out; subst ez_; obtain ⟨ad159, e159, hx159_0⟩ := Kd.at_string (Kd.R_reads' HO_41.out).2.2 x43_1 p159 q159))
           cases e159
           replace p159 := eq_true p159
           replace q159 := eq_true q159
           go_wp2
           go_roundg k1
           case measure => have := HK1.out; omega
           case rel => exact ⟨(x7_1 ++ (rdOf ByteArray.empty t154 x43_1)), (wrap64 (x43_1 + 1)), (by first | rfl | (simp; done) | (simp [*]; done) | (simp [ne_nil_]; done)), (by first | rfl | (simp; done) | (simp [*]; done) | (simp [ne_nil_]; done)), H', ⟨by have := HK1.out; omega⟩, ⟨by (with_reducible repeat (first | apply rwA | apply rwN | apply rwD)); exact HO_5.out⟩, ⟨by (with_reducible repeat (first | apply rwA | apply rwN | apply rwD)); exact HO_41.out⟩, ⟨by repeat (first | (with_reducible first | exact HB.out | apply bwA | apply bwN | apply bwD) | exact HB.out)⟩⟩
       ·rw [if_neg c11] at H
        exact absurd H (by simp)
      ·rw [if_neg c10] at H
       exact absurd H (by simp)
     ·rw [if_neg c9] at H
      exact absurd H (by simp)
    ·rw [if_neg c8] at H
     have c8b0 : decide (x43_1 < (t154.length : Int)) = false := decide_eq_false c8
     clear c8
     replace H := Option.bind_eq_some_iff.mp H
     obtain ⟨t160, A200, H⟩ := H
     replace H : (if t160 = true then (if x7_1.toList = t153.toList then (if (t154.length : Int) ≥ 1 then (some (decide ((t154.length : Int) ≤ 512))) else (some false)) else (some false)) else (some false)) = some r := H
     have A20 := Aside0.mk A200
     clear A200
     by_cases c21 : t160 = true
     ·subst c21
      have H1 : (if x7_1.toList = t153.toList then (if (t154.length : Int) ≥ 1 then (some (decide ((t154.length : Int) ≤ 512))) else (some false)) else (some false)) = some r := by rw [if_pos rfl] at H; exact H
      clear H
      have H := H1
      clear H1
      by_cases c22 : x7_1.toList = t153.toList
      ·rw [if_pos c22] at H
       have c22b0 : (x7_1.toList == t153.toList) = true := beq_iff_eq.mpr c22
       have c22b1 : (x7_1.toList != t153.toList) = false := bne_eq_false_iff_eq.mpr c22
       clear c22
       by_cases c23 : (t154.length : Int) ≥ 1
       ·rw [if_pos c23] at H
        have c23b0 : decide (1 ≤ (t154.length : Int)) = true := decide_eq_true c23
        have c23b1 : decide (1 ≤ t154.length) = true := decide_eq_true (by omega)
        clear c23
        obtain rfl := Option.some.inj H
        go_wp2_with (first | ((with_reducible refine gate_callee (f := 13) rfl ?_); refine goesL_ (some 77) rfl rfl Try.func13 (by kernel_rfl) rfl #[] rfl (by (try simp only [List.map_toArray, List.map_cons, List.map_nil]); first | done | rfl | (simp only [List.length_drop, List.length_take]; rfl)) ?_; (with_reducible refine (tillerlaw20_awake.calls k1  true _ A20.out).mono ?_); rintro e w24 ⟨rfl, hb⟩; refine ⟨_, rfl, ?_⟩; have n0_ := Aside0.mk (Kd.R_below (by (with_reducible repeat (first | apply rwA | apply rwN | apply rwD)); exact HO_5.out) hb); have n1_ := Aside0.mk (Kd.R_below (by (with_reducible repeat (first | apply rwA | apply rwN | apply rwD)); exact HO_41.out) hb); have n2_ := Aside0.mk (below_step (by repeat (first | (with_reducible first | exact HB.out | apply bwA | apply bwN | apply bwD) | exact HB.out)) hb); clear HO_5; clear HO_41; clear HB; have HO_5 := n0_; have HO_41 := n1_; have HB := n2_; clear n0_ n1_ n2_; (try clear hb); (try clear hb2); (try clear hk); (try clear hi)))
        go_ret
        exact ⟨by first | rfl | (simp [errW_none, errW_some] <;> rfl) | (simp [*, errW_none, errW_some] <;> rfl), by repeat (first | (with_reducible first | exact HB.out | apply bwA | apply bwN | apply bwD) | exact HB.out)⟩
       ·rw [if_neg c23] at H
        exact absurd (Option.some.inj H) (by rw [hr_.out]; decide)
      ·rw [if_neg c22] at H
       exact absurd (Option.some.inj H) (by rw [hr_.out]; decide)
     ·replace c21 := Bool.eq_false_iff.mpr c21
      subst c21
      have H1 : (some false) = some r := by rw [if_neg (show ¬ (false = true) by decide)] at H; exact H
      clear H
      have H := H1
      clear H1
      exact absurd (Option.some.inj H) (by rw [hr_.out]; decide)
 ·rw [if_neg c5] at H
  have c5b0 : (t155 == 0) = false := beq_eq_false_iff_ne.mpr c5
  have c5b1 : (t155 != 0) = true := bne_iff_ne.mpr c5
  replace H := Option.bind_eq_some_iff.mp H
  obtain ⟨t158, A250, H⟩ := H
  replace H : (if t158 = true then (if (t154.length : Int) = 0 then (if a1 < 1 then (some true) else (if a1 > 4096 then (some true) else (some (decide ((t153.size : Int) > (wrap64 (512 * a1))))))) else (some false)) else (some false)) = some r := H
  have A25 := Aside0.mk A250
  clear A250
  by_cases c26 : t158 = true
  ·subst c26
   have H1 : (if (t154.length : Int) = 0 then (if a1 < 1 then (some true) else (if a1 > 4096 then (some true) else (some (decide ((t153.size : Int) > (wrap64 (512 * a1))))))) else (some false)) = some r := by rw [if_pos rfl] at H; exact H
   clear H
   have H := H1
   clear H1
   by_cases c27 : (t154.length : Int) = 0
   ·rw [if_pos c27] at H
    have c27b0 : ((t154.length : Int) == 0) = true := beq_iff_eq.mpr c27
    have c27b1 : ((t154.length : Int) != 0) = false := bne_eq_false_iff_eq.mpr c27
    clear c27
    by_cases c28 : a1 < 1
    ·rw [if_pos c28] at H
     have c28b0 : decide (a1 < 1) = true := decide_eq_true c28
     clear c28
     obtain rfl := Option.some.inj H
     go_enter Try.func3, Try.ntmps3
     go_wp2_with (first | ((with_reducible refine gate_callee (f := 11) rfl ?_); refine goesL_ (some 11) rfl rfl Try.func11 (by kernel_rfl) rfl #[.string a0, .int .i64 3000] rfl (by (try simp only [List.map_toArray, List.map_cons, List.map_nil]); first | done | rfl | (simp only [List.length_drop, List.length_take]; rfl)) ?_; (with_reducible refine (tillerlaw14_Cut.calls a0 3000 t153 _ A3.out).mono ?_); rintro e w' ⟨rfl, ⟨nd, rfl⟩⟩; refine ⟨_, rfl, ?_⟩) | ((with_reducible refine gate_callee (f := 12) rfl ?_); refine goesL_ (some 15) rfl rfl Try.func12 (by kernel_rfl) rfl #[.string t153, .int .i64 a1] rfl (by (try simp only [List.map_toArray, List.map_cons, List.map_nil]); first | done | rfl | (simp only [List.length_drop, List.length_take]; rfl)) ?_; (with_reducible refine (send_Cut.calls k t153 a1 t154 t155 _ A4.out).mono ?_); rintro e w29 ⟨v156, rfl, ho0, hb⟩; refine ⟨_, rfl, ?_⟩; have n0_ := Aside0.mk (Kd.R_lower ho0 (below_size (by repeat (first | (with_reducible first | exact HB.out | apply bwA | apply bwN | apply bwD) | exact HB.out)))); have n1_ := Aside0.mk (below_step (by repeat (first | (with_reducible first | exact HB.out | apply bwA | apply bwN | apply bwD) | exact HB.out)) hb); clear HB; have HO157 := n0_; have HB := n1_; clear n0_ n1_; (try clear hb); (try clear hb2); (try clear hk); (try clear hi); (try clear ho0)) | ((with_reducible refine gate_callee (f := 13) rfl ?_); refine goesL_ (some 20) rfl rfl Try.func13 (by kernel_rfl) rfl #[] rfl (by (try simp only [List.map_toArray, List.map_cons, List.map_nil]); first | done | rfl | (simp only [List.length_drop, List.length_take]; rfl)) ?_; (with_reducible refine (tillerlaw20_awake.calls k  true _ A25.out).mono ?_); rintro e w30 ⟨rfl, hb⟩; refine ⟨_, rfl, ?_⟩; have n0_ := Aside0.mk (Kd.R_below (by (with_reducible repeat (first | apply rwA | apply rwN | apply rwD)); exact HO157.out) hb); have n1_ := Aside0.mk (below_step (by repeat (first | (with_reducible first | exact HB.out | apply bwA | apply bwN | apply bwD) | exact HB.out)) hb); clear HO157; clear HB; have HO157 := n0_; have HB := n1_; clear n0_ n1_; (try clear hb); (try clear hb2); (try clear hk); (try clear hi); obtain ⟨Ao31, co31, eo31⟩ := Kd.R_slice HO157.out; subst eo31))
     go_ret
     exact ⟨by first | rfl | (simp [errW_none, errW_some] <;> rfl) | (simp [*, errW_none, errW_some] <;> rfl), by repeat (first | (with_reducible first | exact HB.out | apply bwA | apply bwN | apply bwD) | exact HB.out)⟩
    ·rw [if_neg c28] at H
     have c28b0 : decide (a1 < 1) = false := decide_eq_false c28
     clear c28
     by_cases c32 : a1 > 4096
     ·rw [if_pos c32] at H
      have c32b0 : decide (4096 < a1) = true := decide_eq_true c32
      clear c32
      obtain rfl := Option.some.inj H
      go_enter Try.func3, Try.ntmps3
      go_wp2_with (first | ((with_reducible refine gate_callee (f := 11) rfl ?_); refine goesL_ (some 11) rfl rfl Try.func11 (by kernel_rfl) rfl #[.string a0, .int .i64 3000] rfl (by (try simp only [List.map_toArray, List.map_cons, List.map_nil]); first | done | rfl | (simp only [List.length_drop, List.length_take]; rfl)) ?_; (with_reducible refine (tillerlaw14_Cut.calls a0 3000 t153 _ A3.out).mono ?_); rintro e w' ⟨rfl, ⟨nd, rfl⟩⟩; refine ⟨_, rfl, ?_⟩) | ((with_reducible refine gate_callee (f := 12) rfl ?_); refine goesL_ (some 15) rfl rfl Try.func12 (by kernel_rfl) rfl #[.string t153, .int .i64 a1] rfl (by (try simp only [List.map_toArray, List.map_cons, List.map_nil]); first | done | rfl | (simp only [List.length_drop, List.length_take]; rfl)) ?_; (with_reducible refine (send_Cut.calls k t153 a1 t154 t155 _ A4.out).mono ?_); rintro e w33 ⟨v156, rfl, ho0, hb⟩; refine ⟨_, rfl, ?_⟩; have n0_ := Aside0.mk (Kd.R_lower ho0 (below_size (by repeat (first | (with_reducible first | exact HB.out | apply bwA | apply bwN | apply bwD) | exact HB.out)))); have n1_ := Aside0.mk (below_step (by repeat (first | (with_reducible first | exact HB.out | apply bwA | apply bwN | apply bwD) | exact HB.out)) hb); clear HB; have HO157 := n0_; have HB := n1_; clear n0_ n1_; (try clear hb); (try clear hb2); (try clear hk); (try clear hi); (try clear ho0)) | ((with_reducible refine gate_callee (f := 13) rfl ?_); refine goesL_ (some 20) rfl rfl Try.func13 (by kernel_rfl) rfl #[] rfl (by (try simp only [List.map_toArray, List.map_cons, List.map_nil]); first | done | rfl | (simp only [List.length_drop, List.length_take]; rfl)) ?_; (with_reducible refine (tillerlaw20_awake.calls k  true _ A25.out).mono ?_); rintro e w34 ⟨rfl, hb⟩; refine ⟨_, rfl, ?_⟩; have n0_ := Aside0.mk (Kd.R_below (by (with_reducible repeat (first | apply rwA | apply rwN | apply rwD)); exact HO157.out) hb); have n1_ := Aside0.mk (below_step (by repeat (first | (with_reducible first | exact HB.out | apply bwA | apply bwN | apply bwD) | exact HB.out)) hb); clear HO157; clear HB; have HO157 := n0_; have HB := n1_; clear n0_ n1_; (try clear hb); (try clear hb2); (try clear hk); (try clear hi); obtain ⟨Ao35, co35, eo35⟩ := Kd.R_slice HO157.out; subst eo35))
      go_ret
      exact ⟨by first | rfl | (simp [errW_none, errW_some] <;> rfl) | (simp [*, errW_none, errW_some] <;> rfl), by repeat (first | (with_reducible first | exact HB.out | apply bwA | apply bwN | apply bwD) | exact HB.out)⟩
     ·rw [if_neg c32] at H
      have c32b0 : decide (4096 < a1) = false := decide_eq_false c32
      clear c32
      obtain rfl := Option.some.inj H
      go_enter Try.func3, Try.ntmps3
      go_wp2_with (first | ((with_reducible refine gate_callee (f := 11) rfl ?_); refine goesL_ (some 11) rfl rfl Try.func11 (by kernel_rfl) rfl #[.string a0, .int .i64 3000] rfl (by (try simp only [List.map_toArray, List.map_cons, List.map_nil]); first | done | rfl | (simp only [List.length_drop, List.length_take]; rfl)) ?_; (with_reducible refine (tillerlaw14_Cut.calls a0 3000 t153 _ A3.out).mono ?_); rintro e w' ⟨rfl, ⟨nd, rfl⟩⟩; refine ⟨_, rfl, ?_⟩) | ((with_reducible refine gate_callee (f := 12) rfl ?_); refine goesL_ (some 15) rfl rfl Try.func12 (by kernel_rfl) rfl #[.string t153, .int .i64 a1] rfl (by (try simp only [List.map_toArray, List.map_cons, List.map_nil]); first | done | rfl | (simp only [List.length_drop, List.length_take]; rfl)) ?_; (with_reducible refine (send_Cut.calls k t153 a1 t154 t155 _ A4.out).mono ?_); rintro e w36 ⟨v156, rfl, ho0, hb⟩; refine ⟨_, rfl, ?_⟩; have n0_ := Aside0.mk (Kd.R_lower ho0 (below_size (by repeat (first | (with_reducible first | exact HB.out | apply bwA | apply bwN | apply bwD) | exact HB.out)))); have n1_ := Aside0.mk (below_step (by repeat (first | (with_reducible first | exact HB.out | apply bwA | apply bwN | apply bwD) | exact HB.out)) hb); clear HB; have HO157 := n0_; have HB := n1_; clear n0_ n1_; (try clear hb); (try clear hb2); (try clear hk); (try clear hi); (try clear ho0)) | ((with_reducible refine gate_callee (f := 13) rfl ?_); refine goesL_ (some 20) rfl rfl Try.func13 (by kernel_rfl) rfl #[] rfl (by (try simp only [List.map_toArray, List.map_cons, List.map_nil]); first | done | rfl | (simp only [List.length_drop, List.length_take]; rfl)) ?_; (with_reducible refine (tillerlaw20_awake.calls k  true _ A25.out).mono ?_); rintro e w37 ⟨rfl, hb⟩; refine ⟨_, rfl, ?_⟩; have n0_ := Aside0.mk (Kd.R_below (by (with_reducible repeat (first | apply rwA | apply rwN | apply rwD)); exact HO157.out) hb); have n1_ := Aside0.mk (below_step (by repeat (first | (with_reducible first | exact HB.out | apply bwA | apply bwN | apply bwD) | exact HB.out)) hb); clear HO157; clear HB; have HO157 := n0_; have HB := n1_; clear n0_ n1_; (try clear hb); (try clear hb2); (try clear hk); (try clear hi); obtain ⟨Ao38, co38, eo38⟩ := Kd.R_slice HO157.out; subst eo38))
      go_ret
      exact ⟨by first | rfl | (simp [errW_none, errW_some] <;> rfl) | (simp [*, errW_none, errW_some] <;> rfl), by repeat (first | (with_reducible first | exact HB.out | apply bwA | apply bwN | apply bwD) | exact HB.out)⟩
   ·rw [if_neg c27] at H
    exact absurd (Option.some.inj H) (by rw [hr_.out]; decide)
  ·replace c26 := Bool.eq_false_iff.mpr c26
   subst c26
   have H1 : (some false) = some r := by rw [if_neg (show ¬ (false = true) by decide)] at H; exact H
   clear H
   have H := H1
   clear H1
   exact absurd (Option.some.inj H) (by rw [hr_.out]; decide)

end Go.Proofs.Ytfonfdpimbnfaaa.GQ
