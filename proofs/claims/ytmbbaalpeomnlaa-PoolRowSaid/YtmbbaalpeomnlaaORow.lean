/- PoolRow, walked by hand: pages that nobody needs go in the order in which they came to be so. Printed by wip/tool/orow.py. -/
import Derived.Test.YtmbbaalpeomnlaaORows
import Derived.Test.YtmbbaalpeomnlaaOSealed
set_option linter.unusedVariables false
set_option linter.unusedSimpArgs false
namespace Go.Proofs.Ytmbbaalpeomnlaa.ORow
open Go.RowKit Go.Proofs.YtmbbaalpeomnlaaW.PrintWords Go.Proofs.YtmbbaalpeomnlaaW.PrintLast Go.Proofs.YtmbbaalpeomnlaaW.PrintMore Go.Proofs.Ytmbbaalpeomnlaa.GQ Go.Proofs.Ytmbbaalpeomnlaa.OPool Go.Proofs.Ytmbbaalpeomnlaa.OInv
def tillerlaw12_PoolRow.f (a0 : Int) (l1 : List Int) (a2 : Int) : Option Bool := if -9223372036854775808 ≤ a0 ∧ a0 ≤ 9223372036854775807 then some true else none
theorem rd_at (l : List Int) (j : Nat) (h : j < l.length) : rd l (j : Int) = l[j] := by
  unfold rd
  rw [Int.toNat_natCast, List.getD_eq_getElem?_getD, List.getElem?_eq_getElem h]
  rfl
theorem drop_rd (l : List Int) (j : Nat) (h : j < l.length) : l.drop j = rd l (j : Int) :: l.drop (j + 1) := by
  rw [rd_at l j h]
  exact List.drop_eq_getElem_cons h
theorem filter_rd (l : List Int) (a : Int) (j : Nat) (h : j < l.length) : (l.take (j + 1)).filter (fun x => x != a) = (l.take j).filter (fun x => x != a) ++ if rd l (j : Int) != a then [rd l (j : Int)] else [] := by
  rw [rd_at l j h, List.take_succ_eq_append_getElem h, List.filter_append]
  congr 1
  cases e : (l[j] != a)
  · rw [if_neg (by decide)]; simp [e]
  · rw [if_pos rfl]; simp [e]
theorem filter_all (l : List Int) (a : Int) (h : l.Nodup) : (l.take l.length).filter (fun x => x != a) = l.erase a := by
  rw [List.take_of_length_le (Nat.le_refl _), List.Nodup.erase_eq_filter h]
set_option maxHeartbeats 16000000 in
set_option maxRecDepth 100000 in
theorem tillerlaw12_PoolRow.calls (a0 : Int) (A1 : Option Addr) (c1 : Nat) (l1 : List Int) (a2 : Int) (r : Bool) (w : World) (hr1 : Kd.C (Kd.int .i64) w A1 l1.length l1) (hc1 : l1.length ≤ c1) (hr_ : Aside0 (r = true)) (h : tillerlaw12_PoolRow.f a0 l1 a2 = some r) : Calls Try.prog 4 #[.int .i64 a0, .slice A1 l1.length c1, .int .i64 a2] w fun e w' => e = .returned (.bool r) ∧ Below w.heap.size w w' := by
  obtain ⟨r_⟩ := hr_
  subst r_
  clear h
  by_cases hn : a0 < 1 ∨ a0 > 20
  · rcases hn with hn | hn
    · have d1 : decide (a0 < 1) = true := decide_eq_true hn
      clear hr1
      go_enter Try.func4, Try.ntmps4
      go_wp2_with (go_at_call 8; refine (awake_calls _).mono ?_; rintro e w1 ⟨rfl, hb⟩)
      go_ret
      exact ⟨rfl, hb⟩
    · have d1 : decide (a0 < 1) = false := decide_eq_false (by omega)
      have d2 : decide (a0 > 20) = true := decide_eq_true hn
      clear hr1
      go_enter Try.func4, Try.ntmps4
      go_wp2_with (go_at_call 8; refine (awake_calls _).mono ?_; rintro e w1 ⟨rfl, hb⟩)
      go_ret
      exact ⟨rfl, hb⟩
  obtain ⟨n, rfl⟩ : ∃ n : Nat, a0 = (n : Int) := ⟨a0.toNat, (Int.toNat_of_nonneg (by omega)).symm⟩
  have d1 : decide ((n : Int) < 1) = false := decide_eq_false (by omega)
  have d2 : decide ((n : Int) > 20) = false := decide_eq_false (by omega)
  have hn1 : n ≤ 20 := by omega
  have hn0 : 1 ≤ n := by omega
  clear hn
  have HR := Aside0.mk hr1
  have HF := Aside0.mk (half_fresh n (by omega))
  obtain ⟨M, hM⟩ : ∃ M : Nat, M = min l1.length 60 := ⟨_, rfl⟩
  have HM := Aside0.mk hM
  clear hr1 hM
  go_enter Try.func4, Try.ntmps4
  go_wp2_with (first
    | (go_at_call 9; refine (new_ok n w hn0 (by omega)).mono ?_; rintro e w1 ⟨g, rfl, hP, hb⟩; have P1 := Aside0.mk hP; have B1 := Aside0.mk hb; clear hP hb))
  go_loopg [9] n (fun kq v9 w' => ∃ (i : Nat) (X : PX), v9 = .int .i64 (i : Int) ∧ Aside0 (i + kq = n) ∧ Aside0 (Half n i X) ∧ Aside0 (PoolAt w.heap.size (fun k => w.heap.size ≤ k) w' g X) ∧ Aside0 (Below w.heap.size w w'))
  case atStart => exact ⟨0, fresh n, rfl, ⟨Nat.zero_add _⟩, HF, P1, B1⟩
  case round =>
    clear P1 B1 HF
    obtain ⟨i, X, rfl, HI, HX, HP, HB⟩ := hrel
    have hi := HI.out
    cases gk with
    | succ k =>
      have b1 : decide (i < n) = true := decide_eq_true (by omega)
      have hi2 : (i : Int) + 1 ≤ 20 := by omega
      have HT := Aside0.mk (half_take HX.out (by omega))
      obtain ⟨Z, z1, z2⟩ := half_seal HX.out (by omega)
      have Z1 := Aside0.mk z1
      have Z2 := Aside0.mk z2
      clear hi z1 z2
      go_wp2_with (first
        | (go_at_call 10; refine (take_calls _ _ g X _ HP.out HX.out.inv.ask_take).mono ?_; rw [HT.out]; rintro e w3 ⟨rfl, hb, _, hP⟩; have P3 := Aside0.mk hP; have B3 := Aside0.mk (HB.out.trans hb); clear hP hb)
        | (go_at_call 15; refine (seal_calls _ _ g _ _ _ _ P3.out).mono ?_; rw [Z1.out]; rintro e w4 ⟨rfl, hb, _, hP⟩; have P4 := Aside0.mk hP; have B4 := Aside0.mk (B3.out.trans hb); clear hP hb))
      go_roundg k
      case measure => omega
      case rel => exact ⟨i + 1, Z, by go_num, ⟨by have := HI.out; omega⟩, Z2, P4, B4⟩
    | zero =>
      have b1 : decide (i < n) = false := decide_eq_false (by omega)
      obtain rfl : i = n := by omega
      have HS := Aside0.mk (half_all HX.out)
      have HID := Aside0.mk HX.out.idle
      have PE := Aside0.mk (HP.out.clear (.slice (some ⟨wr.heap.size, 0, none⟩) 0 0) (empty_own _) (.cells #[] 3 (0, 0)))
      have RE := Aside0.mk (Row.empty w.heap.size wr HB.out.size)
      have BE := Aside0.mk (HB.out.alloc HB.out.size (.cells #[] 3 (0, 0)))
      clear hi HX HI
      go_wp2
      go_loopg [14, 15] M (fun kq v14 v15 w' => ∃ (j : Nat) (Y : PX) (A : Option Addr) (c : Nat), v14 = .slice A Y.idle.length c ∧ v15 = .int .i64 (j : Int) ∧ Aside0 (j + kq = M) ∧ Aside0 (Sealed i Y) ∧ Aside0 (Row w.heap.size w' (.slice A Y.idle.length c) Y.idle) ∧ Aside0 (PoolAt w.heap.size (off w.heap.size (.slice A Y.idle.length c)) w' g Y) ∧ Aside0 (Below w.heap.size w w'))
      case atStart => exact ⟨0, X, some ⟨wr.heap.size, 0, none⟩, 0, by rw [HID.out]; rfl, rfl, ⟨Nat.zero_add _⟩, HS, ⟨by rw [HID.out]; exact RE.out⟩, ⟨by rw [HID.out]; exact PE.out⟩, BE⟩
      case round =>
        clear PE RE BE HS HID HP HB
        obtain ⟨j, Y, A, c, rfl, rfl, HJ, HS, HW, HP, HB⟩ := hrel
        have hj := HJ.out
        have hm := HM.out
        cases gk with
        | succ k =>
          have b2 : decide (j < l1.length) = true := decide_eq_true (by omega)
          have b3 : decide ((j : Int) < 60) = true := decide_eq_true (by omega)
          have hj2 : (j : Int) + 1 ≤ 60 := by omega
          have q103 : j < l1.length := by omega
          obtain ⟨ad102, e102, hx0⟩ := Kd.at_int HR.out (j : Int) (by omega) (by omega)
          cases e102
          have AB := Aside0.mk (World.block_lt_of_cell? w _ hx0)
          replace hx0 := (HB.out.cell (World.block_lt_of_cell? w _ hx0)).trans hx0
          simp only [Int.toNat_natCast] at hx0 AB
          have HX0 := Aside0.mk hx0
          generalize rd l1 (j : Int) = x at hx0 HX0
          have hlt := Aside0.mk (World.block_lt_of_cell? wr _ hx0)
          have LT := Aside0.mk HB.out.size
          have FR := Aside0.mk (HW.out.fresh HB.out.size)
          have AD := Aside0.mk (HS.out.inv.ask_drop x)
          obtain ⟨s1, s2⟩ := HS.out.drop x
          obtain ⟨Z, hZ⟩ : ∃ Z, Z = (pDrop Y x).1 := ⟨_, rfl⟩
          rw [← hZ] at s1 s2
          have S1 := Aside0.mk s1
          have HZ := Aside0.mk hZ
          clear hj hm s1 hZ
          rcases s2 with ⟨s2, s3⟩ | ⟨s2, s3⟩
          · have S2 := Aside0.mk s2
            have S3 := Aside0.mk s3
            have hl := HS.out.inv.counts
            have hl2 := HS.out.inv.len
            have HL := Aside0.mk (show Y.idle.length ≤ 64 by omega)
            clear s2 s3 hl hl2
            go_wp2_with (first
              | (go_at_call 13; refine (drop_calls _ _ g Y x _ HP.out FR.out AD.out.1 AD.out.2).mono ?_; rw [S2.out]; rintro e w5 ⟨rfl, hb, hk, hP⟩; rw [← HZ.out] at hP; have P5 := Aside0.mk hP; have W5 := Aside0.mk (HW.out.kept hk); have B5 := Aside0.mk (HB.out.trans hb); have hx5 := (hb.cell AB.out).trans HX0.out; clear hP hb hk)
              | ((with_reducible refine gate_builtin (b := .append) (xs := #[.tmp 92, .tmp 97]) rfl ?_); refine Kd.R_append (Kd.int .i64) (w0 := w) w.heap.size rfl (.tmp 92) (.tmp 97) 34 3 (.int .i64 0) 8 rfl Try.underlying34 info3 rfl (by decide) (by omega) (.slice A Y.idle.length c) Y.idle x [.int .i64 x] (fun k => w.heap.size ≤ k) (fun _ => False) rfl rfl ?aP (fun _ hk => hk.elim) ?aF ?aO ?aB ?aS ?aL ?_; (case aP => exact rfl); (case aF => exact fun k hk => Nat.le_trans B5.out.size hk); (case aO => exact W5.out); (case aB => exact B5.out); (case aS => exact B5.out.size); (case aL => have := HL.out; omega); intro v6 w6 ho hb hg hat; have P6 := Aside0.mk (P5.out.grown hg hat); rw [← S3.out] at ho; obtain ⟨A6, c6, rfl⟩ := Kd.R_slice ho; have W6 := Aside0.mk (show Row w.heap.size w6 (.slice A6 Z.idle.length c6) Z.idle from ho); have B6 := Aside0.mk hb; clear ho hb hg hat))
            go_roundg k
            case measure => omega
            case rel => exact ⟨j + 1, Z, A6, c6, rfl, by go_num, ⟨by have := HJ.out; omega⟩, S1, W6, P6, B6⟩
          · have S2 := Aside0.mk s2
            have S3 := Aside0.mk s3
            clear s2 s3
            go_wp2_with (first
              | (go_at_call 13; refine (drop_calls _ _ g Y x _ HP.out FR.out AD.out.1 AD.out.2).mono ?_; rw [S2.out]; rintro e w5 ⟨rfl, hb, hk, hP⟩; rw [← HZ.out] at hP; have P5 := Aside0.mk hP; have W5 := Aside0.mk (HW.out.kept hk); have B5 := Aside0.mk (HB.out.trans hb); clear hP hb hk))
            go_roundg k
            case measure => omega
            case rel => exact ⟨j + 1, Z, A, c, by rw [S3.out], by go_num, ⟨by have := HJ.out; omega⟩, S1, ⟨by rw [S3.out]; exact W5.out⟩, ⟨by rw [S3.out]; exact P5.out⟩, B5⟩
        | zero =>
          have hstop : decide (j < l1.length) = false ∨ (decide (j < l1.length) = true ∧ decide ((j : Int) < 60) = false) := by
            by_cases c : j < l1.length
            · exact .inr ⟨decide_eq_true c, decide_eq_false (by omega)⟩
            · exact .inl (decide_eq_false c)
          have FR := Aside0.mk (HW.out.fresh HB.out.size)
          clear hj hm
          rcases hstop with b2 | ⟨b2, b3⟩
          all_goals
            rcases HS.out.refs a2 with ⟨r0, r1, r2⟩ | ⟨r0, r1⟩ | r0
            · have R0 := Aside0.mk r0
              have R2 := Aside0.mk r2
              clear r0 r1 r2
              go_wp2_with (first
                | (go_at_call 12; refine (refs_at _ _ g Y a2 _ HP.out).mono ?_; rw [R0.out]; rintro e w6 ⟨rfl, rfl⟩)
                | (go_at_call 11; refine (hold_calls _ _ g Y a2 _ HP.out FR.out (HS.out.inv.ask_hold _).1 (HS.out.inv.ask_hold _).2).mono ?_; rw [R2.out]; rintro e w7 ⟨rfl, hb, hk, hP⟩; have P7 := Aside0.mk hP; have W7 := Aside0.mk (HW.out.kept hk); have B7 := Aside0.mk (HB.out.trans hb); clear hP hb hk))
              have HQ := HS
              have HL4 := Aside0.mk (show Y.idle.length ≤ 64 from (by have h1_ := HS.out.inv.counts; have h2_ := HS.out.inv.len; omega))
              go_loopg [136] Y.idle.length (fun kq v136 w' => ∃ (t : Nat) (Q : PX), v136 = .int .i64 (t : Int) ∧ Aside0 (t + kq = Y.idle.length) ∧ Aside0 (Waits i Q) ∧ Aside0 (Q.idle = Y.idle.drop t) ∧ Aside0 (Row w.heap.size w' (.slice A Y.idle.length c) Y.idle) ∧ Aside0 (PoolAt w.heap.size (off w.heap.size (.slice A Y.idle.length c)) w' g Q) ∧ Aside0 (Below w.heap.size w w'))
              case atStart => exact ⟨0, Y, rfl, ⟨Nat.zero_add _⟩, ⟨HQ.out.waits⟩, ⟨rfl⟩, W7, P7, B7⟩
              case round =>
                clear W7 P7 B7 HQ
                obtain ⟨t, Q, rfl, HT, HQ, HD, HW, HP, HB⟩ := hrel
                have ht := HT.out
                have FR := Aside0.mk (HW.out.fresh HB.out.size)
                cases gk with
                | succ k =>
                  have b5 : decide (t < Y.idle.length) = true := decide_eq_true (by omega)
                  have t2 : (t : Int) + 1 ≤ 64 := by have := HL4.out; omega
                  have t3 : t < Y.idle.length := by omega
                  have hd := HD.out
                  rw [drop_rd Y.idle t (by omega)] at hd
                  obtain ⟨k1, k2, k3⟩ := HQ.out.take hd
                  obtain ⟨_, hcap, hC⟩ := Kd.R_reads' HW.out
                  obtain ⟨ad, ea, hx⟩ := Kd.at_int hC (t : Int) (by omega) (by omega)
                  obtain ⟨x, hx_⟩ : ∃ x, rd Y.idle (t : Int) = x := ⟨_, rfl⟩
                  rw [hx_] at hx k1 hd
                  simp only [Int.toNat_natCast] at hx
                  have K1 := Aside0.mk k1
                  have K2 := Aside0.mk k2
                  have K3 := Aside0.mk k3
                  have hxb : 0 ≤ x ∧ x < 64 := by
                    obtain ⟨a_, b_, _⟩ := (HQ.out.inv.mem x).1 (by rw [hd]; exact List.mem_cons_self)
                    have := HQ.out.inv.len
                    omega
                  obtain ⟨hx0_, hx1_⟩ := hxb
                  clear ht hd k1 k2 k3 hC hcap hx_
                  cases ea
                  go_wp2_with (first
                    | (go_at_call 10; refine (take_calls _ _ g Q _ HP.out HQ.out.inv.ask_take).mono ?_; rw [K1.out]; rintro e w9 ⟨rfl, hb, hk, hP⟩; have P9 := Aside0.mk hP; have W9 := Aside0.mk (HW.out.kept hk); have B9 := Aside0.mk (HB.out.trans hb); clear hP hb hk))
                  go_roundg k
                  case measure => omega
                  case rel => exact ⟨t + 1, (pTake Q).1, by go_num, ⟨by have := HT.out; omega⟩, K2, K3, W9, P9, B9⟩
                | zero =>
                  have b5 : decide (t < Y.idle.length) = false := decide_eq_false (by omega)
                  have hd := HD.out
                  rw [List.drop_eq_nil_of_le (by omega)] at hd
                  have K1 := Aside0.mk (HQ.out.last hd)
                  clear ht hd
                  go_wp2_with (first
                    | (go_at_call 10; refine (take_calls _ _ g Q _ HP.out HQ.out.inv.ask_take).mono ?_; rw [K1.out]; rintro e w9 ⟨rfl, hb, hk, hP⟩; have B9 := Aside0.mk (HB.out.trans hb); clear hP hb hk)
                    | (go_at_call 8; refine (awake_calls _).mono ?_; rintro e w10 ⟨rfl, hb⟩; have B10 := Aside0.mk (below_step B9.out hb); clear hb))
                  go_ret
                  exact ⟨rfl, B10.out⟩
            · have R0 := Aside0.mk r0
              obtain ⟨g1, g2, g3, g4, g5⟩ := HS.out.again a2 r1
              obtain ⟨H, hH⟩ : ∃ H, H = (pHold Y a2).1 := ⟨_, rfl⟩
              rw [← hH] at g2 g3 g4 g5
              obtain ⟨Z, hZ⟩ : ∃ Z, Z = (pDrop H a2).1 := ⟨_, rfl⟩
              rw [← hZ] at g3 g4
              have G1 := Aside0.mk g1
              have G2 := Aside0.mk g2
              have HQ := Aside0.mk g3
              have G4 := Aside0.mk g4
              have G5 := Aside0.mk g5
              have HH := Aside0.mk hH
              have HZ := Aside0.mk hZ
              have NB := Aside0.mk HS.out.inv.nodup
              have YL := Aside0.mk (show Y.idle.length ≤ 64 from (by have h1_ := HS.out.inv.counts; have h2_ := HS.out.inv.len; omega))
              clear r0 r1 g1 g2 g3 g4 g5 hH hZ
              go_wp2_with (first
                | (go_at_call 12; refine (refs_at _ _ g Y a2 _ HP.out).mono ?_; rw [R0.out]; rintro e w6 ⟨rfl, rfl⟩)
                | (go_at_call 11; refine (hold_calls _ _ g Y a2 _ HP.out FR.out (HS.out.inv.ask_hold _).1 (HS.out.inv.ask_hold _).2).mono ?_; rw [G1.out]; rintro e w7 ⟨rfl, hb, hk, hP⟩; rw [← HH.out] at hP; have P7 := Aside0.mk hP; have W7 := Aside0.mk (HW.out.kept hk); have B7 := Aside0.mk (HB.out.trans hb); clear hP hb hk)
                | (go_at_call 13; refine (drop_calls _ _ g H a2 _ P7.out (W7.out.fresh B7.out.size) (G5.out.ask_drop _).1 (G5.out.ask_drop _).2).mono ?_; rw [G2.out]; rintro e w8 ⟨rfl, hb, hk, hP⟩; rw [← HZ.out] at hP; have P8 := Aside0.mk hP; have W8 := Aside0.mk (W7.out.kept hk); have B8 := Aside0.mk (B7.out.trans hb); have PE := Aside0.mk (P8.out.forget.clear (.slice (some ⟨w8.heap.size, 0, none⟩) 0 0) (empty_own _) (.cells #[] 3 (0, 0))); have RE := Aside0.mk (Row.empty w.heap.size w8 B8.out.size); have BE := Aside0.mk (B8.out.alloc B8.out.size (.cells #[] 3 (0, 0))); have WE := Aside0.mk (W8.out.below (below_alloc (Below.refl _ _) (.cells #[] 3 (0, 0)))); have NE := Aside0.mk W8.out.apart_new; clear hP hb hk))
              go_loopg [16, 118] Y.idle.length (fun kq v16 v118 w' => ∃ (j : Nat) (U : List Int) (A' : Option Addr) (c' : Nat), v16 = .slice A' U.length c' ∧ v118 = .int .i64 (j : Int) ∧ Aside0 (j + kq = Y.idle.length) ∧ Aside0 (U = (Y.idle.take j).filter (fun x => x != a2)) ∧ Aside0 (Row w.heap.size w' (.slice A Y.idle.length c) Y.idle) ∧ Aside0 (Row w.heap.size w' (.slice A' U.length c') U) ∧ Aside0 (∀ k, (Value.slice A Y.idle.length c).ownBlock = some k → (Value.slice A' U.length c').ownBlock ≠ some k) ∧ Aside0 (PoolAt w.heap.size (off w.heap.size (.slice A' U.length c')) w' g Z) ∧ Aside0 (Below w.heap.size w w'))
              case atStart => exact ⟨0, [], some ⟨w8.heap.size, 0, none⟩, 0, rfl, rfl, ⟨Nat.zero_add _⟩, ⟨rfl⟩, WE, RE, NE, PE, BE⟩
              case round =>
                clear WE RE NE PE BE HW HP HB
                obtain ⟨j, U, A', c', rfl, rfl, HJ, HU, HW, HV, HN, HP, HB⟩ := hrel
                have hj := HJ.out
                have hul : U.length ≤ 64 := by rw [HU.out]; have h1_ := List.length_filter_le (fun x => x != a2) (Y.idle.take j); have h2_ := YL.out; rw [List.length_take] at h1_; omega
                have UL := Aside0.mk hul
                cases gk with
                | succ k =>
                  have b4 : decide (j < Y.idle.length) = true := decide_eq_true (by omega)
                  have j2 : (j : Int) + 1 ≤ 64 := by have := YL.out; omega
                  have j3 : j < Y.idle.length := by omega
                  obtain ⟨_, hcap, hC⟩ := Kd.R_reads' HW.out
                  obtain ⟨ad, ea, hx⟩ := Kd.at_int hC (j : Int) (by omega) (by omega)
                  have hf := filter_rd Y.idle a2 j (by omega)
                  generalize rd Y.idle (j : Int) = x at hx hf
                  simp only [Int.toNat_natCast] at hx
                  cases ea
                  by_cases hxa : x = a2
                  · have f1 : (x != a2) = false := bne_eq_false_iff_eq.mpr hxa
                    rw [f1, if_neg (by decide), List.append_nil] at hf
                    have HFL := Aside0.mk hf
                    clear hj hf hC hcap hul hxa
                    go_wp2
                    go_roundg k
                    case measure => omega
                    case rel => exact ⟨j + 1, U, A', c', rfl, by go_num, ⟨by have := HJ.out; omega⟩, ⟨by rw [HFL.out]; exact HU.out⟩, HW, HV, HN, HP, HB⟩
                  · have f1 : (x != a2) = true := bne_iff_ne.mpr hxa
                    rw [f1, if_pos rfl] at hf
                    have HFL := Aside0.mk hf
                    clear hj hf hC hcap hul hxa
                    go_wp2_with ((with_reducible refine gate_builtin (b := .append) (xs := #[.tmp 125, .tmp 127]) rfl ?_); refine Kd.R_append (Kd.int .i64) (w0 := w) w.heap.size rfl (.tmp 125) (.tmp 127) 34 3 (.int .i64 0) 8 rfl Try.underlying34 info3 rfl (by decide) (by omega) (.slice A' U.length c') U x [.int .i64 x] (fun k => w.heap.size ≤ k) (fun _ => False) rfl rfl ?aP (fun _ hk => hk.elim) ?aF ?aO ?aB ?aS ?aL ?_; (case aP => exact rfl); (case aF => exact fun k hk => Nat.le_trans HB.out.size hk); (case aO => exact HV.out); (case aB => exact HB.out); (case aS => exact HB.out.size); (case aL => have := UL.out; omega); intro v6 w6 ho hb hg hat; have P6 := Aside0.mk (HP.out.grown hg hat); have W6 := Aside0.mk (HW.out.grown_other hg HN.out); have N6 := Aside0.mk (HW.out.apart_grown HN.out hat); obtain ⟨U2, hU2⟩ : ∃ U2, U2 = U ++ [x] := ⟨_, rfl⟩; rw [← hU2] at ho; obtain ⟨A6, c6, rfl⟩ := Kd.R_slice ho; have V6 := Aside0.mk (show Row w.heap.size w6 (.slice A6 U2.length c6) U2 from ho); have B6 := Aside0.mk hb; have HU2 := Aside0.mk hU2; clear ho hb hg hat hU2)
                    go_roundg k
                    case measure => omega
                    case rel => exact ⟨j + 1, U2, A6, c6, rfl, by go_num, ⟨by have := HJ.out; omega⟩, ⟨by rw [HU2.out, HFL.out, HU.out]⟩, W6, V6, N6, P6, B6⟩
                | zero =>
                  have b4 : decide (j < Y.idle.length) = false := decide_eq_false (by omega)
                  have hu := HU.out
                  obtain rfl : j = Y.idle.length := by omega
                  rw [filter_all Y.idle a2 NB.out] at hu
                  have hz := G4.out
                  rw [← hu] at hz
                  have HU1 := Aside0.mk hz
                  have ZL := Aside0.mk (show Z.idle.length ≤ 64 by rw [hz]; have h1_ := HQ.out.inv.counts; have h2_ := HQ.out.inv.len; rw [hz] at h1_; omega)
                  clear hj hu hul hz
                  go_wp2_with ((with_reducible refine gate_builtin (b := .append) (xs := #[.tmp 130, .tmp 132]) rfl ?_); refine Kd.R_append (Kd.int .i64) (w0 := w) w.heap.size rfl (.tmp 130) (.tmp 132) 34 3 (.int .i64 0) 8 rfl Try.underlying34 info3 rfl (by decide) (by omega) (.slice A' U.length c') U a2 [.int .i64 a2] (fun k => w.heap.size ≤ k) (fun _ => False) rfl rfl ?aP (fun _ hk => hk.elim) ?aF ?aO ?aB ?aS ?aL ?_; (case aP => exact rfl); (case aF => exact fun k hk => Nat.le_trans HB.out.size hk); (case aO => exact HV.out); (case aB => exact HB.out); (case aS => exact HB.out.size); (case aL => have := UL.out; omega); intro v6 w6 ho hb hg hat; have P6 := Aside0.mk (HP.out.grown hg hat); rw [← HU1.out] at ho; obtain ⟨A6, c6, rfl⟩ := Kd.R_slice ho; have W6 := Aside0.mk (show Row w.heap.size w6 (.slice A6 Z.idle.length c6) Z.idle from ho); have B6 := Aside0.mk hb; clear ho hb hg hat)
                  clear HW HV HN HP HB HS
                  have HL4 := Aside0.mk (show Z.idle.length ≤ 64 from ZL.out)
                  go_loopg [136] Z.idle.length (fun kq v136 w' => ∃ (t : Nat) (Q : PX), v136 = .int .i64 (t : Int) ∧ Aside0 (t + kq = Z.idle.length) ∧ Aside0 (Waits i Q) ∧ Aside0 (Q.idle = Z.idle.drop t) ∧ Aside0 (Row w.heap.size w' (.slice A6 Z.idle.length c6) Z.idle) ∧ Aside0 (PoolAt w.heap.size (off w.heap.size (.slice A6 Z.idle.length c6)) w' g Q) ∧ Aside0 (Below w.heap.size w w'))
                  case atStart => exact ⟨0, Z, rfl, ⟨Nat.zero_add _⟩, ⟨HQ.out.waits⟩, ⟨rfl⟩, W6, P6, B6⟩
                  case round =>
                    clear W6 P6 B6 HQ
                    obtain ⟨t, Q, rfl, HT, HQ, HD, HW, HP, HB⟩ := hrel
                    have ht := HT.out
                    have FR := Aside0.mk (HW.out.fresh HB.out.size)
                    cases gk with
                    | succ k =>
                      have b5 : decide (t < Z.idle.length) = true := decide_eq_true (by omega)
                      have t2 : (t : Int) + 1 ≤ 64 := by have := HL4.out; omega
                      have t3 : t < Z.idle.length := by omega
                      have hd := HD.out
                      rw [drop_rd Z.idle t (by omega)] at hd
                      obtain ⟨k1, k2, k3⟩ := HQ.out.take hd
                      obtain ⟨_, hcap, hC⟩ := Kd.R_reads' HW.out
                      obtain ⟨ad, ea, hx⟩ := Kd.at_int hC (t : Int) (by omega) (by omega)
                      obtain ⟨x, hx_⟩ : ∃ x, rd Z.idle (t : Int) = x := ⟨_, rfl⟩
                      rw [hx_] at hx k1 hd
                      simp only [Int.toNat_natCast] at hx
                      have K1 := Aside0.mk k1
                      have K2 := Aside0.mk k2
                      have K3 := Aside0.mk k3
                      have hxb : 0 ≤ x ∧ x < 64 := by
                        obtain ⟨a_, b_, _⟩ := (HQ.out.inv.mem x).1 (by rw [hd]; exact List.mem_cons_self)
                        have := HQ.out.inv.len
                        omega
                      obtain ⟨hx0_, hx1_⟩ := hxb
                      clear ht hd k1 k2 k3 hC hcap hx_
                      cases ea
                      go_wp2_with (first
                        | (go_at_call 10; refine (take_calls _ _ g Q _ HP.out HQ.out.inv.ask_take).mono ?_; rw [K1.out]; rintro e w9 ⟨rfl, hb, hk, hP⟩; have P9 := Aside0.mk hP; have W9 := Aside0.mk (HW.out.kept hk); have B9 := Aside0.mk (HB.out.trans hb); clear hP hb hk))
                      go_roundg k
                      case measure => omega
                      case rel => exact ⟨t + 1, (pTake Q).1, by go_num, ⟨by have := HT.out; omega⟩, K2, K3, W9, P9, B9⟩
                    | zero =>
                      have b5 : decide (t < Z.idle.length) = false := decide_eq_false (by omega)
                      have hd := HD.out
                      rw [List.drop_eq_nil_of_le (by omega)] at hd
                      have K1 := Aside0.mk (HQ.out.last hd)
                      clear ht hd
                      go_wp2_with (first
                        | (go_at_call 10; refine (take_calls _ _ g Q _ HP.out HQ.out.inv.ask_take).mono ?_; rw [K1.out]; rintro e w9 ⟨rfl, hb, hk, hP⟩; have B9 := Aside0.mk (HB.out.trans hb); clear hP hb hk)
                        | (go_at_call 8; refine (awake_calls _).mono ?_; rintro e w10 ⟨rfl, hb⟩; have B10 := Aside0.mk (below_step B9.out hb); clear hb))
                      go_ret
                      exact ⟨rfl, B10.out⟩
            · have R0 := Aside0.mk r0
              clear r0
              go_wp2_with (first
                | (go_at_call 12; refine (refs_at _ _ g Y a2 _ HP.out).mono ?_; rw [R0.out]; rintro e w6 ⟨rfl, rfl⟩))
              have HQ := HS
              have HL4 := Aside0.mk (show Y.idle.length ≤ 64 from (by have h1_ := HS.out.inv.counts; have h2_ := HS.out.inv.len; omega))
              go_loopg [136] Y.idle.length (fun kq v136 w' => ∃ (t : Nat) (Q : PX), v136 = .int .i64 (t : Int) ∧ Aside0 (t + kq = Y.idle.length) ∧ Aside0 (Waits i Q) ∧ Aside0 (Q.idle = Y.idle.drop t) ∧ Aside0 (Row w.heap.size w' (.slice A Y.idle.length c) Y.idle) ∧ Aside0 (PoolAt w.heap.size (off w.heap.size (.slice A Y.idle.length c)) w' g Q) ∧ Aside0 (Below w.heap.size w w'))
              case atStart => exact ⟨0, Y, rfl, ⟨Nat.zero_add _⟩, ⟨HQ.out.waits⟩, ⟨rfl⟩, HW, HP, HB⟩
              case round =>
                clear HW HP HB HQ
                obtain ⟨t, Q, rfl, HT, HQ, HD, HW, HP, HB⟩ := hrel
                have ht := HT.out
                have FR := Aside0.mk (HW.out.fresh HB.out.size)
                cases gk with
                | succ k =>
                  have b5 : decide (t < Y.idle.length) = true := decide_eq_true (by omega)
                  have t2 : (t : Int) + 1 ≤ 64 := by have := HL4.out; omega
                  have t3 : t < Y.idle.length := by omega
                  have hd := HD.out
                  rw [drop_rd Y.idle t (by omega)] at hd
                  obtain ⟨k1, k2, k3⟩ := HQ.out.take hd
                  obtain ⟨_, hcap, hC⟩ := Kd.R_reads' HW.out
                  obtain ⟨ad, ea, hx⟩ := Kd.at_int hC (t : Int) (by omega) (by omega)
                  obtain ⟨x, hx_⟩ : ∃ x, rd Y.idle (t : Int) = x := ⟨_, rfl⟩
                  rw [hx_] at hx k1 hd
                  simp only [Int.toNat_natCast] at hx
                  have K1 := Aside0.mk k1
                  have K2 := Aside0.mk k2
                  have K3 := Aside0.mk k3
                  have hxb : 0 ≤ x ∧ x < 64 := by
                    obtain ⟨a_, b_, _⟩ := (HQ.out.inv.mem x).1 (by rw [hd]; exact List.mem_cons_self)
                    have := HQ.out.inv.len
                    omega
                  obtain ⟨hx0_, hx1_⟩ := hxb
                  clear ht hd k1 k2 k3 hC hcap hx_
                  cases ea
                  go_wp2_with (first
                    | (go_at_call 10; refine (take_calls _ _ g Q _ HP.out HQ.out.inv.ask_take).mono ?_; rw [K1.out]; rintro e w9 ⟨rfl, hb, hk, hP⟩; have P9 := Aside0.mk hP; have W9 := Aside0.mk (HW.out.kept hk); have B9 := Aside0.mk (HB.out.trans hb); clear hP hb hk))
                  go_roundg k
                  case measure => omega
                  case rel => exact ⟨t + 1, (pTake Q).1, by go_num, ⟨by have := HT.out; omega⟩, K2, K3, W9, P9, B9⟩
                | zero =>
                  have b5 : decide (t < Y.idle.length) = false := decide_eq_false (by omega)
                  have hd := HD.out
                  rw [List.drop_eq_nil_of_le (by omega)] at hd
                  have K1 := Aside0.mk (HQ.out.last hd)
                  clear ht hd
                  go_wp2_with (first
                    | (go_at_call 10; refine (take_calls _ _ g Q _ HP.out HQ.out.inv.ask_take).mono ?_; rw [K1.out]; rintro e w9 ⟨rfl, hb, hk, hP⟩; have B9 := Aside0.mk (HB.out.trans hb); clear hP hb hk)
                    | (go_at_call 8; refine (awake_calls _).mono ?_; rintro e w10 ⟨rfl, hb⟩; have B10 := Aside0.mk (below_step B9.out hb); clear hb))
                  go_ret
                  exact ⟨rfl, B10.out⟩
end Go.Proofs.Ytmbbaalpeomnlaa.ORow
