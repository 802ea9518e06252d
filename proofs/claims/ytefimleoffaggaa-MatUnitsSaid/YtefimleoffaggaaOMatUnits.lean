/- MatUnits, walked by hand. -/
import Derived.Test.YtefimleoffaggaaGQx13
import Derived.Test.YtefimleoffaggaaGQx15
import Derived.Test.YtefimleoffaggaaGQx16
import Derived.Test.YtefimleoffaggaaGQx17
import Derived.Test.YtefimleoffaggaaGQx20
import Derived.Test.YtefimleoffaggaaGQx23
import Derived.Test.YtefimleoffaggaaUUnit2
import Derived.Test.YtefimleoffaggaaUMat
import Derived.Test.YtefimleoffaggaaUSame3
import Derived.Outline
import Derived.LoopN
set_option linter.unusedVariables false
set_option linter.unusedSimpArgs false
namespace Go.Proofs.Ytefimleoffaggaa.OMatUnits
open Go.RowKit Go.Proofs.YtefimleoffaggaaW.PrintWords Go.Proofs.YtefimleoffaggaaW.PrintLast Go.Proofs.YtefimleoffaggaaW.PrintMore Go.Proofs.Ytefimleoffaggaa.GQ Go.Proofs.Ytefimleoffaggaa.U
attribute [local go_sem] max2_int max_two
abbrev kN := Kd.int .i32
open Classical in
/-- The law's answer within the row's bounds. -/
noncomputable def tillerlaw04_MatUnits.f (a0 a1 : Int) (l0 : List Int) (j : Int) : Option Bool := if (I32 l0 ∧ l0.length < 35184372088832) ∧ (-9223372036854775808 ≤ j ∧ j ≤ 9223372036854775807) then some true else none
/-- A matrix's box and its row. -/
structure Bk (W : World) (B : Nat) (r c : Int) (A : Option Addr) (k n : Nat) (l : List Int) : Prop where
  box : W.heap[B]? = some (.cells #[.int .i64 r, .int .i64 c, .slice A n k] 46 (0, 0))
  row : Kd.C kN W A l.length l
  len : l.length = n
  cap : n ≤ k
theorem Bk.step {W W' : World} {B : Nat} {r c : Int} {A : Option Addr} {k n : Nat} {l : List Int} (h : Bk W B r c A k n l) (hb : Below W.heap.size W W') : Bk W' B r c A k n l :=
  ⟨blk_below h.box hb, Kd.C_below h.row hb, h.len, h.cap⟩
theorem Bk.new {W : World} {b : Nat} {ok : Nat → Prop} {r c : Int} {A : Option Addr} {k n : Nat} {l : List Int} (h : kN.R 24 W b ok (.slice A n k) l) : Bk (W.alloc (.cells #[.int .i64 r, .int .i64 c, .slice A n k] 46 (0, 0))) W.heap.size r c A k n l := by
  obtain ⟨hn, hc, hC⟩ := Kd.R_reads' h
  exact ⟨blk_new _ _, Kd.C_below hC (below_alloc (Below.refl _ _) _), hn.symm, hc⟩
/-- A row under way of being written over. -/
theorem row_at {b : Nat} {ok : Nat → Prop} {W : World} {A : Option Addr} {n k : Nat} {u : List Int} (h : kN.R 24 W b ok (.slice A n k) u) (i : Nat) (hi : i < n) : ∃ g, A = some ⟨g, 0, none⟩ ∧ ok g ∧ W.cell? ⟨g, i, none⟩ = some (.int .i32 (u.getD i 0)) ∧ W.frozen? ⟨g, i, none⟩ = false ∧ ∀ y : Int, kN.R 24 (W.setCell ⟨g, i, none⟩ (.int .i32 y)) b ok (.slice A n k) (u.set i y) := by
  obtain ⟨hn, _, _⟩ := Kd.R_reads' h
  obtain ⟨g, cap, e, hb, hl, cells, hh⟩ := Kd.R_form h (by omega)
  injection e with e1 e2 e3
  subst e1 e3 hn
  have hok := h.1 g (by simp [Value.ownBlock])
  obtain ⟨hc, hf⟩ := Kd.R_celln 0 h (i : Int) (by omega) (by omega)
  rw [Int.toNat_natCast] at hc hf
  refine ⟨g, rfl, hok, ?_, hf, fun y => ?_⟩
  · rw [hc]; unfold rdOf; rw [Int.toNat_natCast]
  · have hp := Kd.R_putn h (i : Int) y
    rw [Int.toNat_natCast] at hp
    exact hp
theorem fin_if (x : Int) : (if x < -2147483647 then -2147483647 else x) = fin x := rfl
/-- The first i numbers are written over. -/
def half (d : List Int) (i : Nat) : List Int := (d.take i).map fin ++ d.drop i
theorem half_len (d : List Int) (i : Nat) : (half d i).length = d.length := by unfold half; simp; omega
theorem half_end (d : List Int) (i : Nat) (hi : d.length ≤ i) : half d i = d.map fin := by unfold half; rw [List.take_of_length_le hi, List.drop_eq_nil_of_le hi, List.append_nil]
theorem half_at (d : List Int) (i : Nat) (hi : i < d.length) : (half d i).getD i 0 = d.getD i 0 := by
  unfold half
  rw [List.getD_eq_getElem?_getD, List.getElem?_append_right (by simp; omega), List.getElem?_drop, List.getD_eq_getElem?_getD]
  congr 2
  simp; omega
theorem half_set (d : List Int) (i : Nat) (hi : i < d.length) : (half d i).set i (fin (d.getD i 0)) = half d (i + 1) := by
  unfold half
  rw [List.set_append_right _ _ (by simp; omega), List.drop_eq_getElem_cons hi, List.take_succ_eq_append_getElem (l := d) (i := i) hi, List.map_append, List.append_assoc, List.getD_eq_getElem?_getD, List.getElem?_eq_getElem hi]
  have : i - ((d.take i).map fin).length = 0 := by simp; omega
  rw [this]
  rfl
set_option maxHeartbeats 16000000 in
set_option maxRecDepth 100000 in
theorem tillerlaw04_MatUnits.calls (r0 c0 : Int) (A0 : Option Addr) (k0 : Nat) (l0 : List Int) (j : Int) (r : Bool) (w : World) (hr0 : Kd.C kN w A0 l0.length l0) (hc0 : l0.length ≤ k0) (hr_ : Aside0 (r = true)) (h : tillerlaw04_MatUnits.f r0 c0 l0 j = some r) : Calls Try.prog 12 #[.agg #[.int .i64 r0, .int .i64 c0, .slice A0 l0.length k0], .int .i64 j] w fun e w' => e = .returned (.bool r) ∧ Below w.heap.size w w' := by
  obtain ⟨r_⟩ := hr_
  subst r_
  have hI : (I32 l0 ∧ l0.length < 35184372088832) ∧ (-9223372036854775808 ≤ j ∧ j ≤ 9223372036854775807) := by
    unfold tillerlaw04_MatUnits.f at h
    by_cases e : (I32 l0 ∧ l0.length < 35184372088832) ∧ (-9223372036854775808 ≤ j ∧ j ≤ 9223372036854775807)
    · exact e
    · rw [if_neg e] at h; cases h
  obtain ⟨d, hd⟩ : ∃ d, l0.take 2000 = d := ⟨_, rfl⟩
  have FC := Aside0.mk (tillerlaw04_Few.calls r0 c0 A0 k0 l0 r0 c0 d (w.alloc (.cells #[.int .i64 r0, .int .i64 c0, .slice A0 l0.length k0] 46 (0, 0))) (Kd.C_below hr0 (below_alloc (Below.refl _ _) _)) hc0 (by rw [Few4_eq hI.1.2, hd]))
  have ID := Aside0.mk (show I32 d by rw [← hd]; exact hI.1.1.take 2000)
  have HJ := Aside0.mk hI.2
  have LD := Aside0.mk (show d.length ≤ 2000 by rw [← hd]; exact List.length_take_le _ _)
  obtain ⟨n, hn⟩ : ∃ n, d.length = n := ⟨_, rfl⟩
  have HN := Aside0.mk hn
  obtain ⟨n0, hn0⟩ : ∃ n, l0.length = n := ⟨_, rfl⟩
  rw [hn0] at FC ⊢
  have b1 := below_alloc (Below.refl w.heap.size w) (.cells #[.int .i64 r0, .int .i64 c0, .slice A0 n0 k0] 46 (0, 0))
  have e1 := blk_new w (.cells #[.int .i64 r0, .int .i64 c0, .slice A0 n0 k0] 46 (0, 0))
  have B1 := Aside0.mk b1
  have E1 := Aside0.mk e1
  have S1 := Aside0.mk (World.size_alloc w (.cells #[.int .i64 r0, .int .i64 c0, .slice A0 n0 k0] 46 (0, 0)))
  have AW := Aside0.mk (awake4 (k := 100) (by omega))
  clear h hI hr0 hc0 hd hn hn0 b1 e1
  go_enter Try.func12, Try.ntmps12
  go_upto_region 1 with (fail)
  generalize w.alloc (.cells #[.int .i64 r0, .int .i64 c0, .slice A0 n0 k0] 46 (0, 0)) = w1 at FC B1 E1 S1 ⊢
  obtain ⟨B, hB⟩ : ∃ B, w.heap.size = B := ⟨_, rfl⟩
  simp only [hB] at E1 S1 ⊢
  have HB := Aside0.mk hB
  clear hB
  have x0 := blk_cell E1.out 0
  have x1 := blk_cell E1.out 1
  have x2 := blk_cell E1.out 2
  simp at x0 x1 x2
  go_upto_region 2 with (go_at_call 29; go_loud ((refine FC.out.mono ?_); rintro e w2 ⟨v2, rfl, hR, hb⟩; obtain ⟨A2, k2, rfl⟩ := Kd.R_slice hR; have R2 := Aside0.mk hR; have B2 := Aside0.mk hb; have E2 := Aside0.mk (blk_below E1.out hb); have f0 := blk_frozen E2.out 0; have f1 := blk_frozen E2.out 1; have f2 := blk_frozen E2.out 2; have y0 := blk_cell E2.out 0; have y1 := blk_cell E2.out 1; have y2 := blk_cell E2.out 2; simp at y0 y1 y2; rw [HN.out]; clear hR hb x0 x1 x2))
  have K3 := Aside0.mk (show (((w2.setCell ⟨B, 0, none⟩ (.int .i64 r0)).setCell ⟨B, 1, none⟩ (.int .i64 c0)).setCell ⟨B, 2, none⟩ (.slice A2 n k2)).heap[B]? = some (.cells #[.int .i64 r0, .int .i64 c0, .slice A2 n k2] 46 (0, 0)) from by
    have := blk_set (blk_set (blk_set E2.out 0 (.int .i64 r0)) 1 (.int .i64 c0)) 2 (.slice A2 n k2)
    simpa using this)
  have R3 := Aside0.mk (show kN.R 24 (((w2.setCell ⟨B, 0, none⟩ (.int .i64 r0)).setCell ⟨B, 1, none⟩ (.int .i64 c0)).setCell ⟨B, 2, none⟩ (.slice A2 n k2)) (B + 1) (fun k => B + 1 ≤ k) (.slice A2 n k2) d from by
    have h := R2.out
    rw [S1.out, HN.out] at h
    have h2 : kN.R 24 w2 (B + 1) (fun k => B + 1 ≤ k) (.slice A2 n k2) d := Kd.R_mono (Kd.R_bound h) (fun k hk => hk.2.1)
    exact Kd.R_far (p := ⟨B, 2, none⟩) (Kd.R_far (p := ⟨B, 1, none⟩) (Kd.R_far (p := ⟨B, 0, none⟩) h2 (fun k hk => by show k ≠ B; omega) _) (fun k hk => by show k ≠ B; omega) _) (fun k hk => by show k ≠ B; omega) _)
  have B3 := Aside0.mk (show Below w.heap.size w (((w2.setCell ⟨B, 0, none⟩ (.int .i64 r0)).setCell ⟨B, 1, none⟩ (.int .i64 c0)).setCell ⟨B, 2, none⟩ (.slice A2 n k2)) from by
    have hb := B1.out.trans (B2.out.mono B1.out.size)
    have hB := HB.out
    exact ((hb.setCell (p := ⟨B, 0, none⟩) (Nat.le_of_eq hB) _).setCell (p := ⟨B, 1, none⟩) (Nat.le_of_eq hB) _).setCell (p := ⟨B, 2, none⟩) (Nat.le_of_eq hB) _)
  obtain ⟨w3, hw3⟩ : ∃ w3, w3 = ((w2.setCell ⟨B, 0, none⟩ (.int .i64 r0)).setCell ⟨B, 1, none⟩ (.int .i64 c0)).setCell ⟨B, 2, none⟩ (.slice A2 n k2) := ⟨_, rfl⟩
  rw [← hw3] at K3 R3 B3 ⊢
  clear hw3 y0 y1 y2 f0 f1 f2 R2 B2 E2 FC B1 E1 S1
  have x0 := blk_cell K3.out 0
  have x1 := blk_cell K3.out 1
  have x2 := blk_cell K3.out 2
  simp at x0 x1 x2
  have CC := mat_Check.calls 10 r0 c0 A2 k2 d (chkv r0 c0 d) w3 (by have h := (Kd.R_reads' R3.out).2.2; exact h) (by rw [HN.out]; exact (Kd.R_reads' R3.out).2.1) (Check_eq (by omega))
  rw [HN.out] at CC
  by_cases hchk : chkv r0 c0 d = 0
  · rw [hchk] at CC
    have CC := Aside0.mk CC
    obtain ⟨R, C, rfl, rfl, r1, r2, c1, c2, hl⟩ := chkv_ok hchk
    have HL := Aside0.mk hl
    clear hchk hl
    go_upto_region 4 with (go_at_call 35; go_loud ((refine CC.out.mono ?_); rintro e w4 ⟨rfl, hb⟩; have K4 := Aside0.mk (blk_below K3.out hb); have R4 := Aside0.mk (Kd.R_below R3.out hb); have B4 := Aside0.mk (B3.out.trans (hb.mono B3.out.size)); clear hb x0 x1 x2))
    have x2 := blk_cell K4.out 2
    simp at x2
    clear CC K3 R3 B3
    go_wp2
    go_loopg [34] n (fun kq v34 w' => ∃ (i : Nat), v34 = .int .i64 (i : Int) ∧ Aside0 (i + kq = n) ∧ Aside0 (w'.heap[B]? = some (.cells #[.int .i64 (R : Int), .int .i64 (C : Int), .slice A2 n k2] 46 (0, 0))) ∧ Aside0 (kN.R 24 w' (B + 1) (fun k => B + 1 ≤ k) (.slice A2 n k2) (half d i)) ∧ Aside0 (Below w.heap.size w w'))
    case atStart => exact ⟨0, rfl, ⟨Nat.zero_add _⟩, K4, ⟨by have h := R4.out; unfold half; simpa using h⟩, B4⟩
    case round =>
      clear K4 R4 B4 x2
      obtain ⟨i, rfl, HJ2, KB, RR, BW⟩ := hrel
      have hj := HJ2.out
      have x2 := blk_cell KB.out 2
      simp at x2
      cases gk with
      | succ k =>
        have d1 : decide (i < n) = true := decide_eq_true (by omega)
        have p1 : 0 ≤ (i : Int) := by omega
        have q1 : (i : Int) < (n : Int) := by omega
        have q2 : (i : Int) ≤ 2000 := by have := LD.out; have := HN.out; omega
        obtain ⟨g, eA, hok, hc, hf, hset⟩ := row_at RR.out i (by omega)
        cases eA
        rw [half_at d i (by rw [HN.out]; omega)] at hc
        have IL := Aside0.mk (show i < d.length by rw [HN.out]; omega)
        have hx := ID.out.getD i
        have hm := fin_if (d.getD i 0)
        obtain ⟨y, hy⟩ : ∃ y, d.getD i 0 = y := ⟨_, rfl⟩
        have HY := Aside0.mk hy
        rw [hy] at hc hm hx
        have HS := Aside0.mk (hset (fin y))
        have OK := Aside0.mk hok
        clear hj hset hy hok
        go_wp2
        go_roundg k
        case measure => omega
        case rel =>
          refine ⟨i + 1, by go_num, ⟨by have := HJ2.out; omega⟩, ⟨blk_far (p := ⟨g, i, none⟩) KB.out (by show B ≠ g; have := OK.out; omega) _⟩, ⟨?_⟩, ⟨BW.out.setCell (p := ⟨g, i, none⟩) (by show w.heap.size ≤ g; have := OK.out; have := HB.out; omega) _⟩⟩
          have h := HS.out
          rw [← HY.out, half_set d i IL.out, HY.out] at h
          exact h
      | zero =>
        have d1 : decide (i < n) = false := decide_eq_false (by omega)
        go_upto_region 9 with (fail)
        -- MARK1
        have hin : i = n := by omega
        have ND := half_end d i (by rw [HN.out]; omega)
        have KM := Aside0.mk (show Bk wr B (R : Int) (C : Int) A2 k2 n (d.map fin) from by
          have h := RR.out
          rw [ND] at h
          obtain ⟨hn, hc, hC⟩ := Kd.R_reads' h
          exact ⟨KB.out, hC, by rw [List.length_map]; exact HN.out, hc⟩)
        obtain ⟨D, hD⟩ : ∃ D, d.map fin = D := ⟨_, rfl⟩
        have FD := Aside0.mk (show Fine D from by rw [← hD]; exact fine_map ID.out)
        have DL := Aside0.mk (show D.length = R * C from by rw [← hD, List.length_map]; exact HL.out)
        have HDN := Aside0.mk (show D.length = n from by rw [← hD, List.length_map]; exact HN.out)
        rw [hD] at KM
        obtain ⟨U, hU, IU⟩ := unit_at r1 r2
        obtain ⟨V, hV, IV⟩ := unit_at c1 c2
        obtain ⟨T, hT⟩ : ∃ T, turnv D R C = T := ⟨_, rfl⟩
        have TL := Times_left r1 r2 c1 c2 IU FD.out DL.out
        have TR := Times_right r1 r2 c1 c2 IV FD.out DL.out
        have T1 := Turn_one r1 r2 c1 c2 DL.out
        have T2 := Turn_two r1 r2 c1 c2 DL.out
        have SD := rSame4 (k := 20000) (a := (R : Int)) (b := (C : Int)) (d := D) (by have := LD.out; have := HN.out; have := HDN.out; omega) (by have := LD.out; have := HN.out; have := HDN.out; omega)
        have PJ := Aside0.mk (fun (q : Nat) (hq : q < C) => And.intro (Row_unit c1 c2 IV hq) (And.intro (Apply_unit r1 r2 c1 c2 FD.out DL.out hq) (Row_turn (d := D) r1 r2 c1 c2 hq)))
        rw [hT] at T1 T2 PJ
        obtain ⟨nU, hnU⟩ : ∃ n, U.length = n := ⟨_, rfl⟩
        obtain ⟨nV, hnV⟩ : ∃ n, V.length = n := ⟨_, rfl⟩
        obtain ⟨nT, hnT⟩ : ∃ n, T.length = n := ⟨_, rfl⟩
        have HnU := Aside0.mk hnU
        have HnV := Aside0.mk hnV
        have HnT := Aside0.mk hnT
        have Hn := HDN
        have FU := Aside0.mk hU
        have FV := Aside0.mk hV
        have FTL := Aside0.mk TL
        have FTR := Aside0.mk TR
        have FT1 := Aside0.mk T1
        have FT2 := Aside0.mk T2
        have FSD := Aside0.mk SD
        have FIU := Aside0.mk IU
        have FIV := Aside0.mk IV
        have CM := Aside0.mk (And.intro r1 (And.intro r2 (And.intro c1 c2)))
        clear hj hin ND hD hU hV hT TL TR T1 T2 SD hnU hnV hnT KB RR IU IV x2 r1 r2 c1
        have cM0 := blk_cell KM.out.box 0
        have cM1 := blk_cell KM.out.box 1
        have cM2 := blk_cell KM.out.box 2
        simp at cM0 cM1 cM2
        have QC := mat_Unit.calls 200 (R : Int) (R : Int) (R : Int) U 0 wr  FU.out
        have QC := Aside0.mk QC
        go_upto_region 10 with (go_at_call 41; go_loud ((refine (QC.out).mono ?_); rintro e wa ⟨va, rfl, hR, hb⟩; obtain ⟨AL, kL, rfl⟩ := Kd.R_slice hR; rw [HnU.out] at hR ⊢; have RN := Aside0.mk hR; have BN := Aside0.mk hb; clear hR hb))
        have bb := below_alloc BN.out (.cells #[.int .i64 (R : Int), .int .i64 (R : Int), .slice AL nU kL] 46 (0, 0))
        have KL := Aside0.mk (Bk.new (r := (R : Int)) (c := (R : Int)) RN.out)
        replace KM := Aside0.mk (KM.out.step bb)
        replace BW := Aside0.mk (BW.out.trans (bb.mono BW.out.size))
        clear cM0 cM1 cM2
        clear bb RN BN
        generalize wa.alloc (.cells #[.int .i64 (R : Int), .int .i64 (R : Int), .slice AL nU kL] 46 (0, 0)) = wN at KM KL BW ⊢
        generalize wa.heap.size = BL at KL ⊢
        clear wa
        have cM0 := blk_cell KM.out.box 0
        have cM1 := blk_cell KM.out.box 1
        have cM2 := blk_cell KM.out.box 2
        have cL0 := blk_cell KL.out.box 0
        have cL1 := blk_cell KL.out.box 1
        have cL2 := blk_cell KL.out.box 2
        simp at cM0 cM1 cM2 cL0 cL1 cL2
        clear QC
        have QC := mat_Unit.calls 200 (C : Int) (C : Int) (C : Int) V 0 wN  FV.out
        have QC := Aside0.mk QC
        go_upto_region 11 with (go_at_call 41; go_loud ((refine (QC.out).mono ?_); rintro e wa ⟨va, rfl, hR, hb⟩; obtain ⟨AQ, kQ, rfl⟩ := Kd.R_slice hR; rw [HnV.out] at hR ⊢; have RN := Aside0.mk hR; have BN := Aside0.mk hb; clear hR hb))
        have bb := below_alloc BN.out (.cells #[.int .i64 (C : Int), .int .i64 (C : Int), .slice AQ nV kQ] 46 (0, 0))
        have KQ := Aside0.mk (Bk.new (r := (C : Int)) (c := (C : Int)) RN.out)
        replace KM := Aside0.mk (KM.out.step bb)
        replace KL := Aside0.mk (KL.out.step bb)
        replace BW := Aside0.mk (BW.out.trans (bb.mono BW.out.size))
        clear cM0 cM1 cM2 cL0 cL1 cL2
        clear bb RN BN
        generalize wa.alloc (.cells #[.int .i64 (C : Int), .int .i64 (C : Int), .slice AQ nV kQ] 46 (0, 0)) = wN at KM KL KQ BW ⊢
        generalize wa.heap.size = BQ at KQ ⊢
        clear wa
        have cM0 := blk_cell KM.out.box 0
        have cM1 := blk_cell KM.out.box 1
        have cM2 := blk_cell KM.out.box 2
        have cL0 := blk_cell KL.out.box 0
        have cL1 := blk_cell KL.out.box 1
        have cL2 := blk_cell KL.out.box 2
        have cQ0 := blk_cell KQ.out.box 0
        have cQ1 := blk_cell KQ.out.box 1
        have cQ2 := blk_cell KQ.out.box 2
        simp at cM0 cM1 cM2 cL0 cL1 cL2 cQ0 cQ1 cQ2
        clear QC
        have QC := mat_Times.calls 50000 (R : Int) (R : Int) AL kL U (R : Int) (C : Int) A2 k2 D (R : Int) (C : Int) D 0 _ (KL.out.row) (by rw [KL.out.len]; exact KL.out.cap) (KM.out.row) (by rw [KM.out.len]; exact KM.out.cap) FTL.out
        simp only [HnU.out, Hn.out] at QC
        have QC := Aside0.mk QC
        go_upto_region 12 with (go_at_call 40; go_loud ((refine (QC.out).mono ?_); rintro e wa ⟨va, rfl, hR, hb⟩; obtain ⟨AX, kX, rfl⟩ := Kd.R_slice hR; rw [Hn.out] at hR ⊢; have RN := Aside0.mk hR; have BN := Aside0.mk hb; clear hR hb))
        have bb := below_alloc BN.out (.cells #[.int .i64 (R : Int), .int .i64 (C : Int), .slice AX n kX] 46 (0, 0))
        have KX := Aside0.mk (Bk.new (r := (R : Int)) (c := (C : Int)) RN.out)
        replace KM := Aside0.mk (KM.out.step bb)
        replace KL := Aside0.mk (KL.out.step bb)
        replace KQ := Aside0.mk (KQ.out.step bb)
        replace BW := Aside0.mk (BW.out.trans (bb.mono BW.out.size))
        clear cM0 cM1 cM2 cL0 cL1 cL2 cQ0 cQ1 cQ2
        clear bb RN BN
        generalize wa.alloc (.cells #[.int .i64 (R : Int), .int .i64 (C : Int), .slice AX n kX] 46 (0, 0)) = wN at KM KL KQ KX BW ⊢
        generalize wa.heap.size = BX at KX ⊢
        clear wa
        have cM0 := blk_cell KM.out.box 0
        have cM1 := blk_cell KM.out.box 1
        have cM2 := blk_cell KM.out.box 2
        have cL0 := blk_cell KL.out.box 0
        have cL1 := blk_cell KL.out.box 1
        have cL2 := blk_cell KL.out.box 2
        have cQ0 := blk_cell KQ.out.box 0
        have cQ1 := blk_cell KQ.out.box 1
        have cQ2 := blk_cell KQ.out.box 2
        have cX0 := blk_cell KX.out.box 0
        have cX1 := blk_cell KX.out.box 1
        have cX2 := blk_cell KX.out.box 2
        simp at cM0 cM1 cM2 cL0 cL1 cL2 cQ0 cQ1 cQ2 cX0 cX1 cX2
        clear QC
        have QC := mat_Times.calls 50000 (R : Int) (C : Int) A2 k2 D (C : Int) (C : Int) AQ kQ V (R : Int) (C : Int) D 0 _ (KM.out.row) (by rw [KM.out.len]; exact KM.out.cap) (KQ.out.row) (by rw [KQ.out.len]; exact KQ.out.cap) FTR.out
        simp only [HnV.out, Hn.out] at QC
        have QC := Aside0.mk QC
        go_upto_region 13 with (go_at_call 40; go_loud ((refine (QC.out).mono ?_); rintro e wa ⟨va, rfl, hR, hb⟩; obtain ⟨AY, kY, rfl⟩ := Kd.R_slice hR; rw [Hn.out] at hR ⊢; have RN := Aside0.mk hR; have BN := Aside0.mk hb; clear hR hb))
        have bb := below_alloc BN.out (.cells #[.int .i64 (R : Int), .int .i64 (C : Int), .slice AY n kY] 46 (0, 0))
        have KY := Aside0.mk (Bk.new (r := (R : Int)) (c := (C : Int)) RN.out)
        replace KM := Aside0.mk (KM.out.step bb)
        replace KL := Aside0.mk (KL.out.step bb)
        replace KQ := Aside0.mk (KQ.out.step bb)
        replace KX := Aside0.mk (KX.out.step bb)
        replace BW := Aside0.mk (BW.out.trans (bb.mono BW.out.size))
        clear cM0 cM1 cM2 cL0 cL1 cL2 cQ0 cQ1 cQ2 cX0 cX1 cX2
        clear bb RN BN
        generalize wa.alloc (.cells #[.int .i64 (R : Int), .int .i64 (C : Int), .slice AY n kY] 46 (0, 0)) = wN at KM KL KQ KX KY BW ⊢
        generalize wa.heap.size = BY at KY ⊢
        clear wa
        have cM0 := blk_cell KM.out.box 0
        have cM1 := blk_cell KM.out.box 1
        have cM2 := blk_cell KM.out.box 2
        have cL0 := blk_cell KL.out.box 0
        have cL1 := blk_cell KL.out.box 1
        have cL2 := blk_cell KL.out.box 2
        have cQ0 := blk_cell KQ.out.box 0
        have cQ1 := blk_cell KQ.out.box 1
        have cQ2 := blk_cell KQ.out.box 2
        have cX0 := blk_cell KX.out.box 0
        have cX1 := blk_cell KX.out.box 1
        have cX2 := blk_cell KX.out.box 2
        have cY0 := blk_cell KY.out.box 0
        have cY1 := blk_cell KY.out.box 1
        have cY2 := blk_cell KY.out.box 2
        simp at cM0 cM1 cM2 cL0 cL1 cL2 cQ0 cQ1 cQ2 cX0 cX1 cX2 cY0 cY1 cY2
        clear QC
        have QC := mat_Turn.calls 50000 (R : Int) (C : Int) A2 k2 D (C : Int) (R : Int) T 0 _ (KM.out.row) (by rw [KM.out.len]; exact KM.out.cap) FT1.out
        simp only [Hn.out] at QC
        have QC := Aside0.mk QC
        go_upto_region 14 with (go_at_call 32; go_loud ((refine (QC.out).mono ?_); rintro e wa ⟨va, rfl, hR, hb⟩; obtain ⟨AT, kT, rfl⟩ := Kd.R_slice hR; rw [HnT.out] at hR ⊢; have RN := Aside0.mk hR; have BN := Aside0.mk hb; clear hR hb))
        have bb := below_alloc BN.out (.cells #[.int .i64 (C : Int), .int .i64 (R : Int), .slice AT nT kT] 46 (0, 0))
        have KT := Aside0.mk (Bk.new (r := (C : Int)) (c := (R : Int)) RN.out)
        replace KM := Aside0.mk (KM.out.step bb)
        replace KL := Aside0.mk (KL.out.step bb)
        replace KQ := Aside0.mk (KQ.out.step bb)
        replace KX := Aside0.mk (KX.out.step bb)
        replace KY := Aside0.mk (KY.out.step bb)
        replace BW := Aside0.mk (BW.out.trans (bb.mono BW.out.size))
        clear cM0 cM1 cM2 cL0 cL1 cL2 cQ0 cQ1 cQ2 cX0 cX1 cX2 cY0 cY1 cY2
        clear bb RN BN
        generalize wa.alloc (.cells #[.int .i64 (C : Int), .int .i64 (R : Int), .slice AT nT kT] 46 (0, 0)) = wN at KM KL KQ KX KY KT BW ⊢
        generalize wa.heap.size = BT at KT ⊢
        clear wa
        have cM0 := blk_cell KM.out.box 0
        have cM1 := blk_cell KM.out.box 1
        have cM2 := blk_cell KM.out.box 2
        have cL0 := blk_cell KL.out.box 0
        have cL1 := blk_cell KL.out.box 1
        have cL2 := blk_cell KL.out.box 2
        have cQ0 := blk_cell KQ.out.box 0
        have cQ1 := blk_cell KQ.out.box 1
        have cQ2 := blk_cell KQ.out.box 2
        have cX0 := blk_cell KX.out.box 0
        have cX1 := blk_cell KX.out.box 1
        have cX2 := blk_cell KX.out.box 2
        have cY0 := blk_cell KY.out.box 0
        have cY1 := blk_cell KY.out.box 1
        have cY2 := blk_cell KY.out.box 2
        have cT0 := blk_cell KT.out.box 0
        have cT1 := blk_cell KT.out.box 1
        have cT2 := blk_cell KT.out.box 2
        simp at cM0 cM1 cM2 cL0 cL1 cL2 cQ0 cQ1 cQ2 cX0 cX1 cX2 cY0 cY1 cY2 cT0 cT1 cT2
        clear QC
        have QC := mat_Turn.calls 50000 (C : Int) (R : Int) AT kT T (R : Int) (C : Int) D 0 _ (KT.out.row) (by rw [KT.out.len]; exact KT.out.cap) FT2.out
        simp only [HnT.out] at QC
        have QC := Aside0.mk QC
        go_upto_region 15 with (go_at_call 32; go_loud ((refine (QC.out).mono ?_); rintro e wa ⟨va, rfl, hR, hb⟩; obtain ⟨AZ, kZ, rfl⟩ := Kd.R_slice hR; rw [Hn.out] at hR ⊢; have RN := Aside0.mk hR; have BN := Aside0.mk hb; clear hR hb))
        have bb := below_alloc BN.out (.cells #[.int .i64 (R : Int), .int .i64 (C : Int), .slice AZ n kZ] 46 (0, 0))
        have KZ := Aside0.mk (Bk.new (r := (R : Int)) (c := (C : Int)) RN.out)
        replace KM := Aside0.mk (KM.out.step bb)
        replace KL := Aside0.mk (KL.out.step bb)
        replace KQ := Aside0.mk (KQ.out.step bb)
        replace KX := Aside0.mk (KX.out.step bb)
        replace KY := Aside0.mk (KY.out.step bb)
        replace KT := Aside0.mk (KT.out.step bb)
        replace BW := Aside0.mk (BW.out.trans (bb.mono BW.out.size))
        clear cM0 cM1 cM2 cL0 cL1 cL2 cQ0 cQ1 cQ2 cX0 cX1 cX2 cY0 cY1 cY2 cT0 cT1 cT2
        clear bb RN BN
        generalize wa.alloc (.cells #[.int .i64 (R : Int), .int .i64 (C : Int), .slice AZ n kZ] 46 (0, 0)) = wN at KM KL KQ KX KY KT KZ BW ⊢
        generalize wa.heap.size = BZ at KZ ⊢
        clear wa
        have cM0 := blk_cell KM.out.box 0
        have cM1 := blk_cell KM.out.box 1
        have cM2 := blk_cell KM.out.box 2
        have cL0 := blk_cell KL.out.box 0
        have cL1 := blk_cell KL.out.box 1
        have cL2 := blk_cell KL.out.box 2
        have cQ0 := blk_cell KQ.out.box 0
        have cQ1 := blk_cell KQ.out.box 1
        have cQ2 := blk_cell KQ.out.box 2
        have cX0 := blk_cell KX.out.box 0
        have cX1 := blk_cell KX.out.box 1
        have cX2 := blk_cell KX.out.box 2
        have cY0 := blk_cell KY.out.box 0
        have cY1 := blk_cell KY.out.box 1
        have cY2 := blk_cell KY.out.box 2
        have cT0 := blk_cell KT.out.box 0
        have cT1 := blk_cell KT.out.box 1
        have cT2 := blk_cell KT.out.box 2
        have cZ0 := blk_cell KZ.out.box 0
        have cZ1 := blk_cell KZ.out.box 1
        have cZ2 := blk_cell KZ.out.box 2
        simp at cM0 cM1 cM2 cL0 cL1 cL2 cQ0 cQ1 cQ2 cX0 cX1 cX2 cY0 cY1 cY2 cT0 cT1 cT2 cZ0 cZ1 cZ2
        clear QC
        have SX := fun W (hb : Below wN.heap.size wN W) => tillerref04_Same.calls 20000 (R : Int) (C : Int) AX kX D (R : Int) (C : Int) A2 k2 D true W (Kd.C_below KX.out.row hb) (by rw [KX.out.len]; exact KX.out.cap) (Kd.C_below KM.out.row hb) (by rw [KM.out.len]; exact KM.out.cap) FSD.out
        simp only [Hn.out] at SX
        have SX := Aside0.mk SX
        have SY := fun W (hb : Below wN.heap.size wN W) => tillerref04_Same.calls 20000 (R : Int) (C : Int) AY kY D (R : Int) (C : Int) A2 k2 D true W (Kd.C_below KY.out.row hb) (by rw [KY.out.len]; exact KY.out.cap) (Kd.C_below KM.out.row hb) (by rw [KM.out.len]; exact KM.out.cap) FSD.out
        simp only [Hn.out] at SY
        have SY := Aside0.mk SY
        have SZ := fun W (hb : Below wN.heap.size wN W) => tillerref04_Same.calls 20000 (R : Int) (C : Int) AZ kZ D (R : Int) (C : Int) A2 k2 D true W (Kd.C_below KZ.out.row hb) (by rw [KZ.out.len]; exact KZ.out.cap) (Kd.C_below KM.out.row hb) (by rw [KM.out.len]; exact KM.out.cap) FSD.out
        simp only [Hn.out] at SZ
        have SZ := Aside0.mk SZ
        obtain ⟨w0N, hw0N⟩ : ∃ x, x = wN := ⟨_, rfl⟩
        have B0 := Aside0.mk (Below.refl wN.heap.size wN)
        clear hw0N w0N
        go_upto_region 17 with (first
          | (go_at_call 36; (with_reducible refine (SX.out wN B0.out).mono ?_); go_loud (rintro e w5 ⟨rfl, hb⟩; have B5 := Aside0.mk hb; replace cM0 := pw_cell_below hb cM0; replace cM1 := pw_cell_below hb cM1; replace cM2 := pw_cell_below hb cM2; replace cY0 := pw_cell_below hb cY0; replace cY1 := pw_cell_below hb cY1; replace cY2 := pw_cell_below hb cY2; replace cZ0 := pw_cell_below hb cZ0; replace cZ1 := pw_cell_below hb cZ1; replace cZ2 := pw_cell_below hb cZ2; replace cQ0 := pw_cell_below hb cQ0; replace cQ1 := pw_cell_below hb cQ1; replace cQ2 := pw_cell_below hb cQ2; replace cT0 := pw_cell_below hb cT0; replace cT1 := pw_cell_below hb cT1; replace cT2 := pw_cell_below hb cT2; clear hb))
          | (go_at_call 36; (with_reducible refine (SY.out w5 B5.out).mono ?_); go_loud (rintro e w6 ⟨rfl, hb⟩; have B6 := Aside0.mk (below_step B5.out hb); replace cM0 := pw_cell_below hb cM0; replace cM1 := pw_cell_below hb cM1; replace cM2 := pw_cell_below hb cM2; replace cZ0 := pw_cell_below hb cZ0; replace cZ1 := pw_cell_below hb cZ1; replace cZ2 := pw_cell_below hb cZ2; replace cQ0 := pw_cell_below hb cQ0; replace cQ1 := pw_cell_below hb cQ1; replace cQ2 := pw_cell_below hb cQ2; replace cT0 := pw_cell_below hb cT0; replace cT1 := pw_cell_below hb cT1; replace cT2 := pw_cell_below hb cT2; clear hb))
          | (go_at_call 36; (with_reducible refine (SZ.out w6 B6.out).mono ?_); go_loud (rintro e w7 ⟨rfl, hb⟩; have B7 := Aside0.mk (below_step B6.out hb); replace cM0 := pw_cell_below hb cM0; replace cM1 := pw_cell_below hb cM1; replace cM2 := pw_cell_below hb cM2; replace cQ0 := pw_cell_below hb cQ0; replace cQ1 := pw_cell_below hb cQ1; replace cQ2 := pw_cell_below hb cQ2; replace cT0 := pw_cell_below hb cT0; replace cT1 := pw_cell_below hb cT1; replace cT2 := pw_cell_below hb cT2; clear hb)))
        by_cases hj : 0 ≤ j ∧ j < (C : Int)
        · obtain ⟨q, rfl⟩ : ∃ q : Nat, j = (q : Int) := ⟨j.toNat, (Int.toNat_of_nonneg hj.1).symm⟩
          have hq : q < C := by omega
          have e1 : decide ((q : Int) < 0) = false := decide_eq_false (by omega)
          have e2 : decide ((q : Int) ≥ (C : Int)) = false := decide_eq_false (by omega)
          have e3 : (q : Int) < (C : Int) := by omega
          obtain ⟨F1, F2, F3⟩ := PJ.out q hq
          obtain ⟨O, hO⟩ : ∃ O, (List.replicate C (0 : Int)).set q 65536 = O := ⟨_, rfl⟩
          obtain ⟨G, hG⟩ : ∃ G, colv D R C q = G := ⟨_, rfl⟩
          rw [hO] at F1 F2
          rw [hG] at F2 F3
          have SG := rSame_eq (k := 20000) G G (by rw [← hG, colv_len]; have := CM.out; omega) (by rw [← hG, colv_len]; have := CM.out; omega)
          rw [decide_eq_true rfl] at SG
          obtain ⟨nO, hnO⟩ : ∃ n, O.length = n := ⟨_, rfl⟩
          obtain ⟨nG, hnG⟩ : ∃ n, G.length = n := ⟨_, rfl⟩
          have HnO := Aside0.mk hnO
          have HnG := Aside0.mk hnG
          have SG := Aside0.mk SG
          have R1 := mat_Row.calls 10 (C : Int) (C : Int) AQ kQ V (q : Int) O 0 w7 (Kd.C_below KQ.out.row B7.out) (by rw [KQ.out.len]; exact KQ.out.cap) F1
          simp only [HnV.out] at R1
          have R1 := Aside0.mk R1
          have R2 := Aside0.mk (fun W (hb : Below wN.heap.size wN W) A c (hr : Kd.C kN W A O.length O) (hc : O.length ≤ c) => mat_Apply.calls 10000 (R : Int) (C : Int) A2 k2 D A c O G 0 W (Kd.C_below KM.out.row hb) (by rw [KM.out.len]; exact KM.out.cap) hr hc F2)
          have R3 := Aside0.mk (fun W (hb : Below wN.heap.size wN W) => mat_Row.calls 10 (C : Int) (R : Int) AT kT T (q : Int) G 0 W (Kd.C_below KT.out.row hb) (by rw [KT.out.len]; exact KT.out.cap) F3)
          simp only [Hn.out, HnT.out, HnO.out] at R2 R3
          clear hj hq hO hG hnO hnG F1 F2 F3
          go_wp2_with (first
            | (go_at_call 31; (with_reducible refine R1.out.mono ?_); go_loud (rintro e w8 ⟨va, rfl, hR, hb⟩; obtain ⟨AO, kO, rfl⟩ := Kd.R_slice hR; rw [HnO.out] at hR ⊢; obtain ⟨rn, rc, rC⟩ := Kd.R_reads' hR; have RO := Aside0.mk (And.intro rC rc); have B8 := Aside0.mk (below_step B7.out hb); replace cM0 := pw_cell_below hb cM0; replace cM1 := pw_cell_below hb cM1; replace cM2 := pw_cell_below hb cM2; replace cT0 := pw_cell_below hb cT0; replace cT1 := pw_cell_below hb cT1; replace cT2 := pw_cell_below hb cT2; clear hR hb rn rc rC))
            | (go_at_call 33; (with_reducible refine (R2.out w8 B8.out AO kO (by have h := RO.out.1; rw [HnO.out] at h; exact h) RO.out.2).mono ?_); go_loud (rintro e w9 ⟨va, rfl, hR, hb⟩; obtain ⟨AV, kV, rfl⟩ := Kd.R_slice hR; rw [HnG.out] at hR ⊢; obtain ⟨rn, rc, rC⟩ := Kd.R_reads' hR; have RV := Aside0.mk (And.intro rC rc); have B9 := Aside0.mk (below_step B8.out hb); replace cT0 := pw_cell_below hb cT0; replace cT1 := pw_cell_below hb cT1; replace cT2 := pw_cell_below hb cT2; clear hR hb rn rc rC))
            | (go_at_call 31; (with_reducible refine (R3.out w9 B9.out).mono ?_); go_loud (rintro e wb ⟨va, rfl, hR, hb⟩; obtain ⟨AW2, kW, rfl⟩ := Kd.R_slice hR; rw [HnG.out] at hR ⊢; obtain ⟨rn, rc, rC⟩ := Kd.R_reads' hR; have RW := Aside0.mk (And.intro (And.intro rC rc) (Kd.C_below RV.out.1 hb)); have Bb := Aside0.mk (below_step B9.out hb); clear hR hb rn rc rC))
            | (go_at_call 34; go_loud ((refine (tillerlaw04_awake.calls 100 true _ AW.out).mono ?_); rintro e wc2 ⟨rfl, hb⟩; have Bc := Aside0.mk (below_step Bb.out hb); have RS := tillerref03_Same.calls 20000 AV kV G AW2 kW G true wc2 (Kd.C_below RW.out.2 hb) (by rw [HnG.out]; exact RV.out.2) (Kd.C_below RW.out.1.1 hb) (by rw [HnG.out]; exact RW.out.1.2) SG.out; rw [HnG.out] at RS; have RS := Aside0.mk RS; clear hb))
            | (go_at_call 28; go_loud ((refine RS.out.mono ?_); rintro e we ⟨rfl, ⟨⟨m, hm⟩⟩⟩; have Be := Aside0.mk (below_step Bc.out (hm ▸ pw_below_drewN (Below.refl _ _) m)); clear hm)))
          go_ret
          exact ⟨rfl, BW.out.trans (Be.out.mono BW.out.size)⟩
        · have dd : (decide (j < 0) = true) ∨ (decide (j < 0) = false ∧ decide (j ≥ (C : Int)) = true ∧ (C : Int) ≤ j) := by
            by_cases h1 : j < 0
            · exact .inl (decide_eq_true h1)
            · exact .inr ⟨decide_eq_false h1, decide_eq_true (by omega), by omega⟩
          clear hj
          rcases dd with e1 | ⟨e1, e2, e3⟩
          all_goals (
            go_wp2_with (go_at_call 34; go_loud ((refine (tillerlaw04_awake.calls 100 true _ AW.out).mono ?_); rintro e w8 ⟨rfl, hb⟩; have B8 := Aside0.mk (below_step B7.out hb); clear hb))
            go_ret
            exact ⟨rfl, BW.out.trans (B8.out.mono BW.out.size)⟩)
        -- MARK2
  · have CC := Aside0.mk CC
    obtain ⟨x, hx⟩ : ∃ x, chkv r0 c0 d = x := ⟨_, rfl⟩
    rw [hx] at CC hchk
    have hx2 : (x == 0) = false := by simpa using hchk
    clear hx hchk
    go_wp2_with (first
      | (go_at_call 35; go_loud ((refine CC.out.mono ?_); rintro e w4 ⟨rfl, hb⟩; have B4 := Aside0.mk (B3.out.trans (hb.mono B3.out.size)); clear hb))
      | (go_at_call 34; go_loud ((refine (tillerlaw04_awake.calls 100 true _ AW.out).mono ?_); rintro e w5 ⟨rfl, hb⟩; have B5 := Aside0.mk (B4.out.trans (hb.mono B4.out.size)); clear hb)))
    go_ret
    exact ⟨rfl, B5.out⟩
end Go.Proofs.Ytefimleoffaggaa.OMatUnits
