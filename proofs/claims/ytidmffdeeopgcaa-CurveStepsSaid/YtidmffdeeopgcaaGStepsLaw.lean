/- CurveSteps, walked by hand: each call's answer is known. -/
import Derived.Test.YtidmffdeeopgcaaGAwake
import Derived.Test.YtidmffdeeopgcaaUSteps
import Derived.Deep.RegionHeld3
set_option linter.unusedVariables false
set_option linter.unusedSimpArgs false
namespace Go.Proofs.Ytidmffdeeopgcaa.GStepsLaw
open Go.RowKit Go.Proofs.YtidmffdeeopgcaaW.PrintWords Go.Proofs.YtidmffdeeopgcaaW.PrintLast Go.Proofs.YtidmffdeeopgcaaW.PrintMore
open Go.Proofs.Ytidmffdeeopgcaa.GCurve
open Go.Proofs.Ytidmffdeeopgcaa.U (pow2 Pow_eq pow2_bound Root_sq step_lt pow_between)
attribute [local go_sem] max2_int min2_int max_two min_two max_three min_three max_four min_four
def tillerlaw02_CurveSteps.f (a0 a1 a2 : Int) : Option Bool := if (-2147483648 ≤ a0 ∧ a0 ≤ 2147483647) ∧ (-9223372036854775808 ≤ a1 ∧ a1 ≤ 9223372036854775807) ∧ 0 ≤ a2 ∧ a2 ≤ 4294967295 then some true else none
theorem cellAt {W : World} {g : Nat} (h : W.heap[g]? = some (.cells stepsA 25 (0, 0))) (i : Int) (h0 : 0 ≤ i) (h1 : i < 65) : W.cell? ⟨g, i.toNat, none⟩ = some (.int .i32 (stepAt i)) := by
  rw [blk_cell h]
  have hl : stepsL.length = 65 := rfl
  unfold stepsA stepAt rd
  rw [List.getElem?_toArray, List.getElem?_map, List.getD_eq_getElem?_getD, List.getElem?_eq_getElem (by omega)]
  rfl
theorem keptS {w W wc : World} {g p q : Nat} {C D : Value} {o : Obj} (kp : ∀ W : World, W.heap[g]? = some o → W.cell? ⟨g, p, none⟩ = some C) (kq : ∀ W : World, W.heap[g]? = some o → W.cell? ⟨g, q, none⟩ = some D) (hbc : Below W.heap.size W wc)
    (hS : W.cell? ⟨g, p, none⟩ = some C ∧ W.cell? ⟨g, q, none⟩ = some D ∧ W.heap[g]? = some o ∧ Below w.heap.size w W) :
    wc.cell? ⟨g, p, none⟩ = some C ∧ wc.cell? ⟨g, q, none⟩ = some D ∧ wc.heap[g]? = some o ∧ Below w.heap.size w wc :=
  have hn := blk_below hS.2.2.1 hbc
  ⟨kp _ hn, kq _ hn, hn, below_step hS.2.2.2 hbc⟩
set_option maxHeartbeats 4000000 in
set_option maxRecDepth 100000 in
theorem tillerlaw02_CurveSteps.calls (a0 a1 a2 : Int) (r : Bool) (w : World) (hr_ : Aside0 (r = true)) (h : tillerlaw02_CurveSteps.f a0 a1 a2 = some r) : Calls Try.prog 6 #[.int .i32 a0, .int .i64 a1, .int .u32 a2] w fun e w' => e = .returned (.bool r) ∧ Below w.heap.size w w' := by
  have hb : (-2147483648 ≤ a0 ∧ a0 ≤ 2147483647) ∧ (-9223372036854775808 ≤ a1 ∧ a1 ≤ 9223372036854775807) ∧ 0 ≤ a2 ∧ a2 ≤ 4294967295 := by
    unfold tillerlaw02_CurveSteps.f at h
    split at h
    · assumption
    · cases h
  obtain ⟨r_⟩ := hr_
  subst r_
  clear h
  obtain ⟨hb0, hb1, hb2, hb3⟩ := hb
  have hz := zero_steps
  obtain ⟨K, hK⟩ : ∃ K : Nat, 4294967297 = K := ⟨_, rfl⟩
  obtain ⟨Z, hZ, Z0, Z1, Zp, R1, R2, R3⟩ := Root_sq a2 hb2 hb3
  rw [hK] at R1 R2 R3
  have R1 := Aside0.mk R1
  have R3 := Aside0.mk R3
  have R2 := Aside0.mk R2
  have P1 := Aside0.mk (Pow_eq a0 hb0)
  have hu1 := Try.underlying25
  have i0 := fun b => GCurve.idx_steps b 0 (by decide) (by decide)
  have i64 := fun b => GCurve.idx_steps b 64 (by decide) (by decide)
  have i1 := fun b => GCurve.idx_steps b 1 (by decide) (by decide)
  have c0 : ∀ W : World, (W.alloc (.cells stepsA 25)).cell? ⟨W.heap.size, 0, none⟩ = some (.int .i32 65536) := fun W => cellAt (heap_alloc_new W _) 0 (by decide) (by decide)
  have c64 : ∀ W : World, (W.alloc (.cells stepsA 25)).cell? ⟨W.heap.size, 64, none⟩ = some (.int .i32 32768) := fun W => cellAt (heap_alloc_new W _) 64 (by decide) (by decide)
  have c1 : ∀ W : World, (W.alloc (.cells stepsA 25)).cell? ⟨W.heap.size, 1, none⟩ = some (.int .i32 64830) := fun W => cellAt (heap_alloc_new W _) 1 (by decide) (by decide)
  by_cases d1 : a1 < 0
  · have f1 : decide (a1 < 0) = true := decide_eq_true d1
    go_enter Try.func6, Try.ntmps6
    go_wp2_with (first | (go_at_call 11; refine (curve_Steps.calls _).mono ?_; rintro e w1 ⟨rfl, hb1⟩; have k0 := c0 w1; have k64 := c64 w1; have k1 := c1 w1; clear c0 c64 c1) | (refine wpList_store_new rfl 25 _ _ rfl zeroA stepsA rfl rfl info_steps rfl one_steps ?_))
    go_quiet (fail)
    clear k0 k64 k1
    have hB := heap_alloc_new w1 (.cells stepsA 25 (0, 0))
    by_cases z0 : 0 < a2
    · have R2 := Aside0.mk (R2.out z0)
      have Z2 := Zp z0
      by_cases dx : -1310720 ≤ a0 ∧ a0 ≤ 0
      · obtain ⟨dx0, dx1⟩ := dx
        obtain ⟨p, s, C, D, E, F, P, hp, hs, p0, p1, s0, s1, hC, hD, C0, C1, D0, D1, hE, hF, hP, hPE, hFP, P0, P1b, E0, E1, F0, F1⟩ := pow_between a0 dx0 dx1
        rw [hP] at P1
        have ip := fun b => GCurve.idx_steps b p p0 (by omega)
        have iq := fun b => GCurve.idx_steps b (p + 1) (by omega) (by omega)
        have kp : ∀ W : World, W.heap[w1.heap.size]? = some (.cells stepsA 25 (0, 0)) → W.cell? ⟨w1.heap.size, p.toNat, none⟩ = some (.int .i32 C) := fun W h => by rw [← hC]; exact cellAt h p p0 (by omega)
        have kq : ∀ W : World, W.heap[w1.heap.size]? = some (.cells stepsA 25 (0, 0)) → W.cell? ⟨w1.heap.size, (p + 1).toNat, none⟩ = some (.int .i32 D) := fun W h => by rw [← hD]; exact cellAt h (p + 1) (by omega) (by omega)
        clear hC hD hP
        obtain ⟨N, hN⟩ : ∃ N, -a0 / 1024 = N := ⟨_, rfl⟩
        have N0 : 0 ≤ N := by omega
        have N1 : N ≤ 1280 := by omega
        have e1 : wrap64 (-(Int.tdiv a0 1024)) = N := by rw [← Int.neg_tdiv, Int.tdiv_eq_ediv_of_nonneg (by omega), hN]; unfold wrap64; omega
        rw [hN] at hp hs
        have e2 : Int.tmod N 64 = p := by rw [Int.tmod_eq_emod_of_nonneg N0, hp]
        have e3 : wrap64 (Int.tdiv N 64) = s := by rw [Int.tdiv_eq_ediv_of_nonneg N0, hs]; unfold wrap64; omega
        clear hp hN
        have wC : IntKind.i64.wrap C = C := by rw [IntKind.wrap_i64]; omega
        have wD : IntKind.i64.wrap D = D := by rw [IntKind.wrap_i64]; omega
        have wP : IntKind.i64.wrap P = P := by rw [IntKind.wrap_i64]; omega
        have wp : IntKind.i64.wrap (p + 1) = p + 1 := by rw [IntKind.wrap_i64]; omega
        have fPE : decide (P ≤ E) = true := decide_eq_true hPE
        have fFP : decide (F ≤ P) = true := decide_eq_true hFP
        have fFP' : decide (P ≥ F) = true := decide_eq_true hFP
        have kp := Aside0.mk kp
        have kq := Aside0.mk kq
        have HB0 := below_alloc hb1 (.cells stepsA 25 (0, 0))
        have sn0 := fun n => And.intro (kp.out _ (bkN hB n)) (And.intro (kq.out _ (bkN hB n)) (And.intro (bkN hB n) (bwN HB0 n)))
        have sn0d := fun n => And.intro (kp.out _ (bkD (bkN hB n))) (And.intro (kq.out _ (bkD (bkN hB n))) (And.intro (bkD (bkN hB n)) (bwD (bwN HB0 n))))
        go_wp2_with (first
          | (go_at_call 13; (with_reducible refine (GQ.curve_Root.calls K Z a2 _ R1.out).mono ?_); rintro e w' ⟨rfl, ⟨nd1, rfl⟩⟩)
          | (go_at_call 13; (with_reducible refine (GQ.curve_Root.calls K (Z - 1) (a2 - 1) _ R2.out).mono ?_); rintro e w' ⟨rfl, ⟨nd2, rfl⟩⟩)
          | (go_at_call 13; (with_reducible refine (GQ.curve_Root.calls K (Z + 2 * a2) a2 _ R3.out).mono ?_); rintro e w' ⟨rfl, ⟨nd3, rfl⟩⟩))
        go_region_held3 (fun W => W.cell? ⟨w1.heap.size, p.toNat, none⟩ = some (.int .i32 C) ∧ W.cell? ⟨w1.heap.size, (p + 1).toNat, none⟩ = some (.int .i32 D) ∧ W.heap[w1.heap.size]? = some (.cells stepsA 25 (0, 0)) ∧ Below w.heap.size w W)
          (first | exact sn | exact sn0 _ | exact sn0d _)
          (first
          | go_loud (go_at_call 8; refine (GAwake.tillerlaw02_awake.calls true _ rfl).mono ?_; rintro e wc ⟨rfl, hbc⟩; have sn := keptS (w := w) kp.out kq.out hbc (by assumption); clear hbc)
          | (go_at_call 9; refine (curve_Pow.calls a0 P _ P1.out).mono ?_; rintro e wc ⟨rfl, hbc⟩; have sn := keptS (w := w) kp.out kq.out hbc (by assumption); clear hbc))
        all_goals go_wp2
        all_goals (go_ret; exact ⟨rfl, sn.2.2.2⟩)
      · go_wp2_with (first
          | (go_at_call 13; (with_reducible refine (GQ.curve_Root.calls K Z a2 _ R1.out).mono ?_); rintro e w' ⟨rfl, ⟨nd1, rfl⟩⟩)
          | (go_at_call 13; (with_reducible refine (GQ.curve_Root.calls K (Z - 1) (a2 - 1) _ R2.out).mono ?_); rintro e w' ⟨rfl, ⟨nd2, rfl⟩⟩)
          | (go_at_call 13; (with_reducible refine (GQ.curve_Root.calls K (Z + 2 * a2) a2 _ R3.out).mono ?_); rintro e w' ⟨rfl, ⟨nd3, rfl⟩⟩)
          | (go_at_call 8; refine (GAwake.tillerlaw02_awake.calls true _ rfl).mono ?_; rintro e w5 ⟨rfl, hb5⟩))
        all_goals (go_ret; exact ⟨rfl, below_step (pw_below_drewN (below_alloc hb1 _) _) hb5⟩)
    · by_cases dx : -1310720 ≤ a0 ∧ a0 ≤ 0
      · obtain ⟨dx0, dx1⟩ := dx
        obtain ⟨p, s, C, D, E, F, P, hp, hs, p0, p1, s0, s1, hC, hD, C0, C1, D0, D1, hE, hF, hP, hPE, hFP, P0, P1b, E0, E1, F0, F1⟩ := pow_between a0 dx0 dx1
        rw [hP] at P1
        have ip := fun b => GCurve.idx_steps b p p0 (by omega)
        have iq := fun b => GCurve.idx_steps b (p + 1) (by omega) (by omega)
        have kp : ∀ W : World, W.heap[w1.heap.size]? = some (.cells stepsA 25 (0, 0)) → W.cell? ⟨w1.heap.size, p.toNat, none⟩ = some (.int .i32 C) := fun W h => by rw [← hC]; exact cellAt h p p0 (by omega)
        have kq : ∀ W : World, W.heap[w1.heap.size]? = some (.cells stepsA 25 (0, 0)) → W.cell? ⟨w1.heap.size, (p + 1).toNat, none⟩ = some (.int .i32 D) := fun W h => by rw [← hD]; exact cellAt h (p + 1) (by omega) (by omega)
        clear hC hD hP
        obtain ⟨N, hN⟩ : ∃ N, -a0 / 1024 = N := ⟨_, rfl⟩
        have N0 : 0 ≤ N := by omega
        have N1 : N ≤ 1280 := by omega
        have e1 : wrap64 (-(Int.tdiv a0 1024)) = N := by rw [← Int.neg_tdiv, Int.tdiv_eq_ediv_of_nonneg (by omega), hN]; unfold wrap64; omega
        rw [hN] at hp hs
        have e2 : Int.tmod N 64 = p := by rw [Int.tmod_eq_emod_of_nonneg N0, hp]
        have e3 : wrap64 (Int.tdiv N 64) = s := by rw [Int.tdiv_eq_ediv_of_nonneg N0, hs]; unfold wrap64; omega
        clear hp hN
        have wC : IntKind.i64.wrap C = C := by rw [IntKind.wrap_i64]; omega
        have wD : IntKind.i64.wrap D = D := by rw [IntKind.wrap_i64]; omega
        have wP : IntKind.i64.wrap P = P := by rw [IntKind.wrap_i64]; omega
        have wp : IntKind.i64.wrap (p + 1) = p + 1 := by rw [IntKind.wrap_i64]; omega
        have fPE : decide (P ≤ E) = true := decide_eq_true hPE
        have fFP : decide (F ≤ P) = true := decide_eq_true hFP
        have fFP' : decide (P ≥ F) = true := decide_eq_true hFP
        have kp := Aside0.mk kp
        have kq := Aside0.mk kq
        have HB0 := below_alloc hb1 (.cells stepsA 25 (0, 0))
        have sn0 := fun n => And.intro (kp.out _ (bkN hB n)) (And.intro (kq.out _ (bkN hB n)) (And.intro (bkN hB n) (bwN HB0 n)))
        have sn0d := fun n => And.intro (kp.out _ (bkD (bkN hB n))) (And.intro (kq.out _ (bkD (bkN hB n))) (And.intro (bkD (bkN hB n)) (bwD (bwN HB0 n))))
        go_wp2_with (first
          | (go_at_call 13; (with_reducible refine (GQ.curve_Root.calls K Z a2 _ R1.out).mono ?_); rintro e w' ⟨rfl, ⟨nd1, rfl⟩⟩)
          | (go_at_call 13; (with_reducible refine (GQ.curve_Root.calls K (Z + 2 * a2) a2 _ R3.out).mono ?_); rintro e w' ⟨rfl, ⟨nd3, rfl⟩⟩))
        go_region_held3 (fun W => W.cell? ⟨w1.heap.size, p.toNat, none⟩ = some (.int .i32 C) ∧ W.cell? ⟨w1.heap.size, (p + 1).toNat, none⟩ = some (.int .i32 D) ∧ W.heap[w1.heap.size]? = some (.cells stepsA 25 (0, 0)) ∧ Below w.heap.size w W)
          (first | exact sn | exact sn0 _ | exact sn0d _)
          (first
          | go_loud (go_at_call 8; refine (GAwake.tillerlaw02_awake.calls true _ rfl).mono ?_; rintro e wc ⟨rfl, hbc⟩; have sn := keptS (w := w) kp.out kq.out hbc (by assumption); clear hbc)
          | (go_at_call 9; refine (curve_Pow.calls a0 P _ P1.out).mono ?_; rintro e wc ⟨rfl, hbc⟩; have sn := keptS (w := w) kp.out kq.out hbc (by assumption); clear hbc))
        all_goals go_wp2
        all_goals (go_ret; exact ⟨rfl, sn.2.2.2⟩)
      · go_wp2_with (first
          | (go_at_call 13; (with_reducible refine (GQ.curve_Root.calls K Z a2 _ R1.out).mono ?_); rintro e w' ⟨rfl, ⟨nd1, rfl⟩⟩)
          | (go_at_call 13; (with_reducible refine (GQ.curve_Root.calls K (Z + 2 * a2) a2 _ R3.out).mono ?_); rintro e w' ⟨rfl, ⟨nd3, rfl⟩⟩)
          | (go_at_call 8; refine (GAwake.tillerlaw02_awake.calls true _ rfl).mono ?_; rintro e w5 ⟨rfl, hb5⟩))
        all_goals (go_ret; exact ⟨rfl, below_step (pw_below_drewN (below_alloc hb1 _) _) hb5⟩)
  by_cases d2 : a1 > 63
  · have f1 : decide (a1 < 0) = false := decide_eq_false d1
    have f2 : decide (a1 > 63) = true := decide_eq_true d2
    go_enter Try.func6, Try.ntmps6
    go_wp2_with (first | (go_at_call 11; refine (curve_Steps.calls _).mono ?_; rintro e w1 ⟨rfl, hb1⟩; have k0 := c0 w1; have k64 := c64 w1; have k1 := c1 w1; clear c0 c64 c1) | (refine wpList_store_new rfl 25 _ _ rfl zeroA stepsA rfl rfl info_steps rfl one_steps ?_))
    go_quiet (fail)
    clear k0 k64 k1
    have hB := heap_alloc_new w1 (.cells stepsA 25 (0, 0))
    by_cases z0 : 0 < a2
    · have R2 := Aside0.mk (R2.out z0)
      have Z2 := Zp z0
      by_cases dx : -1310720 ≤ a0 ∧ a0 ≤ 0
      · obtain ⟨dx0, dx1⟩ := dx
        obtain ⟨p, s, C, D, E, F, P, hp, hs, p0, p1, s0, s1, hC, hD, C0, C1, D0, D1, hE, hF, hP, hPE, hFP, P0, P1b, E0, E1, F0, F1⟩ := pow_between a0 dx0 dx1
        rw [hP] at P1
        have ip := fun b => GCurve.idx_steps b p p0 (by omega)
        have iq := fun b => GCurve.idx_steps b (p + 1) (by omega) (by omega)
        have kp : ∀ W : World, W.heap[w1.heap.size]? = some (.cells stepsA 25 (0, 0)) → W.cell? ⟨w1.heap.size, p.toNat, none⟩ = some (.int .i32 C) := fun W h => by rw [← hC]; exact cellAt h p p0 (by omega)
        have kq : ∀ W : World, W.heap[w1.heap.size]? = some (.cells stepsA 25 (0, 0)) → W.cell? ⟨w1.heap.size, (p + 1).toNat, none⟩ = some (.int .i32 D) := fun W h => by rw [← hD]; exact cellAt h (p + 1) (by omega) (by omega)
        clear hC hD hP
        obtain ⟨N, hN⟩ : ∃ N, -a0 / 1024 = N := ⟨_, rfl⟩
        have N0 : 0 ≤ N := by omega
        have N1 : N ≤ 1280 := by omega
        have e1 : wrap64 (-(Int.tdiv a0 1024)) = N := by rw [← Int.neg_tdiv, Int.tdiv_eq_ediv_of_nonneg (by omega), hN]; unfold wrap64; omega
        rw [hN] at hp hs
        have e2 : Int.tmod N 64 = p := by rw [Int.tmod_eq_emod_of_nonneg N0, hp]
        have e3 : wrap64 (Int.tdiv N 64) = s := by rw [Int.tdiv_eq_ediv_of_nonneg N0, hs]; unfold wrap64; omega
        clear hp hN
        have wC : IntKind.i64.wrap C = C := by rw [IntKind.wrap_i64]; omega
        have wD : IntKind.i64.wrap D = D := by rw [IntKind.wrap_i64]; omega
        have wP : IntKind.i64.wrap P = P := by rw [IntKind.wrap_i64]; omega
        have wp : IntKind.i64.wrap (p + 1) = p + 1 := by rw [IntKind.wrap_i64]; omega
        have fPE : decide (P ≤ E) = true := decide_eq_true hPE
        have fFP : decide (F ≤ P) = true := decide_eq_true hFP
        have fFP' : decide (P ≥ F) = true := decide_eq_true hFP
        have kp := Aside0.mk kp
        have kq := Aside0.mk kq
        have HB0 := below_alloc hb1 (.cells stepsA 25 (0, 0))
        have sn0 := fun n => And.intro (kp.out _ (bkN hB n)) (And.intro (kq.out _ (bkN hB n)) (And.intro (bkN hB n) (bwN HB0 n)))
        have sn0d := fun n => And.intro (kp.out _ (bkD (bkN hB n))) (And.intro (kq.out _ (bkD (bkN hB n))) (And.intro (bkD (bkN hB n)) (bwD (bwN HB0 n))))
        go_wp2_with (first
          | (go_at_call 13; (with_reducible refine (GQ.curve_Root.calls K Z a2 _ R1.out).mono ?_); rintro e w' ⟨rfl, ⟨nd1, rfl⟩⟩)
          | (go_at_call 13; (with_reducible refine (GQ.curve_Root.calls K (Z - 1) (a2 - 1) _ R2.out).mono ?_); rintro e w' ⟨rfl, ⟨nd2, rfl⟩⟩)
          | (go_at_call 13; (with_reducible refine (GQ.curve_Root.calls K (Z + 2 * a2) a2 _ R3.out).mono ?_); rintro e w' ⟨rfl, ⟨nd3, rfl⟩⟩))
        go_region_held3 (fun W => W.cell? ⟨w1.heap.size, p.toNat, none⟩ = some (.int .i32 C) ∧ W.cell? ⟨w1.heap.size, (p + 1).toNat, none⟩ = some (.int .i32 D) ∧ W.heap[w1.heap.size]? = some (.cells stepsA 25 (0, 0)) ∧ Below w.heap.size w W)
          (first | exact sn | exact sn0 _ | exact sn0d _)
          (first
          | go_loud (go_at_call 8; refine (GAwake.tillerlaw02_awake.calls true _ rfl).mono ?_; rintro e wc ⟨rfl, hbc⟩; have sn := keptS (w := w) kp.out kq.out hbc (by assumption); clear hbc)
          | (go_at_call 9; refine (curve_Pow.calls a0 P _ P1.out).mono ?_; rintro e wc ⟨rfl, hbc⟩; have sn := keptS (w := w) kp.out kq.out hbc (by assumption); clear hbc))
        all_goals go_wp2
        all_goals (go_ret; exact ⟨rfl, sn.2.2.2⟩)
      · go_wp2_with (first
          | (go_at_call 13; (with_reducible refine (GQ.curve_Root.calls K Z a2 _ R1.out).mono ?_); rintro e w' ⟨rfl, ⟨nd1, rfl⟩⟩)
          | (go_at_call 13; (with_reducible refine (GQ.curve_Root.calls K (Z - 1) (a2 - 1) _ R2.out).mono ?_); rintro e w' ⟨rfl, ⟨nd2, rfl⟩⟩)
          | (go_at_call 13; (with_reducible refine (GQ.curve_Root.calls K (Z + 2 * a2) a2 _ R3.out).mono ?_); rintro e w' ⟨rfl, ⟨nd3, rfl⟩⟩)
          | (go_at_call 8; refine (GAwake.tillerlaw02_awake.calls true _ rfl).mono ?_; rintro e w5 ⟨rfl, hb5⟩))
        all_goals (go_ret; exact ⟨rfl, below_step (pw_below_drewN (below_alloc hb1 _) _) hb5⟩)
    · by_cases dx : -1310720 ≤ a0 ∧ a0 ≤ 0
      · obtain ⟨dx0, dx1⟩ := dx
        obtain ⟨p, s, C, D, E, F, P, hp, hs, p0, p1, s0, s1, hC, hD, C0, C1, D0, D1, hE, hF, hP, hPE, hFP, P0, P1b, E0, E1, F0, F1⟩ := pow_between a0 dx0 dx1
        rw [hP] at P1
        have ip := fun b => GCurve.idx_steps b p p0 (by omega)
        have iq := fun b => GCurve.idx_steps b (p + 1) (by omega) (by omega)
        have kp : ∀ W : World, W.heap[w1.heap.size]? = some (.cells stepsA 25 (0, 0)) → W.cell? ⟨w1.heap.size, p.toNat, none⟩ = some (.int .i32 C) := fun W h => by rw [← hC]; exact cellAt h p p0 (by omega)
        have kq : ∀ W : World, W.heap[w1.heap.size]? = some (.cells stepsA 25 (0, 0)) → W.cell? ⟨w1.heap.size, (p + 1).toNat, none⟩ = some (.int .i32 D) := fun W h => by rw [← hD]; exact cellAt h (p + 1) (by omega) (by omega)
        clear hC hD hP
        obtain ⟨N, hN⟩ : ∃ N, -a0 / 1024 = N := ⟨_, rfl⟩
        have N0 : 0 ≤ N := by omega
        have N1 : N ≤ 1280 := by omega
        have e1 : wrap64 (-(Int.tdiv a0 1024)) = N := by rw [← Int.neg_tdiv, Int.tdiv_eq_ediv_of_nonneg (by omega), hN]; unfold wrap64; omega
        rw [hN] at hp hs
        have e2 : Int.tmod N 64 = p := by rw [Int.tmod_eq_emod_of_nonneg N0, hp]
        have e3 : wrap64 (Int.tdiv N 64) = s := by rw [Int.tdiv_eq_ediv_of_nonneg N0, hs]; unfold wrap64; omega
        clear hp hN
        have wC : IntKind.i64.wrap C = C := by rw [IntKind.wrap_i64]; omega
        have wD : IntKind.i64.wrap D = D := by rw [IntKind.wrap_i64]; omega
        have wP : IntKind.i64.wrap P = P := by rw [IntKind.wrap_i64]; omega
        have wp : IntKind.i64.wrap (p + 1) = p + 1 := by rw [IntKind.wrap_i64]; omega
        have fPE : decide (P ≤ E) = true := decide_eq_true hPE
        have fFP : decide (F ≤ P) = true := decide_eq_true hFP
        have fFP' : decide (P ≥ F) = true := decide_eq_true hFP
        have kp := Aside0.mk kp
        have kq := Aside0.mk kq
        have HB0 := below_alloc hb1 (.cells stepsA 25 (0, 0))
        have sn0 := fun n => And.intro (kp.out _ (bkN hB n)) (And.intro (kq.out _ (bkN hB n)) (And.intro (bkN hB n) (bwN HB0 n)))
        have sn0d := fun n => And.intro (kp.out _ (bkD (bkN hB n))) (And.intro (kq.out _ (bkD (bkN hB n))) (And.intro (bkD (bkN hB n)) (bwD (bwN HB0 n))))
        go_wp2_with (first
          | (go_at_call 13; (with_reducible refine (GQ.curve_Root.calls K Z a2 _ R1.out).mono ?_); rintro e w' ⟨rfl, ⟨nd1, rfl⟩⟩)
          | (go_at_call 13; (with_reducible refine (GQ.curve_Root.calls K (Z + 2 * a2) a2 _ R3.out).mono ?_); rintro e w' ⟨rfl, ⟨nd3, rfl⟩⟩))
        go_region_held3 (fun W => W.cell? ⟨w1.heap.size, p.toNat, none⟩ = some (.int .i32 C) ∧ W.cell? ⟨w1.heap.size, (p + 1).toNat, none⟩ = some (.int .i32 D) ∧ W.heap[w1.heap.size]? = some (.cells stepsA 25 (0, 0)) ∧ Below w.heap.size w W)
          (first | exact sn | exact sn0 _ | exact sn0d _)
          (first
          | go_loud (go_at_call 8; refine (GAwake.tillerlaw02_awake.calls true _ rfl).mono ?_; rintro e wc ⟨rfl, hbc⟩; have sn := keptS (w := w) kp.out kq.out hbc (by assumption); clear hbc)
          | (go_at_call 9; refine (curve_Pow.calls a0 P _ P1.out).mono ?_; rintro e wc ⟨rfl, hbc⟩; have sn := keptS (w := w) kp.out kq.out hbc (by assumption); clear hbc))
        all_goals go_wp2
        all_goals (go_ret; exact ⟨rfl, sn.2.2.2⟩)
      · go_wp2_with (first
          | (go_at_call 13; (with_reducible refine (GQ.curve_Root.calls K Z a2 _ R1.out).mono ?_); rintro e w' ⟨rfl, ⟨nd1, rfl⟩⟩)
          | (go_at_call 13; (with_reducible refine (GQ.curve_Root.calls K (Z + 2 * a2) a2 _ R3.out).mono ?_); rintro e w' ⟨rfl, ⟨nd3, rfl⟩⟩)
          | (go_at_call 8; refine (GAwake.tillerlaw02_awake.calls true _ rfl).mono ?_; rintro e w5 ⟨rfl, hb5⟩))
        all_goals (go_ret; exact ⟨rfl, below_step (pw_below_drewN (below_alloc hb1 _) _) hb5⟩)
  · have f1 : decide (a1 < 0) = false := decide_eq_false d1
    have f2 : decide (a1 > 63) = false := decide_eq_false d2
    have ia := fun b => GCurve.idx_steps b a1 (by omega) (by omega)
    have ib := fun b => GCurve.idx_steps b (a1 + 1) (by omega) (by omega)
    have hl := step_lt a1 (by omega) (by omega)
    obtain ⟨A, hA⟩ : ∃ A, stepAt a1 = A := ⟨_, rfl⟩
    obtain ⟨B, hB_⟩ : ∃ B, stepAt (a1 + 1) = B := ⟨_, rfl⟩
    rw [hA, hB_] at hl
    have ca : ∀ W : World, (W.alloc (.cells stepsA 25)).cell? ⟨W.heap.size, a1.toNat, none⟩ = some (.int .i32 A) := fun W => by rw [← hA]; exact cellAt (heap_alloc_new W _) a1 (by omega) (by omega)
    have cb : ∀ W : World, (W.alloc (.cells stepsA 25)).cell? ⟨W.heap.size, (a1 + 1).toNat, none⟩ = some (.int .i32 B) := fun W => by rw [← hB_]; exact cellAt (heap_alloc_new W _) (a1 + 1) (by omega) (by omega)
    clear hA hB_
    go_enter Try.func6, Try.ntmps6
    go_wp2_with (first | (go_at_call 11; refine (curve_Steps.calls _).mono ?_; rintro e w1 ⟨rfl, hb1⟩; have k0 := c0 w1; have k64 := c64 w1; have k1 := ca w1; have k2 := cb w1; clear c0 c64 c1 ca cb) | (refine wpList_store_new rfl 25 _ _ rfl zeroA stepsA rfl rfl info_steps rfl one_steps ?_))
    go_quiet (fail)
    clear k0 k64 k1 k2
    have hB := heap_alloc_new w1 (.cells stepsA 25 (0, 0))
    by_cases z0 : 0 < a2
    · have R2 := Aside0.mk (R2.out z0)
      have Z2 := Zp z0
      by_cases dx : -1310720 ≤ a0 ∧ a0 ≤ 0
      · obtain ⟨dx0, dx1⟩ := dx
        obtain ⟨p, s, C, D, E, F, P, hp, hs, p0, p1, s0, s1, hC, hD, C0, C1, D0, D1, hE, hF, hP, hPE, hFP, P0, P1b, E0, E1, F0, F1⟩ := pow_between a0 dx0 dx1
        rw [hP] at P1
        have ip := fun b => GCurve.idx_steps b p p0 (by omega)
        have iq := fun b => GCurve.idx_steps b (p + 1) (by omega) (by omega)
        have kp : ∀ W : World, W.heap[w1.heap.size]? = some (.cells stepsA 25 (0, 0)) → W.cell? ⟨w1.heap.size, p.toNat, none⟩ = some (.int .i32 C) := fun W h => by rw [← hC]; exact cellAt h p p0 (by omega)
        have kq : ∀ W : World, W.heap[w1.heap.size]? = some (.cells stepsA 25 (0, 0)) → W.cell? ⟨w1.heap.size, (p + 1).toNat, none⟩ = some (.int .i32 D) := fun W h => by rw [← hD]; exact cellAt h (p + 1) (by omega) (by omega)
        clear hC hD hP
        obtain ⟨N, hN⟩ : ∃ N, -a0 / 1024 = N := ⟨_, rfl⟩
        have N0 : 0 ≤ N := by omega
        have N1 : N ≤ 1280 := by omega
        have e1 : wrap64 (-(Int.tdiv a0 1024)) = N := by rw [← Int.neg_tdiv, Int.tdiv_eq_ediv_of_nonneg (by omega), hN]; unfold wrap64; omega
        rw [hN] at hp hs
        have e2 : Int.tmod N 64 = p := by rw [Int.tmod_eq_emod_of_nonneg N0, hp]
        have e3 : wrap64 (Int.tdiv N 64) = s := by rw [Int.tdiv_eq_ediv_of_nonneg N0, hs]; unfold wrap64; omega
        clear hp hN
        have wC : IntKind.i64.wrap C = C := by rw [IntKind.wrap_i64]; omega
        have wD : IntKind.i64.wrap D = D := by rw [IntKind.wrap_i64]; omega
        have wP : IntKind.i64.wrap P = P := by rw [IntKind.wrap_i64]; omega
        have wp : IntKind.i64.wrap (p + 1) = p + 1 := by rw [IntKind.wrap_i64]; omega
        have fPE : decide (P ≤ E) = true := decide_eq_true hPE
        have fFP : decide (F ≤ P) = true := decide_eq_true hFP
        have fFP' : decide (P ≥ F) = true := decide_eq_true hFP
        have kp := Aside0.mk kp
        have kq := Aside0.mk kq
        have HB0 := below_alloc hb1 (.cells stepsA 25 (0, 0))
        have sn0 := fun n => And.intro (kp.out _ (bkN hB n)) (And.intro (kq.out _ (bkN hB n)) (And.intro (bkN hB n) (bwN HB0 n)))
        have sn0d := fun n => And.intro (kp.out _ (bkD (bkN hB n))) (And.intro (kq.out _ (bkD (bkN hB n))) (And.intro (bkD (bkN hB n)) (bwD (bwN HB0 n))))
        go_wp2_with (first
          | (go_at_call 13; (with_reducible refine (GQ.curve_Root.calls K Z a2 _ R1.out).mono ?_); rintro e w' ⟨rfl, ⟨nd1, rfl⟩⟩)
          | (go_at_call 13; (with_reducible refine (GQ.curve_Root.calls K (Z - 1) (a2 - 1) _ R2.out).mono ?_); rintro e w' ⟨rfl, ⟨nd2, rfl⟩⟩)
          | (go_at_call 13; (with_reducible refine (GQ.curve_Root.calls K (Z + 2 * a2) a2 _ R3.out).mono ?_); rintro e w' ⟨rfl, ⟨nd3, rfl⟩⟩))
        go_region_held3 (fun W => W.cell? ⟨w1.heap.size, p.toNat, none⟩ = some (.int .i32 C) ∧ W.cell? ⟨w1.heap.size, (p + 1).toNat, none⟩ = some (.int .i32 D) ∧ W.heap[w1.heap.size]? = some (.cells stepsA 25 (0, 0)) ∧ Below w.heap.size w W)
          (first | exact sn | exact sn0 _ | exact sn0d _)
          (first
          | go_loud (go_at_call 8; refine (GAwake.tillerlaw02_awake.calls true _ rfl).mono ?_; rintro e wc ⟨rfl, hbc⟩; have sn := keptS (w := w) kp.out kq.out hbc (by assumption); clear hbc)
          | (go_at_call 9; refine (curve_Pow.calls a0 P _ P1.out).mono ?_; rintro e wc ⟨rfl, hbc⟩; have sn := keptS (w := w) kp.out kq.out hbc (by assumption); clear hbc))
        all_goals go_wp2
        all_goals (go_ret; exact ⟨rfl, sn.2.2.2⟩)
      · go_wp2_with (first
          | (go_at_call 13; (with_reducible refine (GQ.curve_Root.calls K Z a2 _ R1.out).mono ?_); rintro e w' ⟨rfl, ⟨nd1, rfl⟩⟩)
          | (go_at_call 13; (with_reducible refine (GQ.curve_Root.calls K (Z - 1) (a2 - 1) _ R2.out).mono ?_); rintro e w' ⟨rfl, ⟨nd2, rfl⟩⟩)
          | (go_at_call 13; (with_reducible refine (GQ.curve_Root.calls K (Z + 2 * a2) a2 _ R3.out).mono ?_); rintro e w' ⟨rfl, ⟨nd3, rfl⟩⟩)
          | (go_at_call 8; refine (GAwake.tillerlaw02_awake.calls true _ rfl).mono ?_; rintro e w5 ⟨rfl, hb5⟩))
        all_goals (go_ret; exact ⟨rfl, below_step (pw_below_drewN (below_alloc hb1 _) _) hb5⟩)
    · by_cases dx : -1310720 ≤ a0 ∧ a0 ≤ 0
      · obtain ⟨dx0, dx1⟩ := dx
        obtain ⟨p, s, C, D, E, F, P, hp, hs, p0, p1, s0, s1, hC, hD, C0, C1, D0, D1, hE, hF, hP, hPE, hFP, P0, P1b, E0, E1, F0, F1⟩ := pow_between a0 dx0 dx1
        rw [hP] at P1
        have ip := fun b => GCurve.idx_steps b p p0 (by omega)
        have iq := fun b => GCurve.idx_steps b (p + 1) (by omega) (by omega)
        have kp : ∀ W : World, W.heap[w1.heap.size]? = some (.cells stepsA 25 (0, 0)) → W.cell? ⟨w1.heap.size, p.toNat, none⟩ = some (.int .i32 C) := fun W h => by rw [← hC]; exact cellAt h p p0 (by omega)
        have kq : ∀ W : World, W.heap[w1.heap.size]? = some (.cells stepsA 25 (0, 0)) → W.cell? ⟨w1.heap.size, (p + 1).toNat, none⟩ = some (.int .i32 D) := fun W h => by rw [← hD]; exact cellAt h (p + 1) (by omega) (by omega)
        clear hC hD hP
        obtain ⟨N, hN⟩ : ∃ N, -a0 / 1024 = N := ⟨_, rfl⟩
        have N0 : 0 ≤ N := by omega
        have N1 : N ≤ 1280 := by omega
        have e1 : wrap64 (-(Int.tdiv a0 1024)) = N := by rw [← Int.neg_tdiv, Int.tdiv_eq_ediv_of_nonneg (by omega), hN]; unfold wrap64; omega
        rw [hN] at hp hs
        have e2 : Int.tmod N 64 = p := by rw [Int.tmod_eq_emod_of_nonneg N0, hp]
        have e3 : wrap64 (Int.tdiv N 64) = s := by rw [Int.tdiv_eq_ediv_of_nonneg N0, hs]; unfold wrap64; omega
        clear hp hN
        have wC : IntKind.i64.wrap C = C := by rw [IntKind.wrap_i64]; omega
        have wD : IntKind.i64.wrap D = D := by rw [IntKind.wrap_i64]; omega
        have wP : IntKind.i64.wrap P = P := by rw [IntKind.wrap_i64]; omega
        have wp : IntKind.i64.wrap (p + 1) = p + 1 := by rw [IntKind.wrap_i64]; omega
        have fPE : decide (P ≤ E) = true := decide_eq_true hPE
        have fFP : decide (F ≤ P) = true := decide_eq_true hFP
        have fFP' : decide (P ≥ F) = true := decide_eq_true hFP
        have kp := Aside0.mk kp
        have kq := Aside0.mk kq
        have HB0 := below_alloc hb1 (.cells stepsA 25 (0, 0))
        have sn0 := fun n => And.intro (kp.out _ (bkN hB n)) (And.intro (kq.out _ (bkN hB n)) (And.intro (bkN hB n) (bwN HB0 n)))
        have sn0d := fun n => And.intro (kp.out _ (bkD (bkN hB n))) (And.intro (kq.out _ (bkD (bkN hB n))) (And.intro (bkD (bkN hB n)) (bwD (bwN HB0 n))))
        go_wp2_with (first
          | (go_at_call 13; (with_reducible refine (GQ.curve_Root.calls K Z a2 _ R1.out).mono ?_); rintro e w' ⟨rfl, ⟨nd1, rfl⟩⟩)
          | (go_at_call 13; (with_reducible refine (GQ.curve_Root.calls K (Z + 2 * a2) a2 _ R3.out).mono ?_); rintro e w' ⟨rfl, ⟨nd3, rfl⟩⟩))
        go_region_held3 (fun W => W.cell? ⟨w1.heap.size, p.toNat, none⟩ = some (.int .i32 C) ∧ W.cell? ⟨w1.heap.size, (p + 1).toNat, none⟩ = some (.int .i32 D) ∧ W.heap[w1.heap.size]? = some (.cells stepsA 25 (0, 0)) ∧ Below w.heap.size w W)
          (first | exact sn | exact sn0 _ | exact sn0d _)
          (first
          | go_loud (go_at_call 8; refine (GAwake.tillerlaw02_awake.calls true _ rfl).mono ?_; rintro e wc ⟨rfl, hbc⟩; have sn := keptS (w := w) kp.out kq.out hbc (by assumption); clear hbc)
          | (go_at_call 9; refine (curve_Pow.calls a0 P _ P1.out).mono ?_; rintro e wc ⟨rfl, hbc⟩; have sn := keptS (w := w) kp.out kq.out hbc (by assumption); clear hbc))
        all_goals go_wp2
        all_goals (go_ret; exact ⟨rfl, sn.2.2.2⟩)
      · go_wp2_with (first
          | (go_at_call 13; (with_reducible refine (GQ.curve_Root.calls K Z a2 _ R1.out).mono ?_); rintro e w' ⟨rfl, ⟨nd1, rfl⟩⟩)
          | (go_at_call 13; (with_reducible refine (GQ.curve_Root.calls K (Z + 2 * a2) a2 _ R3.out).mono ?_); rintro e w' ⟨rfl, ⟨nd3, rfl⟩⟩)
          | (go_at_call 8; refine (GAwake.tillerlaw02_awake.calls true _ rfl).mono ?_; rintro e w5 ⟨rfl, hb5⟩))
        all_goals (go_ret; exact ⟨rfl, below_step (pw_below_drewN (below_alloc hb1 _) _) hb5⟩)
end Go.Proofs.Ytidmffdeeopgcaa.GStepsLaw
