/- (*Router).Get, walked by hand. Written by this session's program rget.py. -/
import Derived.Test.YthihgiaflbaigaaGQx2
import Derived.Test.YthihgiaflbaigaaOROpen
set_option linter.unusedVariables false
set_option linter.unusedSimpArgs false
namespace Go.Proofs.Ythihgiaflbaigaa.ORouter
open Go.RowKit Go.Proofs.YthihgiaflbaigaaW.PrintWords Go.Proofs.YthihgiaflbaigaaW.PrintLast Go.Proofs.YthihgiaflbaigaaW.PrintMore Go.Proofs.Ythihgiaflbaigaa.GQ Go.Proofs.Ythihgiaflbaigaa.OMap Go.Proofs.Ythihgiaflbaigaa.UTrie Go.Proofs.Ythihgiaflbaigaa.OTrie
theorem SlAt.le {W : World} {ok : Nat → Prop} {s : SL} {l : List Int} (h : SlAt W ok s l) : l.length ≤ s.2.2 := h.2.1
theorem SlAt.f {W : World} {ok : Nat → Prop} {s : SL} {l : List Int} (h : SlAt W ok s l) : Kd.F kI W ok s.1 l.length l := h.2.2
theorem put9 {W : World} {B b : Nat} {t : TypeId} {u0 u1 u2 u3 u4 u5 u6 u7 u8 : Value} (e : W.heap[B]? = some (.cells #[u0, u1, u2, u3, u4, u5, u6, u7, u8] t (0, 0))) {W0 : World} (hb : Below b W0 W) (hB : b ≤ B) (v0 v1 v2 v3 v4 v5 v6 v7 v8 : Value) : (((((((((W.setCell ⟨B, 0, none⟩ v0).setCell ⟨B, 1, none⟩ v1).setCell ⟨B, 2, none⟩ v2).setCell ⟨B, 3, none⟩ v3).setCell ⟨B, 4, none⟩ v4).setCell ⟨B, 5, none⟩ v5).setCell ⟨B, 6, none⟩ v6).setCell ⟨B, 7, none⟩ v7).setCell ⟨B, 8, none⟩ v8).heap[B]? = some (.cells #[v0, v1, v2, v3, v4, v5, v6, v7, v8] t (0, 0)) ∧ Below b W0 (((((((((W.setCell ⟨B, 0, none⟩ v0).setCell ⟨B, 1, none⟩ v1).setCell ⟨B, 2, none⟩ v2).setCell ⟨B, 3, none⟩ v3).setCell ⟨B, 4, none⟩ v4).setCell ⟨B, 5, none⟩ v5).setCell ⟨B, 6, none⟩ v6).setCell ⟨B, 7, none⟩ v7).setCell ⟨B, 8, none⟩ v8) := by
  have h := (blk_set (blk_set (blk_set (blk_set (blk_set (blk_set (blk_set (blk_set (blk_set e 0 v0) 1 v1) 2 v2) 3 v3) 4 v4) 5 v5) 6 v6) 7 v7) 8 v8)
  exact ⟨by simpa using h, (((((((((hb.setCell (p := ⟨B, 0, none⟩) hB v0).setCell (p := ⟨B, 1, none⟩) hB v1).setCell (p := ⟨B, 2, none⟩) hB v2).setCell (p := ⟨B, 3, none⟩) hB v3).setCell (p := ⟨B, 4, none⟩) hB v4).setCell (p := ⟨B, 5, none⟩) hB v5).setCell (p := ⟨B, 6, none⟩) hB v6).setCell (p := ⟨B, 7, none⟩) hB v7).setCell (p := ⟨B, 8, none⟩) hB v8)⟩
/-- What Get says of a request that there is. -/
def Told (w w' : World) (i : Int) (e : PE) (en : Ending) : Prop :=
  ∃ mid A1 c1 A2 c2, en = .returned (.tuple #[.agg #[.int .i64 i, .int .i64 e.tr, .int .i64 e.pf, .int .i64 e.dc, .slice A1 e.prompt.length c1, .int .i64 e.most, .int .i64 e.at_, .int .i64 e.en, .slice A2 e.ans.length c2], .bool true]) ∧ kI.R 3 w' w.heap.size (fun k => k < mid) (.slice A1 e.prompt.length c1) e.prompt ∧ kI.R 3 w' w.heap.size (fun k => mid ≤ k) (.slice A2 e.ans.length c2) e.ans
set_option maxHeartbeats 8000000 in
set_option maxRecDepth 100000 in
theorem get_no (g lo : Nat) (S : RX) (L : Lo) (i : Int) (w : World) (h : RT w g lo S L) (hi : i < 0 ∨ (S.es.length : Int) ≤ i) :
    Calls Try.prog 13 #[.pointer (some ⟨g, 0, none⟩), .int .i64 i] w fun e w' => e = .returned (.tuple #[.agg #[.int .i64 0, .int .i64 0, .int .i64 0, .int .i64 0, .slice none 0 0, .int .i64 0, .int .i64 0, .int .i64 0, .slice none 0 0], .bool false]) ∧ Below w.heap.size w w' := by
  have b1 := below_alloc (Below.refl w.heap.size w) (.cells #[.int .i64 0, .int .i64 0, .int .i64 0, .int .i64 0, .slice none 0 0, .int .i64 0, .int .i64 0, .int .i64 0, .slice none 0 0] 40 (0, 0))
  have E1 := Aside0.mk (blk_new w (.cells #[.int .i64 0, .int .i64 0, .int .i64 0, .int .i64 0, .slice none 0 0, .int .i64 0, .int .i64 0, .int .i64 0, .slice none 0 0] 40 (0, 0)))
  have R1 := Aside0.mk (h.below b1)
  have B1 := Aside0.mk b1
  rw [← h.len] at hi
  obtain ⟨w1, hw1⟩ : ∃ w1, w1 = w.alloc (.cells #[.int .i64 0, .int .i64 0, .int .i64 0, .int .i64 0, .slice none 0 0, .int .i64 0, .int .i64 0, .int .i64 0, .slice none 0 0] 40 (0, 0)) := ⟨_, rfl⟩
  rw [← hw1] at E1 R1 B1
  clear h b1
  go_enter Try.func13, Try.ntmps13
  go_upto_region 1 with (fail)
  rw [← hw1]
  clear hw1
  have x17 := (R1.out.box.cell 17 rfl).1
  rcases (show decide (i < 0) = true ∨ (decide (i < 0) = false ∧ decide ((L.ms.length : Int) ≤ i) = true) from by
    by_cases q : i < 0
    · exact .inl (decide_eq_true q)
    · exact .inr ⟨decide_eq_false q, decide_eq_true (by omega)⟩) with e1 | ⟨e1, e2⟩
  all_goals (
    have x0 := blk_cell E1.out 0
    have z0 := blk_frozen E1.out 0
    have x1 := blk_cell E1.out 1
    have z1 := blk_frozen E1.out 1
    have x2 := blk_cell E1.out 2
    have z2 := blk_frozen E1.out 2
    have x3 := blk_cell E1.out 3
    have z3 := blk_frozen E1.out 3
    have x4 := blk_cell E1.out 4
    have z4 := blk_frozen E1.out 4
    have x5 := blk_cell E1.out 5
    have z5 := blk_frozen E1.out 5
    have x6 := blk_cell E1.out 6
    have z6 := blk_frozen E1.out 6
    have x7 := blk_cell E1.out 7
    have z7 := blk_frozen E1.out 7
    have x8 := blk_cell E1.out 8
    have z8 := blk_frozen E1.out 8
    simp at x0 x1 x2 x3 x4 x5 x6 x7 x8
    have Q9 := Aside0.mk (put9 E1.out B1.out (Nat.le_refl _) (.int .i64 0) (.int .i64 0) (.int .i64 0) (.int .i64 0) (.slice none 0 0) (.int .i64 0) (.int .i64 0) (.int .i64 0) (.slice none 0 0))
    go_wp2
    refine bodyPost_ret (results_ct rfl _ _ w.heap.size 40 #[.int .i64 0, .int .i64 0, .int .i64 0, .int .i64 0, .slice none 0 0, .int .i64 0, .int .i64 0, .int .i64 0, .slice none 0 0] (0, 0) _ rfl Q9.out.1 Try.underlying40 rfl (by kernel_rfl)) rfl ?_
    exact ⟨rfl, Q9.out.2⟩)
set_option maxHeartbeats 8000000 in
set_option maxRecDepth 100000 in
theorem get_yes (g lo : Nat) (S : RX) (L : Lo) (i : Nat) (w : World) (h : RT w g lo S L) (hi : i < S.es.length) (hn : S.es.length ≤ 1048576) (hp : (S.es.getD i zP).prompt.length ≤ 1000) (ha : (S.es.getD i zP).ans.length ≤ 1000) :
    Calls Try.prog 13 #[.pointer (some ⟨g, 0, none⟩), .int .i64 i] w fun e w' => Told w w' i (S.es.getD i zP) e ∧ Below w.heap.size w w' := by
  have b1 := below_alloc (Below.refl w.heap.size w) (.cells #[.int .i64 0, .int .i64 0, .int .i64 0, .int .i64 0, .slice none 0 0, .int .i64 0, .int .i64 0, .int .i64 0, .slice none 0 0] 40 (0, 0))
  have E1 := Aside0.mk (blk_new w (.cells #[.int .i64 0, .int .i64 0, .int .i64 0, .int .i64 0, .slice none 0 0, .int .i64 0, .int .i64 0, .int .i64 0, .slice none 0 0] 40 (0, 0)))
  have R1 := Aside0.mk (h.below b1)
  have B1 := Aside0.mk b1
  have EN := Aside0.mk ((h.below b1).inn i hi)
  rw [← h.len] at hi hn
  obtain ⟨e, he⟩ : ∃ e, S.es.getD i zP = e := ⟨_, rfl⟩
  rw [he] at hp ha EN ⊢
  obtain ⟨m, hm⟩ : ∃ m, L.ms.getD i zM = m := ⟨_, rfl⟩
  rw [hm] at EN
  obtain ⟨n, hnn⟩ : ∃ n, L.ms.length = n := ⟨_, rfl⟩
  obtain ⟨AE, hAE⟩ : ∃ AE, L.AE = AE := ⟨_, rfl⟩
  rw [hnn] at hi hn
  have HP := Aside0.mk (And.intro hp ha)
  have x17 := (R1.out.box.cell 17 rfl).1
  have HC := R1.out.entC
  rw [hnn, hAE] at x17 HC
  obtain ⟨ad, hA, y0, y1, y2, y3, y4, y5, y6, y7, y8⟩ := at_E HC (i : Int) (by omega) (by omega)
  subst hA
  rw [Int.toNat_natCast, rdE_nat, hm] at y0 y1 y2 y3 y4 y5 y6 y7 y8
  unfold SL.v at y4 y8
  obtain ⟨w1, hw1⟩ : ∃ w1, w1 = w.alloc (.cells #[.int .i64 0, .int .i64 0, .int .i64 0, .int .i64 0, .slice none 0 0, .int .i64 0, .int .i64 0, .int .i64 0, .slice none 0 0] 40 (0, 0)) := ⟨_, rfl⟩
  obtain ⟨B, hB⟩ : ∃ B, w.heap.size = B := ⟨_, rfl⟩
  rw [← hw1] at E1 R1 B1 EN x17 y0 y1 y2 y3 y4 y5 y6 y7 y8
  rw [hB] at E1 B1
  have HB := Aside0.mk hB
  clear h b1 hp ha he hm hnn hAE HC hB
  go_enter Try.func13, Try.ntmps13
  go_upto_region 1 with (fail)
  rw [← hw1, HB.out]
  clear hw1
  have e1 : decide ((i : Int) < 0) = false := decide_eq_false (by omega)
  have e2 : decide ((n : Int) ≤ (i : Int)) = false := decide_eq_false (by omega)
  have e3 : decide (n ≤ i) = false := decide_eq_false (by omega)
  have e4 : ¬ n ≤ i := by omega
  go_upto_region 4 with (fail)
  have b2 := below_alloc (Below.refl w1.heap.size w1) (.cells #[.int .i64 m.req, .int .i64 m.tr, .int .i64 m.pf, .int .i64 m.dc, .slice m.pr.1 m.pr.2.1 m.pr.2.2, .int .i64 m.most, .int .i64 m.at_, .int .i64 m.en, .slice m.an.1 m.an.2.1 m.an.2.2] 40 (0, 0))
  have E6 := Aside0.mk (blk_new w1 (.cells #[.int .i64 m.req, .int .i64 m.tr, .int .i64 m.pf, .int .i64 m.dc, .slice m.pr.1 m.pr.2.1 m.pr.2.2, .int .i64 m.most, .int .i64 m.at_, .int .i64 m.en, .slice m.an.1 m.an.2.1 m.an.2.2] 40 (0, 0)))
  have E4 := Aside0.mk (blk_below E1.out b2)
  have EN2 := Aside0.mk (show SlAt (w1.alloc (.cells #[.int .i64 m.req, .int .i64 m.tr, .int .i64 m.pf, .int .i64 m.dc, .slice m.pr.1 m.pr.2.1 m.pr.2.2, .int .i64 m.most, .int .i64 m.at_, .int .i64 m.en, .slice m.an.1 m.an.2.1 m.an.2.2] 40 (0, 0))) L.I m.pr e.prompt ∧ SlAt (w1.alloc (.cells #[.int .i64 m.req, .int .i64 m.tr, .int .i64 m.pf, .int .i64 m.dc, .slice m.pr.1 m.pr.2.1 m.pr.2.2, .int .i64 m.most, .int .i64 m.at_, .int .i64 m.en, .slice m.an.1 m.an.2.1 m.an.2.2] 40 (0, 0))) L.I m.an e.ans from ⟨EN.out.pr.kept (fun f => Kd.F_below f b2), EN.out.an.kept (fun f => Kd.F_below f b2)⟩)
  have B2 := Aside0.mk (show Below B w (w1.alloc (.cells #[.int .i64 m.req, .int .i64 m.tr, .int .i64 m.pf, .int .i64 m.dc, .slice m.pr.1 m.pr.2.1 m.pr.2.2, .int .i64 m.most, .int .i64 m.at_, .int .i64 m.en, .slice m.an.1 m.an.2.1 m.an.2.2] 40 (0, 0))) from B1.out.trans (b2.mono (by have := B1.out.size; rw [HB.out] at this; exact this)))
  have N6 := Aside0.mk (show B ≠ w1.heap.size ∧ B ≤ w1.heap.size from ⟨Nat.ne_of_lt (blk_lt E1.out), Nat.le_of_lt (blk_lt E1.out)⟩)
  clear b2 y0 y1 y2 y3 y4 y5 y6 y7 y8 x17 E1 R1 B1 e1 e2 e3 e4
  generalize w1.alloc (.cells #[.int .i64 m.req, .int .i64 m.tr, .int .i64 m.pf, .int .i64 m.dc, .slice m.pr.1 m.pr.2.1 m.pr.2.2, .int .i64 m.most, .int .i64 m.at_, .int .i64 m.en, .slice m.an.1 m.an.2.1 m.an.2.2] 40 (0, 0)) = w2 at E6 E4 EN2 B2 ⊢
  generalize w1.heap.size = G at E6 N6 ⊢
  have p1 := EN2.out.1.1
  have p2 := EN2.out.2.1
  have x4 := blk_cell E6.out 4
  have x8 := blk_cell E6.out 8
  simp at x4 x8
  rw [p1] at x4
  rw [p2] at x8
  have BD := Aside0.mk (show Below w2.heap.size w2 w2.drew from (Below.refl _ _).drew)
  have KP := Aside0.mk (show ∀ W, Below w2.heap.size w2 W → (W.cell? ⟨G, 4, none⟩ = some (.slice m.pr.1 e.prompt.length m.pr.2.2) ∧ W.cell? ⟨G, 8, none⟩ = some (.slice m.an.1 e.ans.length m.an.2.2)) from fun W hb => ⟨pw_cell_below hb x4, pw_cell_below hb x8⟩)
  clear x4 x8 p1 p2
  refine start_ (n := 10) (S := fun w' => w'.cell? ⟨G, 4, none⟩ = some (.slice m.pr.1 e.prompt.length m.pr.2.2) ∧ w'.cell? ⟨G, 8, none⟩ = some (.slice m.an.1 e.ans.length m.an.2.2)) (ds := [7, 9]) #[false, false, false, false, false, false, false, false, false, false] (by kernel_rfl) rfl rfl ⟨(KP.out _ BD.out).1, (KP.out _ BD.out).2⟩ (fun hHeld => ?_)
  refine pure_ (i := 0) (N := some 26) (v := ?_) (a' := ?_) #[true, false, false, false, false, false, false, false, false, false] rfl rfl (by kernel_rfl) (fun _ _ _ h => h) (Or.inl ⟨by rfl, ?_⟩) ?_ ?_
  rotate_left
  · intro w'
    go_simp
    with_reducible rfl
  rotate_left
  · simp only [Act.put, List.setIfInBounds_toArray, List.set_cons_zero, List.set_cons_succ, i64_w, i32_w]
    rfl
  refine pure_ (i := 3) (N := some 29) (v := ?_) (a' := ?_) #[true, false, false, true, false, false, false, false, false, false] rfl rfl (by kernel_rfl) (fun _ _ _ h => h) (Or.inl ⟨by rfl, ?_⟩) ?_ ?_
  rotate_left
  · intro w'
    go_simp
    with_reducible rfl
  rotate_left
  · simp only [Act.put, List.setIfInBounds_toArray, List.set_cons_zero, List.set_cons_succ, i64_w, i32_w]
    rfl
  refine take_ (i := 1) (N := some 27) (v := ?_) (a' := ?_) #[true, true, false, true, false, false, false, false, false, false] rfl rfl (by kernel_rfl) (fun _ _ _ h => h) (Or.inl ⟨by rfl, ?_⟩) hHeld ?_ ?_
  rotate_left
  · rintro w' ⟨s0, s1⟩
    go_simp
    with_reducible rfl
  rotate_left
  · simp only [Act.put, List.setIfInBounds_toArray, List.set_cons_zero, List.set_cons_succ, i64_w, i32_w]
    rfl
  refine take_ (i := 4) (N := some 30) (v := ?_) (a' := ?_) #[true, true, false, true, true, false, false, false, false, false] rfl rfl (by kernel_rfl) (fun _ _ _ h => h) (Or.inl ⟨by rfl, ?_⟩) hHeld ?_ ?_
  rotate_left
  · rintro w' ⟨s0, s1⟩
    go_simp
    with_reducible rfl
  rotate_left
  · simp only [Act.put, List.setIfInBounds_toArray, List.set_cons_zero, List.set_cons_succ, i64_w, i32_w]
    rfl
  refine one_ (i := 2) (N := some 28) #[true, true, true, true, true, false, false, false, false, false] rfl rfl (by kernel_rfl) (by decide) (fun K hK => ?_)
  refine goes_ Try.func30 (by kernel_rfl) rfl #[.slice m.pr.1 e.prompt.length m.pr.2.2] (by rfl) rfl rfl (by simp only [List.map_toArray, List.map_cons, List.map_nil]; rfl) ?_
  with_reducible refine (slices_Clone_int_int.calls m.pr.1 m.pr.2.2 e.prompt e.prompt _ (Kd.F_now (Kd.F_below EN2.out.1.f BD.out)) EN2.out.1.le (clone_eq e.prompt (by have := HP.out.1; omega))).mono ?_
  rintro en w3 ⟨v0, rfl, hr, hb⟩
  refine ⟨_, rfl, ?_⟩
  obtain ⟨A1, c1, rfl⟩ := Kd.R_slice hr
  have B3 := Aside0.mk (show Below w2.heap.size w2 w3 from BD.out.trans hb)
  have R3 := Aside0.mk (show Kd.R kI 3 w3 w2.drew.heap.size (fun _ => True) (.slice A1 e.prompt.length c1) e.prompt from hr)
  clear hr hb
  refine hK.out _ _ ⟨(KP.out _ B3.out).1, (KP.out _ B3.out).2⟩ (fun hHeld => ?_)
  clear hK K
  refine norm_ (a' := ?_) ?_ ?_
  rotate_left
  · show Act.put _ (some 28) _ = _
    simp only [Act.put, List.setIfInBounds_toArray, List.set_cons_zero, List.set_cons_succ, i64_w, i32_w]
    rfl
  refine pure_ (i := 6) (N := some 32) (v := ?_) (a' := ?_) #[true, true, true, true, true, false, true, false, false, false] rfl rfl (by kernel_rfl) (fun _ _ _ h => h) (Or.inl ⟨by rfl, ?_⟩) ?_ ?_
  rotate_left
  · intro w'
    go_simp
    with_reducible rfl
  rotate_left
  · simp only [Act.put, List.setIfInBounds_toArray, List.set_cons_zero, List.set_cons_succ, i64_w, i32_w]
    rfl
  refine one_ (i := 5) (N := some 31) #[true, true, true, true, true, true, true, false, false, false] rfl rfl (by kernel_rfl) (by decide) (fun K hK => ?_)
  refine goes_ Try.func30 (by kernel_rfl) rfl #[.slice m.an.1 e.ans.length m.an.2.2] (by rfl) rfl rfl (by simp only [List.map_toArray, List.map_cons, List.map_nil]; rfl) ?_
  with_reducible refine (slices_Clone_int_int.calls m.an.1 m.an.2.2 e.ans e.ans _ (Kd.F_now (Kd.F_below EN2.out.2.f B3.out)) EN2.out.2.le (clone_eq e.ans (by have := HP.out.2; omega))).mono ?_
  rintro en w4 ⟨v0, rfl, hr, hb⟩
  refine ⟨_, rfl, ?_⟩
  obtain ⟨A2, c2, rfl⟩ := Kd.R_slice hr
  have B4 := Aside0.mk (below_step B3.out hb)
  have R4 := Aside0.mk (show Kd.R kI 3 w4 w3.heap.size (fun _ => True) (.slice A2 e.ans.length c2) e.ans from hr)
  have R5 := Aside0.mk (Kd.R_below (Kd.R_mono (ok' := fun k => w2.heap.size ≤ k ∧ k < w3.heap.size) (Kd.R_bound R3.out) (fun k z => ⟨z.2.1, z.2.2.1⟩)) hb)
  have E7 := Aside0.mk (blk_below E6.out B4.out)
  have z4 := blk_frozen E7.out 4
  have z8 := blk_frozen E7.out 8
  clear hr hb
  refine hK.out _ _ ⟨(KP.out _ B4.out).1, (KP.out _ B4.out).2⟩ (fun hHeld => ?_)
  clear hK K
  refine norm_ (a' := ?_) ?_ ?_
  rotate_left
  · show Act.put _ (some 31) _ = _
    simp only [Act.put, List.setIfInBounds_toArray, List.set_cons_zero, List.set_cons_succ, i64_w, i32_w]
    rfl
  refine last_ (i := 7) (N := none) #[true, true, true, true, true, true, true, true, false, false] rfl rfl (by kernel_rfl) (by decide) (fun K hK => ?_)
  have x4 := (KP.out _ B4.out).1
  have x8 := (KP.out _ B4.out).2
  refine skip_ (w1 := ?_) (by rfl) rfl ?_ ?_
  rotate_left
  · go_simp
    rfl
  refine hK.out _ _ ?_
  clear hK K
  refine pure_ (i := 8) (N := some 33) (v := ?_) (a' := ?_) #[true, true, true, true, true, true, true, true, true, false] rfl rfl (by kernel_rfl) (fun _ _ _ h => h) (Or.inl ⟨by rfl, ?_⟩) ?_ ?_
  rotate_left
  · intro w'
    go_simp
    with_reducible rfl
  rotate_left
  · simp only [Act.put, List.setIfInBounds_toArray, List.set_cons_zero, List.set_cons_succ, i64_w, i32_w]
    rfl
  refine last_ (i := 9) (N := none) #[true, true, true, true, true, true, true, true, true, true] rfl rfl (by kernel_rfl) (by decide) (fun K hK => ?_)
  refine skip_ (w1 := ?_) (by rfl) rfl ?_ ?_
  rotate_left
  · go_simp
    rfl
  refine hK.out _ _ ?_
  clear hK K
  refine done_ (by kernel_rfl) ?_
  go_upto_region 5 with (fail)
  have E8 := Aside0.mk (blk_set (blk_set E7.out 4 (.slice A1 e.prompt.length c1)) 8 (.slice A2 e.ans.length c2))
  have B8 := Aside0.mk (((B2.out.trans (B4.out.mono (by have := blk_lt E4.out; omega))).setCell (p := ⟨G, 4, none⟩) N6.out.2 (.slice A1 e.prompt.length c1)).setCell (p := ⟨G, 8, none⟩) N6.out.2 (.slice A2 e.ans.length c2))
  have E9 := Aside0.mk (show ((w4.setCell ⟨G, 4, none⟩ (.slice A1 e.prompt.length c1)).setCell ⟨G, 8, none⟩ (.slice A2 e.ans.length c2)).heap[B]? = some (.cells #[.int .i64 0, .int .i64 0, .int .i64 0, .int .i64 0, .slice none 0 0, .int .i64 0, .int .i64 0, .int .i64 0, .slice none 0 0] 40 (0, 0)) from by rw [Below.heap_setCell _ _ _ _ N6.out.1, Below.heap_setCell _ _ _ _ N6.out.1]; exact blk_below E4.out B4.out)
  have far : ∀ {b : Nat} {ok : Nat → Prop} {v : Value} {xs : List Int}, w2.heap.size ≤ b → (∀ k, ok k → w2.heap.size ≤ k) → kI.R 3 w4 b ok v xs → kI.R 3 ((w4.setCell ⟨G, 4, none⟩ (.slice A1 e.prompt.length c1)).setCell ⟨G, 8, none⟩ (.slice A2 e.ans.length c2)) w2.heap.size ok v xs := fun hb hk h => by
    have hl := blk_lt E6.out
    exact Kd.R_far (p := ⟨G, 8, none⟩) (Kd.R_far (p := ⟨G, 4, none⟩) (Kd.R_lower (base' := w2.heap.size) h hb) (fun k q => by have := hk k q; show k ≠ G; omega) _) (fun k q => by have := hk k q; show k ≠ G; omega) _
  have R6 := Aside0.mk (far (Nat.le_refl _) (fun k z => z.1) R5.out)
  have R7 := Aside0.mk (far B3.out.size (ok := fun k => w3.heap.size ≤ k) (fun k z => Nat.le_trans B3.out.size z) (Kd.R_mono (Kd.R_bound R4.out) (fun k z => z.2.1)))
  have S3 := Aside0.mk B3.out.size
  simp at E8
  generalize (w4.setCell ⟨G, 4, none⟩ (.slice A1 e.prompt.length c1)).setCell ⟨G, 8, none⟩ (.slice A2 e.ans.length c2) = w5 at E8 B8 E9 R6 R7 ⊢
  have Q9 := Aside0.mk (put9 E9.out B8.out (Nat.le_refl _) (.int .i64 m.req) (.int .i64 m.tr) (.int .i64 m.pf) (.int .i64 m.dc) (.slice A1 e.prompt.length c1) (.int .i64 m.most) (.int .i64 m.at_) (.int .i64 m.en) (.slice A2 e.ans.length c2))
  have SB := Aside0.mk (show B < w2.heap.size from blk_lt E4.out)
  clear KP BD B3 B4 R3 R4 R5 E7 z4 z8 hHeld far
  have y0 := blk_cell E8.out 0
  have x0 := blk_cell E9.out 0
  have z0 := blk_frozen E9.out 0
  have y1 := blk_cell E8.out 1
  have x1 := blk_cell E9.out 1
  have z1 := blk_frozen E9.out 1
  have y2 := blk_cell E8.out 2
  have x2 := blk_cell E9.out 2
  have z2 := blk_frozen E9.out 2
  have y3 := blk_cell E8.out 3
  have x3 := blk_cell E9.out 3
  have z3 := blk_frozen E9.out 3
  have y4 := blk_cell E8.out 4
  have x4 := blk_cell E9.out 4
  have z4 := blk_frozen E9.out 4
  have y5 := blk_cell E8.out 5
  have x5 := blk_cell E9.out 5
  have z5 := blk_frozen E9.out 5
  have y6 := blk_cell E8.out 6
  have x6 := blk_cell E9.out 6
  have z6 := blk_frozen E9.out 6
  have y7 := blk_cell E8.out 7
  have x7 := blk_cell E9.out 7
  have z7 := blk_frozen E9.out 7
  have y8 := blk_cell E8.out 8
  have x8 := blk_cell E9.out 8
  have z8 := blk_frozen E9.out 8
  simp at y0 y1 y2 y3 y4 y5 y6 y7 y8 x0 x1 x2 x3 x4 x5 x6 x7 x8
  have n6 : ¬ G = B := fun q => N6.out.1 q.symm
  go_wp2
  refine bodyPost_ret (results_ct rfl _ _ B 40 #[.int .i64 m.req, .int .i64 m.tr, .int .i64 m.pf, .int .i64 m.dc, .slice A1 e.prompt.length c1, .int .i64 m.most, .int .i64 m.at_, .int .i64 m.en, .slice A2 e.ans.length c2] (0, 0) _ rfl Q9.out.1 Try.underlying40 rfl (by kernel_rfl)) rfl ?_
  have fin : ∀ {ok ok' : Nat → Prop} {v : Value} {xs : List Int}, (∀ k, ok k → w2.heap.size ≤ k) → (∀ k, ok k → ok' k) → kI.R 3 w5 w2.heap.size ok v xs → kI.R 3 (((((((((w5.setCell ⟨B, 0, none⟩ (.int .i64 m.req)).setCell ⟨B, 1, none⟩ (.int .i64 m.tr)).setCell ⟨B, 2, none⟩ (.int .i64 m.pf)).setCell ⟨B, 3, none⟩ (.int .i64 m.dc)).setCell ⟨B, 4, none⟩ (.slice A1 e.prompt.length c1)).setCell ⟨B, 5, none⟩ (.int .i64 m.most)).setCell ⟨B, 6, none⟩ (.int .i64 m.at_)).setCell ⟨B, 7, none⟩ (.int .i64 m.en)).setCell ⟨B, 8, none⟩ (.slice A2 e.ans.length c2)) w.heap.size ok' v xs := fun hk ho h => by
    have hsb := SB.out
    have hb := HB.out
    have n : ∀ k, _ → k ≠ B := fun k q => by have := hk k q; omega
    exact Kd.R_lower (Kd.R_mono ((Kd.R_far (p := ⟨B, 8, none⟩) (Kd.R_far (p := ⟨B, 7, none⟩) (Kd.R_far (p := ⟨B, 6, none⟩) (Kd.R_far (p := ⟨B, 5, none⟩) (Kd.R_far (p := ⟨B, 4, none⟩) (Kd.R_far (p := ⟨B, 3, none⟩) (Kd.R_far (p := ⟨B, 2, none⟩) (Kd.R_far (p := ⟨B, 1, none⟩) (Kd.R_far (p := ⟨B, 0, none⟩) h n _) n _) n _) n _) n _) n _) n _) n _) n _)) ho) (by omega)
  refine ⟨⟨w3.heap.size, A1, c1, A2, c2, ?_, fin (fun k z => z.1) (fun k z => z.2) R6.out, fin (fun k z => Nat.le_trans S3.out z) (fun k z => z) R7.out⟩, by rw [HB.out]; exact Q9.out.2⟩
  rw [EN.out.req, EN.out.tr, EN.out.pf, EN.out.dc, EN.out.most, EN.out.at_, EN.out.en]
  rfl
end Go.Proofs.Ythihgiaflbaigaa.ORouter
