/- tiller/tillerlaw06.Told, walked by hand. Written by this session's program gcopy.py. -/
import Derived.Test.YtdlhodbokkaghaaGMod
import Derived.Outline
set_option linter.unusedVariables false
set_option linter.unusedSimpArgs false
namespace Go.Proofs.Ytdlhodbokkaghaa.GQ
open Go.RowKit Go.Proofs.YtdlhodbokkaghaaW.PrintWords Go.Proofs.YtdlhodbokkaghaaW.PrintLast Go.Proofs.YtdlhodbokkaghaaW.PrintMore Go.Proofs.Ytdlhodbokkaghaa.U
def cv_told (b : BK) : BR := ⟨(b.f0.take 100), ⟨b.f1.f0, b.f1.f1, (b.f1.f2.take 2000)⟩, ⟨b.f2.f0, b.f2.f1, (b.f2.f2.take 2000)⟩, ⟨b.f3.f0, b.f3.f1, (b.f3.f2.take 2000)⟩, ⟨b.f4.f0, b.f4.f1, (b.f4.f2.take 2000)⟩, (b.f5.take 100), ⟨b.f6.f0, b.f6.f1, (b.f6.f2.take 2000)⟩, ⟨b.f7.f0, b.f7.f1, (b.f7.f2.take 2000)⟩⟩
set_option maxHeartbeats 16000000 in
set_option maxRecDepth 100000 in
theorem told_calls (r c : Int) (l2 : List Int) (l3 : List BK) (l4 : List Int) (r' c' : Int) (l7 : List Int) (A2 : Option Addr) (c2 : Nat) (A3 : Option Addr) (c3 : Nat) (A4 : Option Addr) (c4 : Nat) (A7 : Option Addr) (c7 : Nat) (w : World)
    (h2 : Kd.C kI w A2 l2.length l2 ∧ l2.length ≤ c2) (h3 : Kd.C kB w A3 l3.length l3 ∧ l3.length ≤ c3) (h4 : Kd.C kI w A4 l4.length l4 ∧ l4.length ≤ c4) (h7 : Kd.C kI w A7 l7.length l7 ∧ l7.length ≤ c7)
    (m3 : l3.length ≤ 4611686018427387904) (n2 : l2.length < 35184372088832) (n4 : l4.length < 35184372088832) (n7 : l7.length < 35184372088832) (n3 : ∀ b ∈ l3, lensB 0 0 b.f0 b.f1.f2 b.f2.f2 b.f3.f2 b.f4.f2 b.f5 b.f6.f2 b.f7.f2) :
    Calls Try.prog 16 #[.agg #[.int .i64 r, .int .i64 c, .slice A2 l2.length c2, .slice A3 l3.length c3, .slice A4 l4.length c4, .int .i64 r', .int .i64 c', .slice A7 l7.length c7]] w fun e w' => ∃ v2 v3 v4 v7 : Value, e = .returned (.agg #[.int .i64 r, .int .i64 c, v2, v3, v4, .int .i64 r', .int .i64 c', v7]) ∧ kI.R NumT w' w.heap.size (fun _ => True) v2 (l2.take 2000) ∧ kR.R 74 w' w.heap.size (fun _ => True) v3 ((l3.take 5).map cv_told) ∧ kI.R NumT w' w.heap.size (fun _ => True) v4 (l4.take 100) ∧ kI.R NumT w' w.heap.size (fun _ => True) v7 (l7.take 2000) ∧ Below w.heap.size w w' := by
  have H2 := Aside0.mk h2
  have H3 := Aside0.mk h3
  have H4 := Aside0.mk h4
  have H7 := Aside0.mk h7
  have M3 := Aside0.mk m3
  have N3 := Aside0.mk n3
  obtain ⟨Z2, hZ2⟩ : ∃ Z, (l2.take 2000) = Z := ⟨_, rfl⟩
  obtain ⟨Z4, hZ4⟩ : ∃ Z, (l4.take 100) = Z := ⟨_, rfl⟩
  obtain ⟨Z7, hZ7⟩ : ∃ Z, (l7.take 2000) = Z := ⟨_, rfl⟩
  rw [hZ2, hZ4, hZ7]
  have E2 := Aside0.mk (show tillerlaw04_Few.f r c l2 = some (r, c, Z2) from (by rw [← hZ2]; exact few4_ok r c l2 n2))
  have E4 := Aside0.mk (show tillerlaw03_Few.f l4 100 = some Z4 from (by rw [← hZ4]; exact few_ok l4 100 n4))
  have E7 := Aside0.mk (show tillerlaw04_Few.f r' c' l7 = some (r', c', Z7) from (by rw [← hZ7]; exact few4_ok r' c' l7 n7))
  clear hZ2 hZ4 hZ7
  have T := Aside0.mk (T0.start (ts := 30) (td := 41) (w := w) (cin := #[.int .i64 r, .int .i64 c, .slice A2 l2.length c2, .slice A3 l3.length c3, .slice A4 l4.length c4, .int .i64 r', .int .i64 c', .slice A7 l7.length c7]))
  clear h2 h3 h4 h7 m3 n2 n4 n7 n3
  go_enter Try.func16, Try.ntmps16
  go_upto_region 1 with fail
  go_cut [3] (fun s3 wx => ∃ (gO n0 : Nat) (v2 v4 v7 : Value), s3 = .pointer (some ⟨gO, 0, none⟩) ∧ Aside0 (Td kR 30 41 74 w wx gO #[.int .i64 r, .int .i64 c, .slice A2 l2.length c2, .slice A3 l3.length c3, .slice A4 l4.length c4, .int .i64 r', .int .i64 c', .slice A7 l7.length c7] #[.int .i64 r, .int .i64 c, v2, .slice none 0 0, v4, .int .i64 r', .int .i64 c', v7] [(v2, Z2), (v4, Z4), (v7, Z7)] n0 (.slice none 0 0) []))
  case first =>
    simp only [Z30] at T
    generalize (w.alloc (.cells #[.int .i64 r, .int .i64 c, .slice A2 l2.length c2, .slice A3 l3.length c3, .slice A4 l4.length c4, .int .i64 r', .int .i64 c', .slice A7 l7.length c7] 30 (0, 0))).alloc (.cells #[.int .i64 0, .int .i64 0, .slice none 0 0, .slice none 0 0, .slice none 0 0, .int .i64 0, .int .i64 0, .slice none 0 0] 41 (0, 0)) = w3 at T ⊢
    refine start_ (n := 12) (S := fun w' => w'.cell? ⟨w.heap.size, 0, none⟩ = some (Value.int .i64 r) ∧ w'.cell? ⟨w.heap.size, 1, none⟩ = some (Value.int .i64 c) ∧ w'.cell? ⟨w.heap.size, 2, none⟩ = some (Value.slice A2 l2.length c2) ∧ w'.cell? ⟨w.heap.size, 3, none⟩ = some (Value.slice A3 l3.length c3) ∧ w'.cell? ⟨w.heap.size, 4, none⟩ = some (Value.slice A4 l4.length c4) ∧ w'.cell? ⟨w.heap.size, 5, none⟩ = some (Value.int .i64 r') ∧ w'.cell? ⟨w.heap.size, 6, none⟩ = some (Value.int .i64 c') ∧ w'.cell? ⟨w.heap.size, 7, none⟩ = some (Value.slice A7 l7.length c7)) (ds := [11]) #[false, false, false, false, false, false, false, false, false, false, false, false] (by kernel_rfl) rfl rfl ((SM8 (T.out.step (Below.refl _ _).drew).a)) (fun hHeld => ?_)
    have T := Aside0.mk (T.out.step (Below.refl _ _).drew)
    generalize w3.drew = w3d at T hHeld ⊢
    refine pure_ (i := 0) (N := some 6) (v := ?_) (a' := ?_) #[true, false, false, false, false, false, false, false, false, false, false, false] rfl rfl (by kernel_rfl) (fun _ _ _ h => h) (Or.inl ⟨by rfl, ?_⟩) ?_ ?_
    rotate_left
    · intro w'
      go_simp
      with_reducible rfl
    rotate_left
    · simp only [Act.put, List.setIfInBounds_toArray, List.set_cons_zero, List.set_cons_succ, i64_w, i32_w]
      rfl
    refine pure_ (i := 3) (N := some 9) (v := ?_) (a' := ?_) #[true, false, false, true, false, false, false, false, false, false, false, false] rfl rfl (by kernel_rfl) (fun _ _ _ h => h) (Or.inl ⟨by rfl, ?_⟩) ?_ ?_
    rotate_left
    · intro w'
      go_simp
      with_reducible rfl
    rotate_left
    · simp only [Act.put, List.setIfInBounds_toArray, List.set_cons_zero, List.set_cons_succ, i64_w, i32_w]
      rfl
    refine pure_ (i := 6) (N := some 12) (v := ?_) (a' := ?_) #[true, false, false, true, false, false, true, false, false, false, false, false] rfl rfl (by kernel_rfl) (fun _ _ _ h => h) (Or.inl ⟨by rfl, ?_⟩) ?_ ?_
    rotate_left
    · intro w'
      go_simp
      with_reducible rfl
    rotate_left
    · simp only [Act.put, List.setIfInBounds_toArray, List.set_cons_zero, List.set_cons_succ, i64_w, i32_w]
      rfl
    refine take_ (i := 1) (N := some 7) (v := ?_) (a' := ?_) #[true, true, false, true, false, false, true, false, false, false, false, false] rfl rfl (by kernel_rfl) (fun _ _ _ h => h) (Or.inl ⟨by rfl, ?_⟩) hHeld ?_ ?_
    rotate_left
    · rintro w' ⟨s0, s1, s2, s3, s4, s5, s6, s7⟩
      go_simp
      with_reducible rfl
    rotate_left
    · simp only [Act.put, List.setIfInBounds_toArray, List.set_cons_zero, List.set_cons_succ, i64_w, i32_w]
      rfl
    refine take_ (i := 4) (N := some 10) (v := ?_) (a' := ?_) #[true, true, false, true, true, false, true, false, false, false, false, false] rfl rfl (by kernel_rfl) (fun _ _ _ h => h) (Or.inl ⟨by rfl, ?_⟩) hHeld ?_ ?_
    rotate_left
    · rintro w' ⟨s0, s1, s2, s3, s4, s5, s6, s7⟩
      go_simp
      with_reducible rfl
    rotate_left
    · simp only [Act.put, List.setIfInBounds_toArray, List.set_cons_zero, List.set_cons_succ, i64_w, i32_w]
      rfl
    refine take_ (i := 7) (N := some 13) (v := ?_) (a' := ?_) #[true, true, false, true, true, false, true, true, false, false, false, false] rfl rfl (by kernel_rfl) (fun _ _ _ h => h) (Or.inl ⟨by rfl, ?_⟩) hHeld ?_ ?_
    rotate_left
    · rintro w' ⟨s0, s1, s2, s3, s4, s5, s6, s7⟩
      go_simp
      with_reducible rfl
    rotate_left
    · simp only [Act.put, List.setIfInBounds_toArray, List.set_cons_zero, List.set_cons_succ, i64_w, i32_w]
      rfl
    refine join_ (σ := Nat × Option Addr × Nat × Option Addr × Nat × Option Addr × Nat) 1 #[true, true, true, true, true, true, true, true, true, true, true, false] (fun s => [(8, .agg #[.int .i64 r, .int .i64 c, .slice s.2.1 Z2.length s.2.2.1]), (11, .slice s.2.2.2.1 Z4.length s.2.2.2.2.1), (14, .agg #[.int .i64 r', .int .i64 c', .slice s.2.2.2.2.2.1 Z7.length s.2.2.2.2.2.2]), (15, .agg #[.int .i64 r, .int .i64 c, .slice s.2.1 Z2.length s.2.2.1, .slice none 0 0, .slice s.2.2.2.1 Z4.length s.2.2.2.2.1, .int .i64 r', .int .i64 c', .slice s.2.2.2.2.2.1 Z7.length s.2.2.2.2.2.2]), (3, .pointer (some ⟨s.1, 0, none⟩))]) (fun s w' => Aside0 (T0 30 41 w w' #[.int .i64 r, .int .i64 c, .slice A2 l2.length c2, .slice A3 l3.length c3, .slice A4 l4.length c4, .int .i64 r', .int .i64 c', .slice A7 l7.length c7] [(.slice s.2.1 Z2.length s.2.2.1, Z2), (.slice s.2.2.2.1 Z4.length s.2.2.2.2.1, Z4), (.slice s.2.2.2.2.2.1 Z7.length s.2.2.2.2.2.2, Z7)]) ∧ Aside0 (w'.heap[s.1]? = some (.cells Z30 41 (0, 0)) ∧ w.heap.size + 2 ≤ s.1)) ?_ ?_
    rotate_left
    · intro hCont
      refine two_ (i := 2) (j := 10) (Ni := some 8) (Nj := some 3) #[true, true, true, true, true, false, true, true, false, false, false, false] #[true, true, false, true, true, false, true, true, false, false, true, false] rfl rfl rfl rfl (by kernel_rfl) (by decide) (by decide) (fun K hK => ?_) (fun K hK => ?_)
      · skip
        refine goes_ Try.func30 (by kernel_rfl) rfl #[.agg #[.int .i64 r, .int .i64 c, .slice A2 l2.length c2]] (by rfl) rfl rfl (by simp only [List.map_toArray, List.map_cons, List.map_nil]; rfl) ?_
        with_reducible refine (tillerlaw04_Few.calls r c A2 c2 l2 r c Z2 _ (Kd.C_below H2.out.1 T.out.bel) H2.out.2 E2.out).mono ?_
        rintro e w4 ⟨v2, rfl, hr, hb⟩
        refine ⟨_, rfl, ?_⟩
        obtain ⟨y2, k2, rfl⟩ := Kd.R_slice hr
        have T := Aside0.mk (T.out.made hb hr)
        clear hr hb
        refine hK.out _ _ ((SM8 T.out.a)) (fun hHeld => ?_)
        clear hK K
        refine norm_ (a' := ?_) ?_ ?_
        rotate_left
        · show Act.put _ (some 8) _ = _
          simp only [Act.put, List.setIfInBounds_toArray, List.set_cons_zero, List.set_cons_succ, i64_w, i32_w]
          rfl
        refine two_ (i := 5) (j := 10) (Ni := some 11) (Nj := some 3) #[true, true, true, true, true, true, true, true, false, false, false, false] #[true, true, true, true, true, false, true, true, false, false, true, false] rfl rfl rfl rfl (by kernel_rfl) (by decide) (by decide) (fun K hK => ?_) (fun K hK => ?_)
        · skip
          refine goes_ Try.func31 (by kernel_rfl) rfl #[.slice A4 l4.length c4, .int .i64 100] (by rfl) rfl rfl (by simp only [List.map_toArray, List.map_cons, List.map_nil]; rfl) ?_
          with_reducible refine (tillerlaw03_Few.calls A4 c4 l4 100 Z4 _ (Kd.C_below H4.out.1 T.out.bel) H4.out.2 E4.out).mono ?_
          rintro e w5 ⟨v4, rfl, hr, hb⟩
          refine ⟨_, rfl, ?_⟩
          obtain ⟨y4, k4, rfl⟩ := Kd.R_slice hr
          have T := Aside0.mk (T.out.made hb hr)
          clear hr hb
          refine hK.out _ _ ((SM8 T.out.a)) (fun hHeld => ?_)
          clear hK K
          refine norm_ (a' := ?_) ?_ ?_
          rotate_left
          · show Act.put _ (some 11) _ = _
            simp only [Act.put, List.setIfInBounds_toArray, List.set_cons_zero, List.set_cons_succ, i64_w, i32_w]
            rfl
          refine two_ (i := 8) (j := 10) (Ni := some 14) (Nj := some 3) #[true, true, true, true, true, true, true, true, true, false, false, false] #[true, true, true, true, true, true, true, true, false, false, true, false] rfl rfl rfl rfl (by kernel_rfl) (by decide) (by decide) (fun K hK => ?_) (fun K hK => ?_)
          · skip
            refine goes_ Try.func30 (by kernel_rfl) rfl #[.agg #[.int .i64 r', .int .i64 c', .slice A7 l7.length c7]] (by rfl) rfl rfl (by simp only [List.map_toArray, List.map_cons, List.map_nil]; rfl) ?_
            with_reducible refine (tillerlaw04_Few.calls r' c' A7 c7 l7 r' c' Z7 _ (Kd.C_below H7.out.1 T.out.bel) H7.out.2 E7.out).mono ?_
            rintro e w6 ⟨v7, rfl, hr, hb⟩
            refine ⟨_, rfl, ?_⟩
            obtain ⟨y7, k7, rfl⟩ := Kd.R_slice hr
            have T := Aside0.mk (T.out.made hb hr)
            clear hr hb
            refine hK.out _ _ ((SM8 T.out.a)) (fun hHeld => ?_)
            clear hK K
            refine norm_ (a' := ?_) ?_ ?_
            rotate_left
            · show Act.put _ (some 14) _ = _
              simp only [Act.put, List.setIfInBounds_toArray, List.set_cons_zero, List.set_cons_succ, i64_w, i32_w]
              rfl
            refine pure_ (i := 9) (N := some 15) (v := ?_) (a' := ?_) #[true, true, true, true, true, true, true, true, true, true, false, false] rfl rfl (by kernel_rfl) (fun _ _ _ h => h) (Or.inl ⟨by rfl, ?_⟩) ?_ ?_
            rotate_left
            · intro w'
              go_simp
              with_reducible rfl
            rotate_left
            · simp only [Act.put, List.setIfInBounds_toArray, List.set_cons_zero, List.set_cons_succ, i64_w, i32_w]
              rfl
            refine one_ (i := 10) (N := some 3) #[true, true, true, true, true, true, true, true, true, true, true, false] rfl rfl (by kernel_rfl) (by decide) (fun K hK => ?_)
            refine box_step (by rfl) (N := 3) (by rfl) (cs := Z30) (t := 41) ?hr ?_
            (case hr => first | (go_simp; done) | (go_simp; rfl) | (simp only [Z30]; go_simp; rfl))
            intro gO hgO w7 hbox hb
            have KO := Aside0.mk (show w7.heap[gO]? = some (.cells Z30 41 (0, 0)) ∧ w.heap.size + 2 ≤ gO from ⟨hbox, by rw [hgO]; exact blk_lt T.out.r⟩)
            have T := Aside0.mk (T.out.step hb)
            clear hgO hbox hb
            refine hK.out _ _ ((SM8 T.out.a)) (fun hHeld => ?_)
            clear hK K
            refine norm_ (a' := ?_) ?_ ?_
            rotate_left
            · show Act.put _ (some 3) _ = _
              simp only [Act.put, List.setIfInBounds_toArray, List.set_cons_zero, List.set_cons_succ, i64_w, i32_w]
              rfl
            exact norm_ (by simp only [putAll, Act.put, List.setIfInBounds_toArray, List.set_cons_zero, List.set_cons_succ]) (hCont (gO, y2, k2, y4, k4, y7, k7) _ ⟨T, KO⟩)
          · skip
            refine box_step (by rfl) (N := 3) (by rfl) (cs := Z30) (t := 41) ?hr ?_
            (case hr => first | (go_simp; done) | (go_simp; rfl) | (simp only [Z30]; go_simp; rfl))
            intro gO hgO w6 hbox hb
            have KO := Aside0.mk (show w6.heap[gO]? = some (.cells Z30 41 (0, 0)) ∧ w.heap.size + 2 ≤ gO from ⟨hbox, by rw [hgO]; exact blk_lt T.out.r⟩)
            have T := Aside0.mk (T.out.step hb)
            clear hgO hbox hb
            refine hK.out _ _ ((SM8 T.out.a)) (fun hHeld => ?_)
            clear hK K
            refine norm_ (a' := ?_) ?_ ?_
            rotate_left
            · show Act.put _ (some 3) _ = _
              simp only [Act.put, List.setIfInBounds_toArray, List.set_cons_zero, List.set_cons_succ, i64_w, i32_w]
              rfl
            refine one_ (i := 8) (N := some 14) #[true, true, true, true, true, true, true, true, true, false, true, false] rfl rfl (by kernel_rfl) (by decide) (fun K hK => ?_)
            refine goes_ Try.func30 (by kernel_rfl) rfl #[.agg #[.int .i64 r', .int .i64 c', .slice A7 l7.length c7]] (by rfl) rfl rfl (by simp only [List.map_toArray, List.map_cons, List.map_nil]; rfl) ?_
            with_reducible refine (tillerlaw04_Few.calls r' c' A7 c7 l7 r' c' Z7 _ (Kd.C_below H7.out.1 T.out.bel) H7.out.2 E7.out).mono ?_
            rintro e w7 ⟨v7, rfl, hr, hb⟩
            refine ⟨_, rfl, ?_⟩
            obtain ⟨y7, k7, rfl⟩ := Kd.R_slice hr
            have KO := Aside0.mk (And.intro (blk_below KO.out.1 hb) KO.out.2)
            have T := Aside0.mk (T.out.made hb hr)
            clear hr hb
            refine hK.out _ _ ((SM8 T.out.a)) (fun hHeld => ?_)
            clear hK K
            refine norm_ (a' := ?_) ?_ ?_
            rotate_left
            · show Act.put _ (some 14) _ = _
              simp only [Act.put, List.setIfInBounds_toArray, List.set_cons_zero, List.set_cons_succ, i64_w, i32_w]
              rfl
            refine pure_ (i := 9) (N := some 15) (v := ?_) (a' := ?_) #[true, true, true, true, true, true, true, true, true, true, true, false] rfl rfl (by kernel_rfl) (fun _ _ _ h => h) (Or.inl ⟨by rfl, ?_⟩) ?_ ?_
            rotate_left
            · intro w'
              go_simp
              with_reducible rfl
            rotate_left
            · simp only [Act.put, List.setIfInBounds_toArray, List.set_cons_zero, List.set_cons_succ, i64_w, i32_w]
              rfl
            exact norm_ (by simp only [putAll, Act.put, List.setIfInBounds_toArray, List.set_cons_zero, List.set_cons_succ]) (hCont (gO, y2, k2, y4, k4, y7, k7) _ ⟨T, KO⟩)
        · skip
          refine box_step (by rfl) (N := 3) (by rfl) (cs := Z30) (t := 41) ?hr ?_
          (case hr => first | (go_simp; done) | (go_simp; rfl) | (simp only [Z30]; go_simp; rfl))
          intro gO hgO w5 hbox hb
          have KO := Aside0.mk (show w5.heap[gO]? = some (.cells Z30 41 (0, 0)) ∧ w.heap.size + 2 ≤ gO from ⟨hbox, by rw [hgO]; exact blk_lt T.out.r⟩)
          have T := Aside0.mk (T.out.step hb)
          clear hgO hbox hb
          refine hK.out _ _ ((SM8 T.out.a)) (fun hHeld => ?_)
          clear hK K
          refine norm_ (a' := ?_) ?_ ?_
          rotate_left
          · show Act.put _ (some 3) _ = _
            simp only [Act.put, List.setIfInBounds_toArray, List.set_cons_zero, List.set_cons_succ, i64_w, i32_w]
            rfl
          refine one_ (i := 5) (N := some 11) #[true, true, true, true, true, true, true, true, false, false, true, false] rfl rfl (by kernel_rfl) (by decide) (fun K hK => ?_)
          refine goes_ Try.func31 (by kernel_rfl) rfl #[.slice A4 l4.length c4, .int .i64 100] (by rfl) rfl rfl (by simp only [List.map_toArray, List.map_cons, List.map_nil]; rfl) ?_
          with_reducible refine (tillerlaw03_Few.calls A4 c4 l4 100 Z4 _ (Kd.C_below H4.out.1 T.out.bel) H4.out.2 E4.out).mono ?_
          rintro e w6 ⟨v4, rfl, hr, hb⟩
          refine ⟨_, rfl, ?_⟩
          obtain ⟨y4, k4, rfl⟩ := Kd.R_slice hr
          have KO := Aside0.mk (And.intro (blk_below KO.out.1 hb) KO.out.2)
          have T := Aside0.mk (T.out.made hb hr)
          clear hr hb
          refine hK.out _ _ ((SM8 T.out.a)) (fun hHeld => ?_)
          clear hK K
          refine norm_ (a' := ?_) ?_ ?_
          rotate_left
          · show Act.put _ (some 11) _ = _
            simp only [Act.put, List.setIfInBounds_toArray, List.set_cons_zero, List.set_cons_succ, i64_w, i32_w]
            rfl
          refine one_ (i := 8) (N := some 14) #[true, true, true, true, true, true, true, true, true, false, true, false] rfl rfl (by kernel_rfl) (by decide) (fun K hK => ?_)
          refine goes_ Try.func30 (by kernel_rfl) rfl #[.agg #[.int .i64 r', .int .i64 c', .slice A7 l7.length c7]] (by rfl) rfl rfl (by simp only [List.map_toArray, List.map_cons, List.map_nil]; rfl) ?_
          with_reducible refine (tillerlaw04_Few.calls r' c' A7 c7 l7 r' c' Z7 _ (Kd.C_below H7.out.1 T.out.bel) H7.out.2 E7.out).mono ?_
          rintro e w7 ⟨v7, rfl, hr, hb⟩
          refine ⟨_, rfl, ?_⟩
          obtain ⟨y7, k7, rfl⟩ := Kd.R_slice hr
          have KO := Aside0.mk (And.intro (blk_below KO.out.1 hb) KO.out.2)
          have T := Aside0.mk (T.out.made hb hr)
          clear hr hb
          refine hK.out _ _ ((SM8 T.out.a)) (fun hHeld => ?_)
          clear hK K
          refine norm_ (a' := ?_) ?_ ?_
          rotate_left
          · show Act.put _ (some 14) _ = _
            simp only [Act.put, List.setIfInBounds_toArray, List.set_cons_zero, List.set_cons_succ, i64_w, i32_w]
            rfl
          refine pure_ (i := 9) (N := some 15) (v := ?_) (a' := ?_) #[true, true, true, true, true, true, true, true, true, true, true, false] rfl rfl (by kernel_rfl) (fun _ _ _ h => h) (Or.inl ⟨by rfl, ?_⟩) ?_ ?_
          rotate_left
          · intro w'
            go_simp
            with_reducible rfl
          rotate_left
          · simp only [Act.put, List.setIfInBounds_toArray, List.set_cons_zero, List.set_cons_succ, i64_w, i32_w]
            rfl
          exact norm_ (by simp only [putAll, Act.put, List.setIfInBounds_toArray, List.set_cons_zero, List.set_cons_succ]) (hCont (gO, y2, k2, y4, k4, y7, k7) _ ⟨T, KO⟩)
      · skip
        refine box_step (by rfl) (N := 3) (by rfl) (cs := Z30) (t := 41) ?hr ?_
        (case hr => first | (go_simp; done) | (go_simp; rfl) | (simp only [Z30]; go_simp; rfl))
        intro gO hgO w4 hbox hb
        have KO := Aside0.mk (show w4.heap[gO]? = some (.cells Z30 41 (0, 0)) ∧ w.heap.size + 2 ≤ gO from ⟨hbox, by rw [hgO]; exact blk_lt T.out.r⟩)
        have T := Aside0.mk (T.out.step hb)
        clear hgO hbox hb
        refine hK.out _ _ ((SM8 T.out.a)) (fun hHeld => ?_)
        clear hK K
        refine norm_ (a' := ?_) ?_ ?_
        rotate_left
        · show Act.put _ (some 3) _ = _
          simp only [Act.put, List.setIfInBounds_toArray, List.set_cons_zero, List.set_cons_succ, i64_w, i32_w]
          rfl
        refine one_ (i := 2) (N := some 8) #[true, true, true, true, true, false, true, true, false, false, true, false] rfl rfl (by kernel_rfl) (by decide) (fun K hK => ?_)
        refine goes_ Try.func30 (by kernel_rfl) rfl #[.agg #[.int .i64 r, .int .i64 c, .slice A2 l2.length c2]] (by rfl) rfl rfl (by simp only [List.map_toArray, List.map_cons, List.map_nil]; rfl) ?_
        with_reducible refine (tillerlaw04_Few.calls r c A2 c2 l2 r c Z2 _ (Kd.C_below H2.out.1 T.out.bel) H2.out.2 E2.out).mono ?_
        rintro e w5 ⟨v2, rfl, hr, hb⟩
        refine ⟨_, rfl, ?_⟩
        obtain ⟨y2, k2, rfl⟩ := Kd.R_slice hr
        have KO := Aside0.mk (And.intro (blk_below KO.out.1 hb) KO.out.2)
        have T := Aside0.mk (T.out.made hb hr)
        clear hr hb
        refine hK.out _ _ ((SM8 T.out.a)) (fun hHeld => ?_)
        clear hK K
        refine norm_ (a' := ?_) ?_ ?_
        rotate_left
        · show Act.put _ (some 8) _ = _
          simp only [Act.put, List.setIfInBounds_toArray, List.set_cons_zero, List.set_cons_succ, i64_w, i32_w]
          rfl
        refine one_ (i := 5) (N := some 11) #[true, true, true, true, true, true, true, true, false, false, true, false] rfl rfl (by kernel_rfl) (by decide) (fun K hK => ?_)
        refine goes_ Try.func31 (by kernel_rfl) rfl #[.slice A4 l4.length c4, .int .i64 100] (by rfl) rfl rfl (by simp only [List.map_toArray, List.map_cons, List.map_nil]; rfl) ?_
        with_reducible refine (tillerlaw03_Few.calls A4 c4 l4 100 Z4 _ (Kd.C_below H4.out.1 T.out.bel) H4.out.2 E4.out).mono ?_
        rintro e w6 ⟨v4, rfl, hr, hb⟩
        refine ⟨_, rfl, ?_⟩
        obtain ⟨y4, k4, rfl⟩ := Kd.R_slice hr
        have KO := Aside0.mk (And.intro (blk_below KO.out.1 hb) KO.out.2)
        have T := Aside0.mk (T.out.made hb hr)
        clear hr hb
        refine hK.out _ _ ((SM8 T.out.a)) (fun hHeld => ?_)
        clear hK K
        refine norm_ (a' := ?_) ?_ ?_
        rotate_left
        · show Act.put _ (some 11) _ = _
          simp only [Act.put, List.setIfInBounds_toArray, List.set_cons_zero, List.set_cons_succ, i64_w, i32_w]
          rfl
        refine one_ (i := 8) (N := some 14) #[true, true, true, true, true, true, true, true, true, false, true, false] rfl rfl (by kernel_rfl) (by decide) (fun K hK => ?_)
        refine goes_ Try.func30 (by kernel_rfl) rfl #[.agg #[.int .i64 r', .int .i64 c', .slice A7 l7.length c7]] (by rfl) rfl rfl (by simp only [List.map_toArray, List.map_cons, List.map_nil]; rfl) ?_
        with_reducible refine (tillerlaw04_Few.calls r' c' A7 c7 l7 r' c' Z7 _ (Kd.C_below H7.out.1 T.out.bel) H7.out.2 E7.out).mono ?_
        rintro e w7 ⟨v7, rfl, hr, hb⟩
        refine ⟨_, rfl, ?_⟩
        obtain ⟨y7, k7, rfl⟩ := Kd.R_slice hr
        have KO := Aside0.mk (And.intro (blk_below KO.out.1 hb) KO.out.2)
        have T := Aside0.mk (T.out.made hb hr)
        clear hr hb
        refine hK.out _ _ ((SM8 T.out.a)) (fun hHeld => ?_)
        clear hK K
        refine norm_ (a' := ?_) ?_ ?_
        rotate_left
        · show Act.put _ (some 14) _ = _
          simp only [Act.put, List.setIfInBounds_toArray, List.set_cons_zero, List.set_cons_succ, i64_w, i32_w]
          rfl
        refine pure_ (i := 9) (N := some 15) (v := ?_) (a' := ?_) #[true, true, true, true, true, true, true, true, true, true, true, false] rfl rfl (by kernel_rfl) (fun _ _ _ h => h) (Or.inl ⟨by rfl, ?_⟩) ?_ ?_
        rotate_left
        · intro w'
          go_simp
          with_reducible rfl
        rotate_left
        · simp only [Act.put, List.setIfInBounds_toArray, List.set_cons_zero, List.set_cons_succ, i64_w, i32_w]
          rfl
        exact norm_ (by simp only [putAll, Act.put, List.setIfInBounds_toArray, List.set_cons_zero, List.set_cons_succ]) (hCont (gO, y2, k2, y4, k4, y7, k7) _ ⟨T, KO⟩)
    rintro ⟨gO, y2, k2, y4, k4, y7, k7⟩ wj ⟨T, KO⟩
    have hHeld := SM8 T.out.a
    refine norm_ (a' := ?_) ?_ ?_
    rotate_left
    · simp only [putAll, Act.put, List.setIfInBounds_toArray, List.set_cons_zero, List.set_cons_succ]
      rfl
    refine last_ (i := 11) (N := none) #[true, true, true, true, true, true, true, true, true, true, true, true] rfl rfl (by kernel_rfl) (by decide) (fun K hK => ?_)
    refine store_box_step #[.int .i64 r, .int .i64 c, (.slice y2 Z2.length k2), .slice none 0 0, (.slice y4 Z4.length k4), .int .i64 r', .int .i64 c', (.slice y7 Z7.length k7)] (by rfl) rfl rfl (by rfl) (by first | rfl | (go_simp; done) | (go_simp; rfl)) KO.out.1 (by kernel_rfl) rfl (by simp [Value.oneCell']) ?_
    refine hK.out _ _ ?_
    clear hK K
    refine done_ (by kernel_rfl) ?_
    go_wp2_with fail
    go_meet
    exact ⟨gO, _, _, _, _, rfl, ⟨T.out.own KO.out.1 KO.out.2 (by decide)⟩⟩
  case rest =>
    clear T
    obtain ⟨gO, n0, v2, v4, v7, rfl, TD⟩ := hcut
    have x3 := blk_cell TD.out.a 3
    simp at x3
    go_wp2_with fail
    clear x3
    go_loopg [4] (l3.take 5).length (fun kq vi W => ∃ (i : Nat) (vB : Value), vi = .int .i64 (i : Int) ∧ Aside0 (i + kq = (l3.take 5).length) ∧ Aside0 (Td kR 30 41 74 w W gO #[.int .i64 r, .int .i64 c, .slice A2 l2.length c2, .slice A3 l3.length c3, .slice A4 l4.length c4, .int .i64 r', .int .i64 c', .slice A7 l7.length c7] #[.int .i64 r, .int .i64 c, v2, vB, v4, .int .i64 r', .int .i64 c', v7] [(v2, Z2), (v4, Z4), (v7, Z7)] n0 vB (((l3.take 5).take i).map cv_told)))
    case atStart => exact ⟨0, .slice none 0 0, rfl, ⟨Nat.zero_add _⟩, TD⟩
    case round =>
      clear TD
      obtain ⟨i, vB, rfl, HI, TD⟩ := hrel
      have hi := HI.out
      have hm := M3.out
      obtain ⟨AB, cB, rfl⟩ := Kd.R_slice TD.out.n
      cases gk with
      | succ q =>
        have ht5 : (l3.take 5).length = min 5 l3.length := List.length_take
        have x3 := blk_cell TD.out.a 3
        simp at x3
        have b5 : decide ((i : Int) < 5) = true := decide_eq_true (by omega)
        have i3 : i < l3.length := by omega
        have i4 : i < 5 := by omega
        have b1 : decide (i < l3.length) = true := decide_eq_true (by omega)
        have p1 : 0 ≤ (i : Int) := by omega
        have q1 : (i : Int) < (l3.length : Int) := by omega
        have i2 : (i : Int) + 1 ≤ 1000 := by omega
        obtain ⟨ax, csx, e1, hKx, hcx⟩ := elem_atB H3.out.1 i (by omega)
        subst e1
        have hN3 := N3.out (rd_T37 l3 (i : Int)) (by unfold rd_T37; rw [Int.toNat_natCast, List.getD_eq_getElem?_getD, List.getElem?_eq_getElem (by omega)]; exact List.getElem_mem _)
        have hXS : ((l3.take 5).take i).map cv_told ++ [cv_told (rd_T37 l3 (i : Int))] = ((l3.take 5).take (i + 1)).map cv_told := by rw [List.take_succ_eq_append_getElem (l := (l3.take 5)) (i := i) (by omega), List.map_append]; unfold rd_T37; rw [Int.toNat_natCast, List.getD_eq_getElem?_getD, List.getElem?_eq_getElem (by omega)]; rw [List.getElem_take]; rfl
        have HLn := Aside0.mk (show (((l3.take 5).take i).map cv_told).length ≤ 1000 by rw [List.length_map, List.length_take]; omega)
        obtain ⟨X, hX⟩ : ∃ X, rd_T37 l3 (i : Int) = X := ⟨_, rfl⟩
        rw [hX] at hKx hXS hN3
        obtain ⟨XS, hXS0⟩ : ∃ XS, ((l3.take 5).take i).map cv_told = XS := ⟨_, rfl⟩
        obtain ⟨X2, hXS2⟩ : ∃ XS, ((l3.take 5).take (i + 1)).map cv_told = XS := ⟨_, rfl⟩
        rw [hXS0] at TD hXS HLn
        rw [hXS2] at hXS
        obtain ⟨x0, c_0, x1, c_1, x2, c_2, x3, c_3, x4, c_4, x5, c_5, x6, c_6, x7, c_7, rfl, l_0, g_0, l_1, g_1, l_2, g_2, l_3, g_3, l_4, g_4, l_5, g_5, l_6, g_6, l_7, g_7⟩ := k37_open hKx
        have CX := Aside0.mk (fun j u hj => (TD.out.bel.cell (World.block_lt_of_cell? w _ (hcx j u hj))).trans (hcx j u hj))
        have G := Aside0.mk (show ∀ p ∈ [(x0, c_0, X.f0), (x1, c_1, X.f1.f2), (x2, c_2, X.f2.f2), (x3, c_3, X.f3.f2), (x4, c_4, X.f4.f2), (x5, c_5, X.f5), (x6, c_6, X.f6.f2), (x7, c_7, X.f7.f2)], Kd.C kI wr p.1 p.2.2.length p.2.2 ∧ p.2.2.length ≤ p.2.1 from fun p hp => by
          have hb := TD.out.bel
          simp only [List.mem_cons, List.not_mem_nil, or_false] at hp
          rcases hp with rfl | rfl | rfl | rfl | rfl | rfl | rfl | rfl
          · exact CB ⟨g_0, l_0⟩ hb
          · exact CB ⟨g_1, l_1⟩ hb
          · exact CB ⟨g_2, l_2⟩ hb
          · exact CB ⟨g_3, l_3⟩ hb
          · exact CB ⟨g_4, l_4⟩ hb
          · exact CB ⟨g_5, l_5⟩ hb
          · exact CB ⟨g_6, l_6⟩ hb
          · exact CB ⟨g_7, l_7⟩ hb)
        obtain ⟨k0, k1, k2, k3, k4, k5, k6, k7⟩ := hN3
        obtain ⟨Y0, hY0⟩ : ∃ Y, (X.f0.take 100) = Y := ⟨_, rfl⟩
        have F0 := Aside0.mk (show tillerlaw03_Few.f X.f0 100 = some Y0 from (by rw [← hY0]; exact few_ok X.f0 100 k0))
        obtain ⟨Y1, hY1⟩ : ∃ Y, (X.f1.f2.take 2000) = Y := ⟨_, rfl⟩
        have F1 := Aside0.mk (show tillerlaw04_Few.f X.f1.f0 X.f1.f1 X.f1.f2 = some (X.f1.f0, X.f1.f1, Y1) from (by rw [← hY1]; exact few4_ok _ _ X.f1.f2 k1))
        obtain ⟨Y2, hY2⟩ : ∃ Y, (X.f2.f2.take 2000) = Y := ⟨_, rfl⟩
        have F2 := Aside0.mk (show tillerlaw04_Few.f X.f2.f0 X.f2.f1 X.f2.f2 = some (X.f2.f0, X.f2.f1, Y2) from (by rw [← hY2]; exact few4_ok _ _ X.f2.f2 k2))
        obtain ⟨Y3, hY3⟩ : ∃ Y, (X.f3.f2.take 2000) = Y := ⟨_, rfl⟩
        have F3 := Aside0.mk (show tillerlaw04_Few.f X.f3.f0 X.f3.f1 X.f3.f2 = some (X.f3.f0, X.f3.f1, Y3) from (by rw [← hY3]; exact few4_ok _ _ X.f3.f2 k3))
        obtain ⟨Y4, hY4⟩ : ∃ Y, (X.f4.f2.take 2000) = Y := ⟨_, rfl⟩
        have F4 := Aside0.mk (show tillerlaw04_Few.f X.f4.f0 X.f4.f1 X.f4.f2 = some (X.f4.f0, X.f4.f1, Y4) from (by rw [← hY4]; exact few4_ok _ _ X.f4.f2 k4))
        obtain ⟨Y5, hY5⟩ : ∃ Y, (X.f5.take 100) = Y := ⟨_, rfl⟩
        have F5 := Aside0.mk (show tillerlaw03_Few.f X.f5 100 = some Y5 from (by rw [← hY5]; exact few_ok X.f5 100 k5))
        obtain ⟨Y6, hY6⟩ : ∃ Y, (X.f6.f2.take 2000) = Y := ⟨_, rfl⟩
        have F6 := Aside0.mk (show tillerlaw04_Few.f X.f6.f0 X.f6.f1 X.f6.f2 = some (X.f6.f0, X.f6.f1, Y6) from (by rw [← hY6]; exact few4_ok _ _ X.f6.f2 k6))
        obtain ⟨Y7, hY7⟩ : ∃ Y, (X.f7.f2.take 2000) = Y := ⟨_, rfl⟩
        have F7 := Aside0.mk (show tillerlaw04_Few.f X.f7.f0 X.f7.f1 X.f7.f2 = some (X.f7.f0, X.f7.f1, Y7) from (by rw [← hY7]; exact few4_ok _ _ X.f7.f2 k7))
        have HX := Aside0.mk (show XS ++ [(⟨Y0, ⟨X.f1.f0, X.f1.f1, Y1⟩, ⟨X.f2.f0, X.f2.f1, Y2⟩, ⟨X.f3.f0, X.f3.f1, Y3⟩, ⟨X.f4.f0, X.f4.f1, Y4⟩, Y5, ⟨X.f6.f0, X.f6.f1, Y6⟩, ⟨X.f7.f0, X.f7.f1, Y7⟩⟩ : BR)] = X2 by rw [← hXS]; unfold cv_told; rw [hY0, hY1, hY2, hY3, hY4, hY5, hY6, hY7])
        have HX2 := Aside0.mk hXS2
        clear ht5 i3 i4 hX hXS hXS0 hXS2 hKx hcx hi hm l_0 g_0 l_1 g_1 l_2 g_2 l_3 g_3 l_4 g_4 l_5 g_5 l_6 g_6 l_7 g_7 k0 k1 k2 k3 k4 k5 k6 k7 hY0 hY1 hY2 hY3 hY4 hY5 hY6 hY7
        go_wp2_with (first
          | ((with_reducible refine gate_dst (N := 31) rfl ?_); go_loud (refine load_any_event [(Value.slice x0 X.f0.length c_0), (Value.int .i64 X.f1.f0), (Value.int .i64 X.f1.f1), (Value.slice x1 X.f1.f2.length c_1), (Value.int .i64 X.f2.f0), (Value.int .i64 X.f2.f1), (Value.slice x2 X.f2.f2.length c_2), (Value.int .i64 X.f3.f0), (Value.int .i64 X.f3.f1), (Value.slice x3 X.f3.f2.length c_3), (Value.int .i64 X.f4.f0), (Value.int .i64 X.f4.f1), (Value.slice x4 X.f4.f2.length c_4), (Value.slice x5 X.f5.length c_5), (Value.int .i64 X.f6.f0), (Value.int .i64 X.f6.f1), (Value.slice x6 X.f6.f2.length c_6), (Value.int .i64 X.f7.f0), (Value.int .i64 X.f7.f1), (Value.slice x7 X.f7.f2.length c_7)] rfl rfl rfl rfl CX.out Try.underlying37 rfl (by kernel_rfl) ?_))
          | ((with_reducible refine gate_store (t := 37) (p := 5) rfl ?_); go_loud (refine store_new_event [(Value.slice x0 X.f0.length c_0), (Value.int .i64 X.f1.f0), (Value.int .i64 X.f1.f1), (Value.slice x1 X.f1.f2.length c_1), (Value.int .i64 X.f2.f0), (Value.int .i64 X.f2.f1), (Value.slice x2 X.f2.f2.length c_2), (Value.int .i64 X.f3.f0), (Value.int .i64 X.f3.f1), (Value.slice x3 X.f3.f2.length c_3), (Value.int .i64 X.f4.f0), (Value.int .i64 X.f4.f1), (Value.slice x4 X.f4.f2.length c_4), (Value.slice x5 X.f5.length c_5), (Value.int .i64 X.f6.f0), (Value.int .i64 X.f6.f1), (Value.slice x6 X.f6.f2.length c_6), (Value.int .i64 X.f7.f0), (Value.int .i64 X.f7.f1), (Value.slice x7 X.f7.f2.length c_7)].toArray rfl rfl rfl rfl rfl (by kernel_rfl) rfl (by simp [Value.oneCell']) ?_); have B5 := Aside0.mk (below_alloc (Below.refl wr.heap.size wr) (.cells [(Value.slice x0 X.f0.length c_0), (Value.int .i64 X.f1.f0), (Value.int .i64 X.f1.f1), (Value.slice x1 X.f1.f2.length c_1), (Value.int .i64 X.f2.f0), (Value.int .i64 X.f2.f1), (Value.slice x2 X.f2.f2.length c_2), (Value.int .i64 X.f3.f0), (Value.int .i64 X.f3.f1), (Value.slice x3 X.f3.f2.length c_3), (Value.int .i64 X.f4.f0), (Value.int .i64 X.f4.f1), (Value.slice x4 X.f4.f2.length c_4), (Value.slice x5 X.f5.length c_5), (Value.int .i64 X.f6.f0), (Value.int .i64 X.f6.f1), (Value.slice x6 X.f6.f2.length c_6), (Value.int .i64 X.f7.f0), (Value.int .i64 X.f7.f1), (Value.slice x7 X.f7.f2.length c_7)].toArray 37 (0, 0))); have KB5 := Aside0.mk (blk_new wr (.cells [(Value.slice x0 X.f0.length c_0), (Value.int .i64 X.f1.f0), (Value.int .i64 X.f1.f1), (Value.slice x1 X.f1.f2.length c_1), (Value.int .i64 X.f2.f0), (Value.int .i64 X.f2.f1), (Value.slice x2 X.f2.f2.length c_2), (Value.int .i64 X.f3.f0), (Value.int .i64 X.f3.f1), (Value.slice x3 X.f3.f2.length c_3), (Value.int .i64 X.f4.f0), (Value.int .i64 X.f4.f1), (Value.slice x4 X.f4.f2.length c_4), (Value.slice x5 X.f5.length c_5), (Value.int .i64 X.f6.f0), (Value.int .i64 X.f6.f1), (Value.slice x6 X.f6.f2.length c_6), (Value.int .i64 X.f7.f0), (Value.int .i64 X.f7.f1), (Value.slice x7 X.f7.f2.length c_7)].toArray 37 (0, 0))); generalize wr.alloc (.cells [(Value.slice x0 X.f0.length c_0), (Value.int .i64 X.f1.f0), (Value.int .i64 X.f1.f1), (Value.slice x1 X.f1.f2.length c_1), (Value.int .i64 X.f2.f0), (Value.int .i64 X.f2.f1), (Value.slice x2 X.f2.f2.length c_2), (Value.int .i64 X.f3.f0), (Value.int .i64 X.f3.f1), (Value.slice x3 X.f3.f2.length c_3), (Value.int .i64 X.f4.f0), (Value.int .i64 X.f4.f1), (Value.slice x4 X.f4.f2.length c_4), (Value.slice x5 X.f5.length c_5), (Value.int .i64 X.f6.f0), (Value.int .i64 X.f6.f1), (Value.slice x6 X.f6.f2.length c_6), (Value.int .i64 X.f7.f0), (Value.int .i64 X.f7.f1), (Value.slice x7 X.f7.f2.length c_7)].toArray 37 (0, 0)) = w5 at B5 KB5 ⊢))
        have Q := Aside0.mk (show Rg kR 30 41 74 37 w w5 gO #[.int .i64 r, .int .i64 c, .slice A2 l2.length c2, .slice (some ax) l3.length c3, .slice A4 l4.length c4, .int .i64 r', .int .i64 c', .slice A7 l7.length c7] #[.int .i64 r, .int .i64 c, v2, (.slice AB XS.length cB), v4, .int .i64 r', .int .i64 c', v7] [(v2, Z2), (v4, Z4), (v7, Z7)] n0 (.slice AB XS.length cB) XS wr.heap.size [(Value.slice x0 X.f0.length c_0), (Value.int .i64 X.f1.f0), (Value.int .i64 X.f1.f1), (Value.slice x1 X.f1.f2.length c_1), (Value.int .i64 X.f2.f0), (Value.int .i64 X.f2.f1), (Value.slice x2 X.f2.f2.length c_2), (Value.int .i64 X.f3.f0), (Value.int .i64 X.f3.f1), (Value.slice x3 X.f3.f2.length c_3), (Value.int .i64 X.f4.f0), (Value.int .i64 X.f4.f1), (Value.slice x4 X.f4.f2.length c_4), (Value.slice x5 X.f5.length c_5), (Value.int .i64 X.f6.f0), (Value.int .i64 X.f6.f1), (Value.slice x6 X.f6.f2.length c_6), (Value.int .i64 X.f7.f0), (Value.int .i64 X.f7.f1), (Value.slice x7 X.f7.f2.length c_7)].toArray w5.heap.size [(x0, c_0, X.f0), (x1, c_1, X.f1.f2), (x2, c_2, X.f2.f2), (x3, c_3, X.f3.f2), (x4, c_4, X.f4.f2), (x5, c_5, X.f5), (x6, c_6, X.f6.f2), (x7, c_7, X.f7.f2)] [] from ⟨TD.out.step B5.out, KB5.out, fun p hp => CB (G.out p hp) B5.out, fun p hp => (by cases hp), Nat.le_refl _, Nat.le_trans TD.out.up B5.out.size⟩)
        have HS5 := Aside0.mk (SQ.of Q.out.t.o Q.out.b)
        have HUP := Aside0.mk (show wr.heap.size < w5.heap.size from blk_lt Q.out.b)
        refine start_ (n := 31) (S := fun w' => w'.cell? ⟨gO, 3, none⟩ = some (Value.slice AB XS.length cB) ∧ w'.cell? ⟨wr.heap.size, 0, none⟩ = some (Value.slice x0 X.f0.length c_0) ∧ w'.cell? ⟨wr.heap.size, 1, none⟩ = some (Value.int .i64 X.f1.f0) ∧ w'.cell? ⟨wr.heap.size, 2, none⟩ = some (Value.int .i64 X.f1.f1) ∧ w'.cell? ⟨wr.heap.size, 3, none⟩ = some (Value.slice x1 X.f1.f2.length c_1) ∧ w'.cell? ⟨wr.heap.size, 4, none⟩ = some (Value.int .i64 X.f2.f0) ∧ w'.cell? ⟨wr.heap.size, 5, none⟩ = some (Value.int .i64 X.f2.f1) ∧ w'.cell? ⟨wr.heap.size, 6, none⟩ = some (Value.slice x2 X.f2.f2.length c_2) ∧ w'.cell? ⟨wr.heap.size, 7, none⟩ = some (Value.int .i64 X.f3.f0) ∧ w'.cell? ⟨wr.heap.size, 8, none⟩ = some (Value.int .i64 X.f3.f1) ∧ w'.cell? ⟨wr.heap.size, 9, none⟩ = some (Value.slice x3 X.f3.f2.length c_3) ∧ w'.cell? ⟨wr.heap.size, 10, none⟩ = some (Value.int .i64 X.f4.f0) ∧ w'.cell? ⟨wr.heap.size, 11, none⟩ = some (Value.int .i64 X.f4.f1) ∧ w'.cell? ⟨wr.heap.size, 12, none⟩ = some (Value.slice x4 X.f4.f2.length c_4) ∧ w'.cell? ⟨wr.heap.size, 13, none⟩ = some (Value.slice x5 X.f5.length c_5) ∧ w'.cell? ⟨wr.heap.size, 14, none⟩ = some (Value.int .i64 X.f6.f0) ∧ w'.cell? ⟨wr.heap.size, 15, none⟩ = some (Value.int .i64 X.f6.f1) ∧ w'.cell? ⟨wr.heap.size, 16, none⟩ = some (Value.slice x6 X.f6.f2.length c_6) ∧ w'.cell? ⟨wr.heap.size, 17, none⟩ = some (Value.int .i64 X.f7.f0) ∧ w'.cell? ⟨wr.heap.size, 18, none⟩ = some (Value.int .i64 X.f7.f1) ∧ w'.cell? ⟨wr.heap.size, 19, none⟩ = some (Value.slice x7 X.f7.f2.length c_7)) (ds := [30]) #[false, false, false, false, false, false, false, false, false, false, false, false, false, false, false, false, false, false, false, false, false, false, false, false, false, false, false, false, false, false, false] (by kernel_rfl) rfl rfl ((SQ.of (Q.out.step (Below.refl _ _).drew).t.o (Q.out.step (Below.refl _ _).drew).b)) (fun hHeld => ?_)
        have Q := Aside0.mk (Q.out.step (Below.refl _ _).drew)
        generalize w5.drew = w5d at Q hHeld ⊢
        refine pure_ (i := 0) (N := some 32) (v := ?_) (a' := ?_) #[true, false, false, false, false, false, false, false, false, false, false, false, false, false, false, false, false, false, false, false, false, false, false, false, false, false, false, false, false, false, false] rfl rfl (by kernel_rfl) (fun _ _ _ h => h) (Or.inl ⟨by rfl, ?_⟩) ?_ ?_
        rotate_left
        · intro w'
          go_simp
          with_reducible rfl
        rotate_left
        · simp only [Act.put, List.setIfInBounds_toArray, List.set_cons_zero, List.set_cons_succ, i64_w, i32_w]
          rfl
        refine pure_ (i := 2) (N := some 34) (v := ?_) (a' := ?_) #[true, false, true, false, false, false, false, false, false, false, false, false, false, false, false, false, false, false, false, false, false, false, false, false, false, false, false, false, false, false, false] rfl rfl (by kernel_rfl) (fun _ _ _ h => h) (Or.inl ⟨by rfl, ?_⟩) ?_ ?_
        rotate_left
        · intro w'
          go_simp
          with_reducible rfl
        rotate_left
        · simp only [Act.put, List.setIfInBounds_toArray, List.set_cons_zero, List.set_cons_succ, i64_w, i32_w]
          rfl
        refine pure_ (i := 5) (N := some 37) (v := ?_) (a' := ?_) #[true, false, true, false, false, true, false, false, false, false, false, false, false, false, false, false, false, false, false, false, false, false, false, false, false, false, false, false, false, false, false] rfl rfl (by kernel_rfl) (fun _ _ _ h => h) (Or.inl ⟨by rfl, ?_⟩) ?_ ?_
        rotate_left
        · intro w'
          go_simp
          with_reducible rfl
        rotate_left
        · simp only [Act.put, List.setIfInBounds_toArray, List.set_cons_zero, List.set_cons_succ, i64_w, i32_w]
          rfl
        refine pure_ (i := 8) (N := some 40) (v := ?_) (a' := ?_) #[true, false, true, false, false, true, false, false, true, false, false, false, false, false, false, false, false, false, false, false, false, false, false, false, false, false, false, false, false, false, false] rfl rfl (by kernel_rfl) (fun _ _ _ h => h) (Or.inl ⟨by rfl, ?_⟩) ?_ ?_
        rotate_left
        · intro w'
          go_simp
          with_reducible rfl
        rotate_left
        · simp only [Act.put, List.setIfInBounds_toArray, List.set_cons_zero, List.set_cons_succ, i64_w, i32_w]
          rfl
        refine pure_ (i := 11) (N := some 43) (v := ?_) (a' := ?_) #[true, false, true, false, false, true, false, false, true, false, false, true, false, false, false, false, false, false, false, false, false, false, false, false, false, false, false, false, false, false, false] rfl rfl (by kernel_rfl) (fun _ _ _ h => h) (Or.inl ⟨by rfl, ?_⟩) ?_ ?_
        rotate_left
        · intro w'
          go_simp
          with_reducible rfl
        rotate_left
        · simp only [Act.put, List.setIfInBounds_toArray, List.set_cons_zero, List.set_cons_succ, i64_w, i32_w]
          rfl
        refine pure_ (i := 14) (N := some 46) (v := ?_) (a' := ?_) #[true, false, true, false, false, true, false, false, true, false, false, true, false, false, true, false, false, false, false, false, false, false, false, false, false, false, false, false, false, false, false] rfl rfl (by kernel_rfl) (fun _ _ _ h => h) (Or.inl ⟨by rfl, ?_⟩) ?_ ?_
        rotate_left
        · intro w'
          go_simp
          with_reducible rfl
        rotate_left
        · simp only [Act.put, List.setIfInBounds_toArray, List.set_cons_zero, List.set_cons_succ, i64_w, i32_w]
          rfl
        refine pure_ (i := 17) (N := some 49) (v := ?_) (a' := ?_) #[true, false, true, false, false, true, false, false, true, false, false, true, false, false, true, false, false, true, false, false, false, false, false, false, false, false, false, false, false, false, false] rfl rfl (by kernel_rfl) (fun _ _ _ h => h) (Or.inl ⟨by rfl, ?_⟩) ?_ ?_
        rotate_left
        · intro w'
          go_simp
          with_reducible rfl
        rotate_left
        · simp only [Act.put, List.setIfInBounds_toArray, List.set_cons_zero, List.set_cons_succ, i64_w, i32_w]
          rfl
        refine pure_ (i := 20) (N := some 52) (v := ?_) (a' := ?_) #[true, false, true, false, false, true, false, false, true, false, false, true, false, false, true, false, false, true, false, false, true, false, false, false, false, false, false, false, false, false, false] rfl rfl (by kernel_rfl) (fun _ _ _ h => h) (Or.inl ⟨by rfl, ?_⟩) ?_ ?_
        rotate_left
        · intro w'
          go_simp
          with_reducible rfl
        rotate_left
        · simp only [Act.put, List.setIfInBounds_toArray, List.set_cons_zero, List.set_cons_succ, i64_w, i32_w]
          rfl
        refine pure_ (i := 23) (N := some 55) (v := ?_) (a' := ?_) #[true, false, true, false, false, true, false, false, true, false, false, true, false, false, true, false, false, true, false, false, true, false, false, true, false, false, false, false, false, false, false] rfl rfl (by kernel_rfl) (fun _ _ _ h => h) (Or.inl ⟨by rfl, ?_⟩) ?_ ?_
        rotate_left
        · intro w'
          go_simp
          with_reducible rfl
        rotate_left
        · simp only [Act.put, List.setIfInBounds_toArray, List.set_cons_zero, List.set_cons_succ, i64_w, i32_w]
          rfl
        refine take_ (i := 1) (N := some 33) (v := ?_) (a' := ?_) #[true, true, true, false, false, true, false, false, true, false, false, true, false, false, true, false, false, true, false, false, true, false, false, true, false, false, false, false, false, false, false] rfl rfl (by kernel_rfl) (fun _ _ _ h => h) (Or.inl ⟨by rfl, ?_⟩) hHeld ?_ ?_
        rotate_left
        · rintro w' ⟨s0, s1, s2, s3, s4, s5, s6, s7, s8, s9, s10, s11, s12, s13, s14, s15, s16, s17, s18, s19, s20⟩
          go_simp
          with_reducible rfl
        rotate_left
        · simp only [Act.put, List.setIfInBounds_toArray, List.set_cons_zero, List.set_cons_succ, i64_w, i32_w]
          rfl
        refine take_ (i := 3) (N := some 35) (v := ?_) (a' := ?_) #[true, true, true, true, false, true, false, false, true, false, false, true, false, false, true, false, false, true, false, false, true, false, false, true, false, false, false, false, false, false, false] rfl rfl (by kernel_rfl) (fun _ _ _ h => h) (Or.inl ⟨by rfl, ?_⟩) hHeld ?_ ?_
        rotate_left
        · rintro w' ⟨s0, s1, s2, s3, s4, s5, s6, s7, s8, s9, s10, s11, s12, s13, s14, s15, s16, s17, s18, s19, s20⟩
          go_simp
          with_reducible rfl
        rotate_left
        · simp only [Act.put, List.setIfInBounds_toArray, List.set_cons_zero, List.set_cons_succ, i64_w, i32_w]
          rfl
        refine take_ (i := 6) (N := some 38) (v := ?_) (a' := ?_) #[true, true, true, true, false, true, true, false, true, false, false, true, false, false, true, false, false, true, false, false, true, false, false, true, false, false, false, false, false, false, false] rfl rfl (by kernel_rfl) (fun _ _ _ h => h) (Or.inl ⟨by rfl, ?_⟩) hHeld ?_ ?_
        rotate_left
        · rintro w' ⟨s0, s1, s2, s3, s4, s5, s6, s7, s8, s9, s10, s11, s12, s13, s14, s15, s16, s17, s18, s19, s20⟩
          go_simp
          with_reducible rfl
        rotate_left
        · simp only [Act.put, List.setIfInBounds_toArray, List.set_cons_zero, List.set_cons_succ, i64_w, i32_w]
          rfl
        refine take_ (i := 9) (N := some 41) (v := ?_) (a' := ?_) #[true, true, true, true, false, true, true, false, true, true, false, true, false, false, true, false, false, true, false, false, true, false, false, true, false, false, false, false, false, false, false] rfl rfl (by kernel_rfl) (fun _ _ _ h => h) (Or.inl ⟨by rfl, ?_⟩) hHeld ?_ ?_
        rotate_left
        · rintro w' ⟨s0, s1, s2, s3, s4, s5, s6, s7, s8, s9, s10, s11, s12, s13, s14, s15, s16, s17, s18, s19, s20⟩
          go_simp
          with_reducible rfl
        rotate_left
        · simp only [Act.put, List.setIfInBounds_toArray, List.set_cons_zero, List.set_cons_succ, i64_w, i32_w]
          rfl
        refine take_ (i := 12) (N := some 44) (v := ?_) (a' := ?_) #[true, true, true, true, false, true, true, false, true, true, false, true, true, false, true, false, false, true, false, false, true, false, false, true, false, false, false, false, false, false, false] rfl rfl (by kernel_rfl) (fun _ _ _ h => h) (Or.inl ⟨by rfl, ?_⟩) hHeld ?_ ?_
        rotate_left
        · rintro w' ⟨s0, s1, s2, s3, s4, s5, s6, s7, s8, s9, s10, s11, s12, s13, s14, s15, s16, s17, s18, s19, s20⟩
          go_simp
          with_reducible rfl
        rotate_left
        · simp only [Act.put, List.setIfInBounds_toArray, List.set_cons_zero, List.set_cons_succ, i64_w, i32_w]
          rfl
        refine take_ (i := 15) (N := some 47) (v := ?_) (a' := ?_) #[true, true, true, true, false, true, true, false, true, true, false, true, true, false, true, true, false, true, false, false, true, false, false, true, false, false, false, false, false, false, false] rfl rfl (by kernel_rfl) (fun _ _ _ h => h) (Or.inl ⟨by rfl, ?_⟩) hHeld ?_ ?_
        rotate_left
        · rintro w' ⟨s0, s1, s2, s3, s4, s5, s6, s7, s8, s9, s10, s11, s12, s13, s14, s15, s16, s17, s18, s19, s20⟩
          go_simp
          with_reducible rfl
        rotate_left
        · simp only [Act.put, List.setIfInBounds_toArray, List.set_cons_zero, List.set_cons_succ, i64_w, i32_w]
          rfl
        refine take_ (i := 18) (N := some 50) (v := ?_) (a' := ?_) #[true, true, true, true, false, true, true, false, true, true, false, true, true, false, true, true, false, true, true, false, true, false, false, true, false, false, false, false, false, false, false] rfl rfl (by kernel_rfl) (fun _ _ _ h => h) (Or.inl ⟨by rfl, ?_⟩) hHeld ?_ ?_
        rotate_left
        · rintro w' ⟨s0, s1, s2, s3, s4, s5, s6, s7, s8, s9, s10, s11, s12, s13, s14, s15, s16, s17, s18, s19, s20⟩
          go_simp
          with_reducible rfl
        rotate_left
        · simp only [Act.put, List.setIfInBounds_toArray, List.set_cons_zero, List.set_cons_succ, i64_w, i32_w]
          rfl
        refine take_ (i := 21) (N := some 53) (v := ?_) (a' := ?_) #[true, true, true, true, false, true, true, false, true, true, false, true, true, false, true, true, false, true, true, false, true, true, false, true, false, false, false, false, false, false, false] rfl rfl (by kernel_rfl) (fun _ _ _ h => h) (Or.inl ⟨by rfl, ?_⟩) hHeld ?_ ?_
        rotate_left
        · rintro w' ⟨s0, s1, s2, s3, s4, s5, s6, s7, s8, s9, s10, s11, s12, s13, s14, s15, s16, s17, s18, s19, s20⟩
          go_simp
          with_reducible rfl
        rotate_left
        · simp only [Act.put, List.setIfInBounds_toArray, List.set_cons_zero, List.set_cons_succ, i64_w, i32_w]
          rfl
        refine take_ (i := 24) (N := some 56) (v := ?_) (a' := ?_) #[true, true, true, true, false, true, true, false, true, true, false, true, true, false, true, true, false, true, true, false, true, true, false, true, true, false, false, false, false, false, false] rfl rfl (by kernel_rfl) (fun _ _ _ h => h) (Or.inl ⟨by rfl, ?_⟩) hHeld ?_ ?_
        rotate_left
        · rintro w' ⟨s0, s1, s2, s3, s4, s5, s6, s7, s8, s9, s10, s11, s12, s13, s14, s15, s16, s17, s18, s19, s20⟩
          go_simp
          with_reducible rfl
        rotate_left
        · simp only [Act.put, List.setIfInBounds_toArray, List.set_cons_zero, List.set_cons_succ, i64_w, i32_w]
          rfl
        refine one_ (i := 4) (N := some 36) #[true, true, true, true, true, true, true, false, true, true, false, true, true, false, true, true, false, true, true, false, true, true, false, true, true, false, false, false, false, false, false] rfl rfl (by kernel_rfl) (by decide) (fun K hK => ?_)
        have hs_ : Kd.C kI _ x0 X.f0.length X.f0 ∧ X.f0.length ≤ c_0 := Q.out.src (x0, c_0, X.f0) (by simp)
        refine goes_ Try.func31 (by kernel_rfl) rfl #[.slice x0 X.f0.length c_0, .int .i64 100] (by rfl) rfl rfl (by simp only [List.map_toArray, List.map_cons, List.map_nil]; rfl) ?_
        with_reducible refine (tillerlaw03_Few.calls x0 c_0 X.f0 100 Y0 _ hs_.1 hs_.2 F0.out).mono ?_
        rintro e w10 ⟨u0, rfl, hr, hb⟩
        refine ⟨_, rfl, ?_⟩
        have Q := Aside0.mk (Q.out.made hb hr)
        obtain ⟨B0, d0, rfl⟩ := Kd.R_slice hr
        clear hr hb hs_
        refine hK.out _ _ ((SQ.of Q.out.t.o Q.out.b)) (fun hHeld => ?_)
        clear hK K
        refine norm_ (a' := ?_) ?_ ?_
        rotate_left
        · show Act.put _ (some 36) _ = _
          simp only [Act.put, List.setIfInBounds_toArray, List.set_cons_zero, List.set_cons_succ, i64_w, i32_w]
          rfl
        refine one_ (i := 7) (N := some 39) #[true, true, true, true, true, true, true, true, true, true, false, true, true, false, true, true, false, true, true, false, true, true, false, true, true, false, false, false, false, false, false] rfl rfl (by kernel_rfl) (by decide) (fun K hK => ?_)
        have hs_ : Kd.C kI _ x1 X.f1.f2.length X.f1.f2 ∧ X.f1.f2.length ≤ c_1 := Q.out.src (x1, c_1, X.f1.f2) (by simp)
        refine goes_ Try.func30 (by kernel_rfl) rfl #[.agg #[.int .i64 X.f1.f0, .int .i64 X.f1.f1, .slice x1 X.f1.f2.length c_1]] (by rfl) rfl rfl (by simp only [List.map_toArray, List.map_cons, List.map_nil]; rfl) ?_
        with_reducible refine (tillerlaw04_Few.calls X.f1.f0 X.f1.f1 x1 c_1 X.f1.f2 X.f1.f0 X.f1.f1 Y1 _ hs_.1 hs_.2 F1.out).mono ?_
        rintro e w11 ⟨u1, rfl, hr, hb⟩
        refine ⟨_, rfl, ?_⟩
        have Q := Aside0.mk (Q.out.made hb hr)
        obtain ⟨B1, d1, rfl⟩ := Kd.R_slice hr
        clear hr hb hs_
        refine hK.out _ _ ((SQ.of Q.out.t.o Q.out.b)) (fun hHeld => ?_)
        clear hK K
        refine norm_ (a' := ?_) ?_ ?_
        rotate_left
        · show Act.put _ (some 39) _ = _
          simp only [Act.put, List.setIfInBounds_toArray, List.set_cons_zero, List.set_cons_succ, i64_w, i32_w]
          rfl
        refine one_ (i := 10) (N := some 42) #[true, true, true, true, true, true, true, true, true, true, true, true, true, false, true, true, false, true, true, false, true, true, false, true, true, false, false, false, false, false, false] rfl rfl (by kernel_rfl) (by decide) (fun K hK => ?_)
        have hs_ : Kd.C kI _ x2 X.f2.f2.length X.f2.f2 ∧ X.f2.f2.length ≤ c_2 := Q.out.src (x2, c_2, X.f2.f2) (by simp)
        refine goes_ Try.func30 (by kernel_rfl) rfl #[.agg #[.int .i64 X.f2.f0, .int .i64 X.f2.f1, .slice x2 X.f2.f2.length c_2]] (by rfl) rfl rfl (by simp only [List.map_toArray, List.map_cons, List.map_nil]; rfl) ?_
        with_reducible refine (tillerlaw04_Few.calls X.f2.f0 X.f2.f1 x2 c_2 X.f2.f2 X.f2.f0 X.f2.f1 Y2 _ hs_.1 hs_.2 F2.out).mono ?_
        rintro e w12 ⟨u2, rfl, hr, hb⟩
        refine ⟨_, rfl, ?_⟩
        have Q := Aside0.mk (Q.out.made hb hr)
        obtain ⟨B2, d2, rfl⟩ := Kd.R_slice hr
        clear hr hb hs_
        refine hK.out _ _ ((SQ.of Q.out.t.o Q.out.b)) (fun hHeld => ?_)
        clear hK K
        refine norm_ (a' := ?_) ?_ ?_
        rotate_left
        · show Act.put _ (some 42) _ = _
          simp only [Act.put, List.setIfInBounds_toArray, List.set_cons_zero, List.set_cons_succ, i64_w, i32_w]
          rfl
        refine one_ (i := 13) (N := some 45) #[true, true, true, true, true, true, true, true, true, true, true, true, true, true, true, true, false, true, true, false, true, true, false, true, true, false, false, false, false, false, false] rfl rfl (by kernel_rfl) (by decide) (fun K hK => ?_)
        have hs_ : Kd.C kI _ x3 X.f3.f2.length X.f3.f2 ∧ X.f3.f2.length ≤ c_3 := Q.out.src (x3, c_3, X.f3.f2) (by simp)
        refine goes_ Try.func30 (by kernel_rfl) rfl #[.agg #[.int .i64 X.f3.f0, .int .i64 X.f3.f1, .slice x3 X.f3.f2.length c_3]] (by rfl) rfl rfl (by simp only [List.map_toArray, List.map_cons, List.map_nil]; rfl) ?_
        with_reducible refine (tillerlaw04_Few.calls X.f3.f0 X.f3.f1 x3 c_3 X.f3.f2 X.f3.f0 X.f3.f1 Y3 _ hs_.1 hs_.2 F3.out).mono ?_
        rintro e w13 ⟨u3, rfl, hr, hb⟩
        refine ⟨_, rfl, ?_⟩
        have Q := Aside0.mk (Q.out.made hb hr)
        obtain ⟨B3, d3, rfl⟩ := Kd.R_slice hr
        clear hr hb hs_
        refine hK.out _ _ ((SQ.of Q.out.t.o Q.out.b)) (fun hHeld => ?_)
        clear hK K
        refine norm_ (a' := ?_) ?_ ?_
        rotate_left
        · show Act.put _ (some 45) _ = _
          simp only [Act.put, List.setIfInBounds_toArray, List.set_cons_zero, List.set_cons_succ, i64_w, i32_w]
          rfl
        refine one_ (i := 16) (N := some 48) #[true, true, true, true, true, true, true, true, true, true, true, true, true, true, true, true, true, true, true, false, true, true, false, true, true, false, false, false, false, false, false] rfl rfl (by kernel_rfl) (by decide) (fun K hK => ?_)
        have hs_ : Kd.C kI _ x4 X.f4.f2.length X.f4.f2 ∧ X.f4.f2.length ≤ c_4 := Q.out.src (x4, c_4, X.f4.f2) (by simp)
        refine goes_ Try.func30 (by kernel_rfl) rfl #[.agg #[.int .i64 X.f4.f0, .int .i64 X.f4.f1, .slice x4 X.f4.f2.length c_4]] (by rfl) rfl rfl (by simp only [List.map_toArray, List.map_cons, List.map_nil]; rfl) ?_
        with_reducible refine (tillerlaw04_Few.calls X.f4.f0 X.f4.f1 x4 c_4 X.f4.f2 X.f4.f0 X.f4.f1 Y4 _ hs_.1 hs_.2 F4.out).mono ?_
        rintro e w14 ⟨u4, rfl, hr, hb⟩
        refine ⟨_, rfl, ?_⟩
        have Q := Aside0.mk (Q.out.made hb hr)
        obtain ⟨B4, d4, rfl⟩ := Kd.R_slice hr
        clear hr hb hs_
        refine hK.out _ _ ((SQ.of Q.out.t.o Q.out.b)) (fun hHeld => ?_)
        clear hK K
        refine norm_ (a' := ?_) ?_ ?_
        rotate_left
        · show Act.put _ (some 48) _ = _
          simp only [Act.put, List.setIfInBounds_toArray, List.set_cons_zero, List.set_cons_succ, i64_w, i32_w]
          rfl
        refine one_ (i := 19) (N := some 51) #[true, true, true, true, true, true, true, true, true, true, true, true, true, true, true, true, true, true, true, true, true, true, false, true, true, false, false, false, false, false, false] rfl rfl (by kernel_rfl) (by decide) (fun K hK => ?_)
        have hs_ : Kd.C kI _ x5 X.f5.length X.f5 ∧ X.f5.length ≤ c_5 := Q.out.src (x5, c_5, X.f5) (by simp)
        refine goes_ Try.func31 (by kernel_rfl) rfl #[.slice x5 X.f5.length c_5, .int .i64 100] (by rfl) rfl rfl (by simp only [List.map_toArray, List.map_cons, List.map_nil]; rfl) ?_
        with_reducible refine (tillerlaw03_Few.calls x5 c_5 X.f5 100 Y5 _ hs_.1 hs_.2 F5.out).mono ?_
        rintro e w15 ⟨u5, rfl, hr, hb⟩
        refine ⟨_, rfl, ?_⟩
        have Q := Aside0.mk (Q.out.made hb hr)
        obtain ⟨B5, d5, rfl⟩ := Kd.R_slice hr
        clear hr hb hs_
        refine hK.out _ _ ((SQ.of Q.out.t.o Q.out.b)) (fun hHeld => ?_)
        clear hK K
        refine norm_ (a' := ?_) ?_ ?_
        rotate_left
        · show Act.put _ (some 51) _ = _
          simp only [Act.put, List.setIfInBounds_toArray, List.set_cons_zero, List.set_cons_succ, i64_w, i32_w]
          rfl
        refine one_ (i := 22) (N := some 54) #[true, true, true, true, true, true, true, true, true, true, true, true, true, true, true, true, true, true, true, true, true, true, true, true, true, false, false, false, false, false, false] rfl rfl (by kernel_rfl) (by decide) (fun K hK => ?_)
        have hs_ : Kd.C kI _ x6 X.f6.f2.length X.f6.f2 ∧ X.f6.f2.length ≤ c_6 := Q.out.src (x6, c_6, X.f6.f2) (by simp)
        refine goes_ Try.func30 (by kernel_rfl) rfl #[.agg #[.int .i64 X.f6.f0, .int .i64 X.f6.f1, .slice x6 X.f6.f2.length c_6]] (by rfl) rfl rfl (by simp only [List.map_toArray, List.map_cons, List.map_nil]; rfl) ?_
        with_reducible refine (tillerlaw04_Few.calls X.f6.f0 X.f6.f1 x6 c_6 X.f6.f2 X.f6.f0 X.f6.f1 Y6 _ hs_.1 hs_.2 F6.out).mono ?_
        rintro e w16 ⟨u6, rfl, hr, hb⟩
        refine ⟨_, rfl, ?_⟩
        have Q := Aside0.mk (Q.out.made hb hr)
        obtain ⟨B6, d6, rfl⟩ := Kd.R_slice hr
        clear hr hb hs_
        refine hK.out _ _ ((SQ.of Q.out.t.o Q.out.b)) (fun hHeld => ?_)
        clear hK K
        refine norm_ (a' := ?_) ?_ ?_
        rotate_left
        · show Act.put _ (some 54) _ = _
          simp only [Act.put, List.setIfInBounds_toArray, List.set_cons_zero, List.set_cons_succ, i64_w, i32_w]
          rfl
        refine one_ (i := 25) (N := some 57) #[true, true, true, true, true, true, true, true, true, true, true, true, true, true, true, true, true, true, true, true, true, true, true, true, true, true, false, false, false, false, false] rfl rfl (by kernel_rfl) (by decide) (fun K hK => ?_)
        have hs_ : Kd.C kI _ x7 X.f7.f2.length X.f7.f2 ∧ X.f7.f2.length ≤ c_7 := Q.out.src (x7, c_7, X.f7.f2) (by simp)
        refine goes_ Try.func30 (by kernel_rfl) rfl #[.agg #[.int .i64 X.f7.f0, .int .i64 X.f7.f1, .slice x7 X.f7.f2.length c_7]] (by rfl) rfl rfl (by simp only [List.map_toArray, List.map_cons, List.map_nil]; rfl) ?_
        with_reducible refine (tillerlaw04_Few.calls X.f7.f0 X.f7.f1 x7 c_7 X.f7.f2 X.f7.f0 X.f7.f1 Y7 _ hs_.1 hs_.2 F7.out).mono ?_
        rintro e w17 ⟨u7, rfl, hr, hb⟩
        refine ⟨_, rfl, ?_⟩
        have Q := Aside0.mk (Q.out.made hb hr)
        obtain ⟨B7, d7, rfl⟩ := Kd.R_slice hr
        clear hr hb hs_
        refine hK.out _ _ ((SQ.of Q.out.t.o Q.out.b)) (fun hHeld => ?_)
        clear hK K
        refine norm_ (a' := ?_) ?_ ?_
        rotate_left
        · show Act.put _ (some 57) _ = _
          simp only [Act.put, List.setIfInBounds_toArray, List.set_cons_zero, List.set_cons_succ, i64_w, i32_w]
          rfl
        refine pure_ (i := 26) (N := some 58) (v := ?_) (a' := ?_) #[true, true, true, true, true, true, true, true, true, true, true, true, true, true, true, true, true, true, true, true, true, true, true, true, true, true, true, false, false, false, false] rfl rfl (by kernel_rfl) (fun _ _ _ h => h) (Or.inl ⟨by rfl, ?_⟩) ?_ ?_
        rotate_left
        · intro w'
          go_simp
          with_reducible rfl
        rotate_left
        · simp only [Act.put, List.setIfInBounds_toArray, List.set_cons_zero, List.set_cons_succ, i64_w, i32_w]
          rfl
        refine one_ (i := 27) (N := some 59) #[true, true, true, true, true, true, true, true, true, true, true, true, true, true, true, true, true, true, true, true, true, true, true, true, true, true, true, true, false, false, false] rfl rfl (by kernel_rfl) (by decide) (fun K hK => ?_)
        refine value_ (w1 := ?_) (v := ?_) (by rfl) rfl ?_ ?_
        rotate_left 2
        · go_simp
          constructor
          · rfl
          · rfl
        refine hK.out _ _ ((SQ.of (Q.out.step (below_alloc (Below.refl _ _) (.cells [(Value.slice B0 Y0.length d0), (Value.int .i64 X.f1.f0), (Value.int .i64 X.f1.f1), (Value.slice B1 Y1.length d1), (Value.int .i64 X.f2.f0), (Value.int .i64 X.f2.f1), (Value.slice B2 Y2.length d2), (Value.int .i64 X.f3.f0), (Value.int .i64 X.f3.f1), (Value.slice B3 Y3.length d3), (Value.int .i64 X.f4.f0), (Value.int .i64 X.f4.f1), (Value.slice B4 Y4.length d4), (Value.slice B5 Y5.length d5), (Value.int .i64 X.f6.f0), (Value.int .i64 X.f6.f1), (Value.slice B6 Y6.length d6), (Value.int .i64 X.f7.f0), (Value.int .i64 X.f7.f1), (Value.slice B7 Y7.length d7)].toArray 74 (0, 0)))).t.o (Q.out.step (below_alloc (Below.refl _ _) (.cells [(Value.slice B0 Y0.length d0), (Value.int .i64 X.f1.f0), (Value.int .i64 X.f1.f1), (Value.slice B1 Y1.length d1), (Value.int .i64 X.f2.f0), (Value.int .i64 X.f2.f1), (Value.slice B2 Y2.length d2), (Value.int .i64 X.f3.f0), (Value.int .i64 X.f3.f1), (Value.slice B3 Y3.length d3), (Value.int .i64 X.f4.f0), (Value.int .i64 X.f4.f1), (Value.slice B4 Y4.length d4), (Value.slice B5 Y5.length d5), (Value.int .i64 X.f6.f0), (Value.int .i64 X.f6.f1), (Value.slice B6 Y6.length d6), (Value.int .i64 X.f7.f0), (Value.int .i64 X.f7.f1), (Value.slice B7 Y7.length d7)].toArray 74 (0, 0)))).b)) (fun hHeld => ?_)
        clear hK K
        refine norm_ (a' := ?_) ?_ ?_
        rotate_left
        · show Act.put _ (some 59) _ = _
          simp only [Act.put, List.setIfInBounds_toArray, List.set_cons_zero, List.set_cons_succ, i64_w, i32_w]
          rfl
        refine one_ (i := 28) (N := some 60) #[true, true, true, true, true, true, true, true, true, true, true, true, true, true, true, true, true, true, true, true, true, true, true, true, true, true, true, true, true, false, false] rfl rfl (by kernel_rfl) (by decide) (fun K hK => ?_)
        refine Kd.R_append_step kR (w0 := w17) n0 (by rfl) (.tmp 33) (.tmp 59) 39 74 (.agg #[(.slice none 0 0), (.int .i64 0), (.int .i64 0), (.slice none 0 0), (.int .i64 0), (.int .i64 0), (.slice none 0 0), (.int .i64 0), (.int .i64 0), (.slice none 0 0), (.int .i64 0), (.int .i64 0), (.slice none 0 0), (.slice none 0 0), (.int .i64 0), (.int .i64 0), (.slice none 0 0), (.int .i64 0), (.int .i64 0), (.slice none 0 0)]) 288 rfl Try.underlying39 info74 rfl (by decide) (by omega) (.slice AB XS.length cB) XS (⟨Y0, ⟨X.f1.f0, X.f1.f1, Y1⟩, ⟨X.f2.f0, X.f2.f1, Y2⟩, ⟨X.f3.f0, X.f3.f1, Y3⟩, ⟨X.f4.f0, X.f4.f1, Y4⟩, Y5, ⟨X.f6.f0, X.f6.f1, Y6⟩, ⟨X.f7.f0, X.f7.f1, Y7⟩⟩ : BR) [(Value.slice B0 Y0.length d0), (Value.int .i64 X.f1.f0), (Value.int .i64 X.f1.f1), (Value.slice B1 Y1.length d1), (Value.int .i64 X.f2.f0), (Value.int .i64 X.f2.f1), (Value.slice B2 Y2.length d2), (Value.int .i64 X.f3.f0), (Value.int .i64 X.f3.f1), (Value.slice B3 Y3.length d3), (Value.int .i64 X.f4.f0), (Value.int .i64 X.f4.f1), (Value.slice B4 Y4.length d4), (Value.slice B5 Y5.length d5), (Value.int .i64 X.f6.f0), (Value.int .i64 X.f6.f1), (Value.slice B6 Y6.length d6), (Value.int .i64 X.f7.f0), (Value.int .i64 X.f7.f1), (Value.slice B7 Y7.length d7)] (fun k => n0 ≤ k) (fun k => w5.heap.size ≤ k) (by rfl) (by rfl) (k74_mkM _ n0 (fun k => w5.heap.size ≤ k) (⟨Y0, ⟨X.f1.f0, X.f1.f1, Y1⟩, ⟨X.f2.f0, X.f2.f1, Y2⟩, ⟨X.f3.f0, X.f3.f1, Y3⟩, ⟨X.f4.f0, X.f4.f1, Y4⟩, Y5, ⟨X.f6.f0, X.f6.f1, Y6⟩, ⟨X.f7.f0, X.f7.f1, Y7⟩⟩ : BR) (Q.out.row (v := .slice B0 Y0.length d0) (l := Y0) (by simp)) (Q.out.row (v := .slice B1 Y1.length d1) (l := Y1) (by simp)) (Q.out.row (v := .slice B2 Y2.length d2) (l := Y2) (by simp)) (Q.out.row (v := .slice B3 Y3.length d3) (l := Y3) (by simp)) (Q.out.row (v := .slice B4 Y4.length d4) (l := Y4) (by simp)) (Q.out.row (v := .slice B5 Y5.length d5) (l := Y5) (by simp)) (Q.out.row (v := .slice B6 Y6.length d6) (l := Y6) (by simp)) (Q.out.row (v := .slice B7 Y7.length d7) (l := Y7) (by simp))) ?aQ (fun k hk => Nat.le_trans Q.out.t.up hk) Q.out.t.n (Below.refl _ _) Q.out.t.up (by have := HLn.out; omega) ?_
        (case aQ => exact fun k hk => ⟨Nat.le_trans Q.out.lb hk, fun e => by have h1 := Kd.R_lt TD.out.n k e.symm; have h2 := HUP.out; omega⟩)
        intro v9 w9 hN hB hg hat
        rw [HX.out] at hN
        obtain ⟨A9, c9, rfl⟩ := Kd.R_slice hN
        have hBB := blk_grown Q.out.b hg (fun e => by have h1 := Kd.R_lt TD.out.n _ e.symm; omega)
        have TD9 := Aside0.mk (Q.out.t.grown hN hB)
        have z8 := blk_cell TD9.out.o 3
        have z9 := blk_frozen TD9.out.o 3
        simp at z8
        clear hN hB hg hat
        refine hK.out _ _ ((SQ.of9 z8 hBB)) (fun hHeld => ?_)
        clear hK K
        refine norm_ (a' := ?_) ?_ ?_
        rotate_left
        · show Act.put _ (some 60) _ = _
          simp only [Act.put, List.setIfInBounds_toArray, List.set_cons_zero, List.set_cons_succ, i64_w, i32_w]
          rfl
        refine pure_ (i := 29) (N := some 61) (v := ?_) (a' := ?_) #[true, true, true, true, true, true, true, true, true, true, true, true, true, true, true, true, true, true, true, true, true, true, true, true, true, true, true, true, true, true, false] rfl rfl (by kernel_rfl) (fun _ _ _ h => h) (Or.inl ⟨by rfl, ?_⟩) ?_ ?_
        rotate_left
        · intro w'
          go_simp
          with_reducible rfl
        rotate_left
        · simp only [Act.put, List.setIfInBounds_toArray, List.set_cons_zero, List.set_cons_succ, i64_w, i32_w]
          rfl
        refine last_ (i := 30) (N := none) #[true, true, true, true, true, true, true, true, true, true, true, true, true, true, true, true, true, true, true, true, true, true, true, true, true, true, true, true, true, true, true] rfl rfl (by kernel_rfl) (by decide) (fun K hK => ?_)
        refine skip_ (w1 := ?_) (by rfl) rfl ?_ ?_
        rotate_left
        · go_simp
          rfl
        refine hK.out _ _ ?_
        clear hK K
        refine done_ (by kernel_rfl) ?_
        have TD := Aside0.mk (TD9.out.put (by decide) 3 (.slice A9 X2.length c9))
        go_wp2_with fail
        go_roundg q
        case measure => omega
        case rel => exact ⟨i + 1, .slice A9 X2.length c9, by go_num, ⟨by have := HI.out; omega⟩, ⟨by rw [HX2.out]; exact TD.out⟩⟩
      | zero =>
        have ht5 : (l3.take 5).length = min 5 l3.length := List.length_take
        have x3 := blk_cell TD.out.a 3
        simp at x3
        by_cases hlt : i < l3.length
        · have b1 : decide (i < l3.length) = true := decide_eq_true hlt
          have b5 : decide ((i : Int) < 5) = false := decide_eq_false (by omega)
          have HG := TD.out
          rw [show ((l3.take 5).take i).map cv_told = (l3.take 5).map cv_told by rw [List.take_of_length_le (by omega)]] at HG
          obtain ⟨nB, hnB⟩ : ∃ n, ((l3.take 5).map cv_told).length = n := ⟨_, rfl⟩
          rw [hnB] at HG
          have HG := Aside0.mk HG
          clear TD hi hm hnB ht5 hlt
          go_wp2_with (first
            | ((with_reducible refine gate_dst (N := 62) rfl ?_); go_loud (refine load_row_event #[.int .i64 r, .int .i64 c, v2, .slice AB nB cB, v4, .int .i64 r', .int .i64 c', v7] rfl rfl rfl rfl HG.out.o Try.underlying41 rfl (by kernel_rfl) ?_))
            | ((with_reducible refine gate_store (t := 41) (p := 2) rfl ?_); go_loud (refine store_box_event #[.int .i64 r, .int .i64 c, v2, .slice AB nB cB, v4, .int .i64 r', .int .i64 c', v7] rfl rfl rfl rfl rfl HG.out.r (by kernel_rfl) rfl (one8 HG.out _ _ _ _) ?_)))
          refine bodyPost_ret (results_cell_row rfl _ _ (w.heap.size + 1) 41 #[.int .i64 r, .int .i64 c, v2, .slice AB nB cB, v4, .int .i64 r', .int .i64 c', v7] (0, 0) _ rfl (blk_setRow HG.out.r _) Try.underlying41 rfl (by kernel_rfl)) rfl ⟨v2, .slice AB nB cB, v4, v7, rfl, ?_⟩
          exact HG.out.fin (by decide)
        · have b1 : decide (i < l3.length) = false := decide_eq_false hlt
          have HG := TD.out
          rw [show ((l3.take 5).take i).map cv_told = (l3.take 5).map cv_told by rw [List.take_of_length_le (by omega)]] at HG
          obtain ⟨nB, hnB⟩ : ∃ n, ((l3.take 5).map cv_told).length = n := ⟨_, rfl⟩
          rw [hnB] at HG
          have HG := Aside0.mk HG
          clear TD hi hm hnB ht5 hlt
          go_wp2_with (first
            | ((with_reducible refine gate_dst (N := 62) rfl ?_); go_loud (refine load_row_event #[.int .i64 r, .int .i64 c, v2, .slice AB nB cB, v4, .int .i64 r', .int .i64 c', v7] rfl rfl rfl rfl HG.out.o Try.underlying41 rfl (by kernel_rfl) ?_))
            | ((with_reducible refine gate_store (t := 41) (p := 2) rfl ?_); go_loud (refine store_box_event #[.int .i64 r, .int .i64 c, v2, .slice AB nB cB, v4, .int .i64 r', .int .i64 c', v7] rfl rfl rfl rfl rfl HG.out.r (by kernel_rfl) rfl (one8 HG.out _ _ _ _) ?_)))
          refine bodyPost_ret (results_cell_row rfl _ _ (w.heap.size + 1) 41 #[.int .i64 r, .int .i64 c, v2, .slice AB nB cB, v4, .int .i64 r', .int .i64 c', v7] (0, 0) _ rfl (blk_setRow HG.out.r _) Try.underlying41 rfl (by kernel_rfl)) rfl ⟨v2, .slice AB nB cB, v4, v7, rfl, ?_⟩
          exact HG.out.fin (by decide)
end Go.Proofs.Ytdlhodbokkaghaa.GQ
