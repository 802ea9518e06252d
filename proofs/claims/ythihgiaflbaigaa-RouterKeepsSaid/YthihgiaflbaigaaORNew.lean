/- router.New, walked by hand. Written by this session's program rnew.py. -/
import Derived.Test.YthihgiaflbaigaaGQx1
import Derived.Test.YthihgiaflbaigaaORPlace
set_option linter.unusedVariables false
set_option linter.unusedSimpArgs false
namespace Go.Proofs.Ythihgiaflbaigaa.ORouter
open Go.RowKit Go.Proofs.YthihgiaflbaigaaW.PrintWords Go.Proofs.YthihgiaflbaigaaW.PrintLast Go.Proofs.YthihgiaflbaigaaW.PrintMore Go.Proofs.Ythihgiaflbaigaa.GQ Go.Proofs.Ythihgiaflbaigaa.OMap Go.Proofs.Ythihgiaflbaigaa.UTrie Go.Proofs.Ythihgiaflbaigaa.OTrie
/-- A door without requests. -/
def newR (c : Cfg) (p : S31) : RX := ⟨c, p, List.replicate (p.f0 + p.f1 + 1).toNat false, 0, 0, fun _ => none, 0, []⟩
def newL (g q oc : Nat) : Lo := ⟨zX g 13, 0, q, oc, 0, none, 0, [], fun _ => False⟩
abbrev cells18 (c : Cfg) (p : S31) (q n oc : Nat) : Array Value := #[.int .i64 c.f0, .int .i64 c.f1, .int .i64 c.f2, .int .i64 c.f3, .int .i64 c.f4, .int .i64 p.f0, .int .i64 p.f1, .int .i64 p.f2, .int .i64 p.f3, .int .i64 p.f4, .slice (some ⟨q, 0, none⟩) n oc, .int .i64 0, .int .i64 0, .map none, .bool false, .int .i64 0, .int .i64 0, .slice none 0 0]
theorem newBox {W : World} {g : Nat} (c : Cfg) (p : S31) (q n oc : Nat) (hn : (newR c p).out.length = n) (e : W.heap[g]? = some (.cells (cells18 c p q n oc) 80 (0, 0))) : BoxAt W g (own18 (newR c p) (newL g q oc)) := by
  subst hn
  refine ⟨_, e, rfl, fun j u hj => ?_⟩
  rcases j with _ | _ | _ | _ | _ | _ | _ | _ | _ | _ | _ | _ | _ | _ | _ | _ | _ | _ | j <;> first | exact (Option.some.inj hj ▸ rfl) | cases hj
theorem newRT {W : World} {g lo : Nat} (c : Cfg) (p : S31) (q n oc : Nat) (hn : (newR c p).out.length = n) (e : W.heap[g]? = some (.cells (cells18 c p q n oc) 80 (0, 0))) (hlg : lo ≤ g) (hlq : lo ≤ q) (hq : q < g)
    (ho : kB.R 4 W lo (fun k => k = q) (.slice (some ⟨q, 0, none⟩) n oc) (newR c p).out) : RT W g lo (newR c p) (newL g q oc) := by
  have hg := blk_lt e
  have hm : ∀ k, mine (newL g q oc) k → k = g ∨ k = q := fun k hk => by
    rcases hk with z | z | z
    · exact .inl (foot_zero z)
    · exact .inr z
    · exact absurd z.1 (Nat.lt_irrefl 0)
  refine ⟨newBox c p q n oc hn e, TrieAt.zero ⟨_, _, e, rfl, rfl, rfl⟩, ⟨_, _, e, rfl⟩, rfl, by subst hn; exact ho, Kd.R_nil _ _ _ _ _, rfl, fun i hi => absurd hi (Nat.not_lt_zero i), fun k hk => (hm k hk).elim (fun z => by omega) (fun z => by omega), fun k hk => (hm k hk).elim (fun z => by omega) (fun z => by omega), fun k hk => hk.elim, fun hf => ?_, fun h0 => absurd h0 (Nat.lt_irrefl 0)⟩
  have := foot_zero hf
  have z : q = g := this
  omega
set_option maxHeartbeats 8000000 in
set_option maxRecDepth 100000 in
theorem new_calls (c : Cfg) (p : S31) (ee : Int) (w : World) (hC : router_Check.f 100 p.f0 p.f1 p.f2 p.f3 p.f4 = some ee) (hp : ee = 0 → (1 ≤ p.f0 ∧ p.f0 ≤ 7) ∧ 1 ≤ p.f1 ∧ p.f1 ≤ 7) :
    Calls Try.prog 7 #[.agg #[.int .i64 c.f0, .int .i64 c.f1, .int .i64 c.f2, .int .i64 c.f3, .int .i64 c.f4], .agg #[.int .i64 p.f0, .int .i64 p.f1, .int .i64 p.f2, .int .i64 p.f3, .int .i64 p.f4]] w fun e w' => Below w.heap.size w w' ∧ ((ee ≠ 0 ∧ e = .returned (.tuple #[.pointer none, .int .i64 ee])) ∨ (ee = 0 ∧ ∃ g q oc, e = .returned (.tuple #[.pointer (some ⟨g, 0, none⟩), .int .i64 0]) ∧ RT w' g w.heap.size (newR c p) (newL g q oc))) := by
  have b1 := below_alloc (Below.refl w.heap.size w) (.cells #[.int .i64 c.f0, .int .i64 c.f1, .int .i64 c.f2, .int .i64 c.f3, .int .i64 c.f4] 28 (0, 0))
  have E1 := blk_new w (.cells #[.int .i64 c.f0, .int .i64 c.f1, .int .i64 c.f2, .int .i64 c.f3, .int .i64 c.f4] 28 (0, 0))
  have s1 : (w.alloc (.cells #[.int .i64 c.f0, .int .i64 c.f1, .int .i64 c.f2, .int .i64 c.f3, .int .i64 c.f4] 28 (0, 0))).heap.size = w.heap.size + 1 := World.size_alloc _ _
  have b2 := below_alloc (Below.refl (w.alloc (.cells #[.int .i64 c.f0, .int .i64 c.f1, .int .i64 c.f2, .int .i64 c.f3, .int .i64 c.f4] 28 (0, 0))).heap.size (w.alloc (.cells #[.int .i64 c.f0, .int .i64 c.f1, .int .i64 c.f2, .int .i64 c.f3, .int .i64 c.f4] 28 (0, 0)))) (.cells #[.int .i64 p.f0, .int .i64 p.f1, .int .i64 p.f2, .int .i64 p.f3, .int .i64 p.f4] 31 (0, 0))
  have E3 := Aside0.mk (blk_new (w.alloc (.cells #[.int .i64 c.f0, .int .i64 c.f1, .int .i64 c.f2, .int .i64 c.f3, .int .i64 c.f4] 28 (0, 0))) (.cells #[.int .i64 p.f0, .int .i64 p.f1, .int .i64 p.f2, .int .i64 p.f3, .int .i64 p.f4] 31 (0, 0)))
  have E2 := Aside0.mk (blk_below E1 b2)
  have B2 := Aside0.mk (b1.trans (b2.mono b1.size))
  rw [s1] at E3
  obtain ⟨w2, hw2⟩ : ∃ w2, w2 = (w.alloc (.cells #[.int .i64 c.f0, .int .i64 c.f1, .int .i64 c.f2, .int .i64 c.f3, .int .i64 c.f4] 28 (0, 0))).alloc (.cells #[.int .i64 p.f0, .int .i64 p.f1, .int .i64 p.f2, .int .i64 p.f3, .int .i64 p.f4] 31 (0, 0)) := ⟨_, rfl⟩
  rw [← hw2] at E2 E3 B2
  have HC := Aside0.mk hC
  have HP := Aside0.mk hp
  clear b1 E1 s1 b2 hC hp
  go_enter Try.func7, Try.ntmps7
  go_upto_region 1 with (fail)
  rw [← hw2]
  clear hw2
  generalize w.heap.size = G2 at E2 E3 ⊢
  have y0 := blk_cell E3.out 0
  have y1 := blk_cell E3.out 1
  have y2 := blk_cell E3.out 2
  have y3 := blk_cell E3.out 3
  have y4 := blk_cell E3.out 4
  simp at y0 y1 y2 y3 y4
  have CK := Aside0.mk (router_Check.calls 100 p.f0 p.f1 p.f2 p.f3 p.f4 ee w2 HC.out)
  go_upto_if 10 with (go_at_call 17; go_loud ((refine CK.out.mono ?_); rintro e w3 ⟨rfl, hb⟩; have E4 := Aside0.mk (blk_below E2.out hb); have E5 := Aside0.mk (blk_below E3.out hb); have B3 := Aside0.mk (B2.out.trans (hb.mono B2.out.size)); clear hb))
  clear y0 y1 y2 y3 y4 CK E2 E3 B2
  by_cases he : ee = 0
  · have f1 : (ee == 0) = true := beq_iff_eq.mpr he
    have f2 : (ee != 0) = false := bne_eq_false_iff_eq.mpr he
    obtain ⟨⟨p1, p2⟩, p3, p4⟩ := HP.out he
    have w1 : IntKind.i64.wrap (p.f0 + p.f1) = p.f0 + p.f1 := by rw [IntKind.wrap_i64]; omega
    have w2 : IntKind.i64.wrap (p.f0 + p.f1 + 1) = p.f0 + p.f1 + 1 := by rw [IntKind.wrap_i64]; omega
    have HE := Aside0.mk he
    have PB := Aside0.mk (show 0 ≤ p.f0 + p.f1 + 1 ∧ (p.f0 + p.f1 + 1).toNat * 1 ≤ 281474976710656 ∧ 1 ≤ p.f0 + p.f1 + 1 from by omega)
    have y0 := blk_cell E5.out 0
    have y1 := blk_cell E5.out 1
    have y2 := blk_cell E5.out 2
    have y3 := blk_cell E5.out 3
    have y4 := blk_cell E5.out 4
    have x0 := blk_cell E4.out 0
    have x1 := blk_cell E4.out 1
    have x2 := blk_cell E4.out 2
    have x3 := blk_cell E4.out 3
    have x4 := blk_cell E4.out 4
    simp at y0 y1 y2 y3 y4 x0 x1 x2 x3 x4
    have BD := Aside0.mk (show Below w3.heap.size w3 w3.drew from (Below.refl _ _).drew)
    have KP := Aside0.mk (show ∀ W, Below w3.heap.size w3 W → (W.cell? ⟨G2, 0, none⟩ = some (.int .i64 c.f0) ∧ W.cell? ⟨G2, 1, none⟩ = some (.int .i64 c.f1) ∧ W.cell? ⟨G2, 2, none⟩ = some (.int .i64 c.f2) ∧ W.cell? ⟨G2, 3, none⟩ = some (.int .i64 c.f3) ∧ W.cell? ⟨G2, 4, none⟩ = some (.int .i64 c.f4) ∧ W.cell? ⟨G2 + 1, 0, none⟩ = some (.int .i64 p.f0) ∧ W.cell? ⟨G2 + 1, 1, none⟩ = some (.int .i64 p.f1) ∧ W.cell? ⟨G2 + 1, 2, none⟩ = some (.int .i64 p.f2) ∧ W.cell? ⟨G2 + 1, 3, none⟩ = some (.int .i64 p.f3) ∧ W.cell? ⟨G2 + 1, 4, none⟩ = some (.int .i64 p.f4)) from fun W hb => ⟨pw_cell_below hb x0, pw_cell_below hb x1, pw_cell_below hb x2, pw_cell_below hb x3, pw_cell_below hb x4, pw_cell_below hb y0, pw_cell_below hb y1, pw_cell_below hb y2, pw_cell_below hb y3, pw_cell_below hb y4⟩)
    clear he p1 p2 p3 p4 x0 x1 x2 x3 x4 y0 y1 y2 y3 y4
    go_upto_region 4 with (fail)
    refine start_ (n := 13) (S := fun w' => w'.cell? ⟨G2, 0, none⟩ = some (.int .i64 c.f0) ∧ w'.cell? ⟨G2, 1, none⟩ = some (.int .i64 c.f1) ∧ w'.cell? ⟨G2, 2, none⟩ = some (.int .i64 c.f2) ∧ w'.cell? ⟨G2, 3, none⟩ = some (.int .i64 c.f3) ∧ w'.cell? ⟨G2, 4, none⟩ = some (.int .i64 c.f4) ∧ w'.cell? ⟨G2 + 1, 0, none⟩ = some (.int .i64 p.f0) ∧ w'.cell? ⟨G2 + 1, 1, none⟩ = some (.int .i64 p.f1) ∧ w'.cell? ⟨G2 + 1, 2, none⟩ = some (.int .i64 p.f2) ∧ w'.cell? ⟨G2 + 1, 3, none⟩ = some (.int .i64 p.f3) ∧ w'.cell? ⟨G2 + 1, 4, none⟩ = some (.int .i64 p.f4)) (ds := []) #[false, false, false, false, false, false, false, false, false, false, false, false, false] (by kernel_rfl) rfl rfl ⟨(KP.out _ BD.out).1, (KP.out _ BD.out).2.1, (KP.out _ BD.out).2.2.1, (KP.out _ BD.out).2.2.2.1, (KP.out _ BD.out).2.2.2.2.1, (KP.out _ BD.out).2.2.2.2.2.1, (KP.out _ BD.out).2.2.2.2.2.2.1, (KP.out _ BD.out).2.2.2.2.2.2.2.1, (KP.out _ BD.out).2.2.2.2.2.2.2.2.1, (KP.out _ BD.out).2.2.2.2.2.2.2.2.2⟩ (fun hHeld => ?_)
    refine pure_ (i := 2) (N := some 14) (v := ?_) (a' := ?_) #[false, false, true, false, false, false, false, false, false, false, false, false, false] rfl rfl (by kernel_rfl) (fun _ _ _ h => h) (Or.inl ⟨by rfl, ?_⟩) ?_ ?_
    rotate_left
    · intro w'
      go_simp
      with_reducible rfl
    rotate_left
    · simp only [Act.put, List.setIfInBounds_toArray, List.set_cons_zero, List.set_cons_succ, i64_w, i32_w]
      rfl
    refine pure_ (i := 4) (N := some 16) (v := ?_) (a' := ?_) #[false, false, true, false, true, false, false, false, false, false, false, false, false] rfl rfl (by kernel_rfl) (fun _ _ _ h => h) (Or.inl ⟨by rfl, ?_⟩) ?_ ?_
    rotate_left
    · intro w'
      go_simp
      with_reducible rfl
    rotate_left
    · simp only [Act.put, List.setIfInBounds_toArray, List.set_cons_zero, List.set_cons_succ, i64_w, i32_w]
      rfl
    refine take_ (i := 0) (N := some 12) (v := ?_) (a' := ?_) #[true, false, true, false, true, false, false, false, false, false, false, false, false] rfl rfl (by kernel_rfl) (fun _ _ _ h => h) (Or.inl ⟨by rfl, ?_⟩) hHeld ?_ ?_
    rotate_left
    · rintro w' ⟨s0, s1, s2, s3, s4, s5, s6, s7, s8, s9⟩
      go_simp
      with_reducible rfl
    rotate_left
    · simp only [Act.put, List.setIfInBounds_toArray, List.set_cons_zero, List.set_cons_succ, i64_w, i32_w]
      rfl
    refine take_ (i := 1) (N := some 13) (v := ?_) (a' := ?_) #[true, true, true, false, true, false, false, false, false, false, false, false, false] rfl rfl (by kernel_rfl) (fun _ _ _ h => h) (Or.inl ⟨by rfl, ?_⟩) hHeld ?_ ?_
    rotate_left
    · rintro w' ⟨s0, s1, s2, s3, s4, s5, s6, s7, s8, s9⟩
      go_simp
      with_reducible rfl
    rotate_left
    · simp only [Act.put, List.setIfInBounds_toArray, List.set_cons_zero, List.set_cons_succ, i64_w, i32_w]
      rfl
    refine take_ (i := 3) (N := some 15) (v := ?_) (a' := ?_) #[true, true, true, true, true, false, false, false, false, false, false, false, false] rfl rfl (by kernel_rfl) (fun _ _ _ h => h) (Or.inl ⟨by rfl, ?_⟩) hHeld ?_ ?_
    rotate_left
    · rintro w' ⟨s0, s1, s2, s3, s4, s5, s6, s7, s8, s9⟩
      go_simp
      with_reducible rfl
    rotate_left
    · simp only [Act.put, List.setIfInBounds_toArray, List.set_cons_zero, List.set_cons_succ, i64_w, i32_w]
      rfl
    refine take_ (i := 5) (N := some 17) (v := ?_) (a' := ?_) #[true, true, true, true, true, true, false, false, false, false, false, false, false] rfl rfl (by kernel_rfl) (fun _ _ _ h => h) (Or.inl ⟨by rfl, ?_⟩) hHeld ?_ ?_
    rotate_left
    · rintro w' ⟨s0, s1, s2, s3, s4, s5, s6, s7, s8, s9⟩
      go_simp
      with_reducible rfl
    rotate_left
    · simp only [Act.put, List.setIfInBounds_toArray, List.set_cons_zero, List.set_cons_succ, i64_w, i32_w]
      rfl
    refine pure_ (i := 6) (N := some 18) (v := ?_) (a' := ?_) #[true, true, true, true, true, true, true, false, false, false, false, false, false] rfl rfl (by kernel_rfl) (fun _ _ _ h => h) (Or.inl ⟨by rfl, ?_⟩) ?_ ?_
    rotate_left
    · intro w'
      go_simp
      with_reducible rfl
    rotate_left
    · simp only [Act.put, List.setIfInBounds_toArray, List.set_cons_zero, List.set_cons_succ, i64_w, i32_w]
      rfl
    refine pure_ (i := 7) (N := some 19) (v := ?_) (a' := ?_) #[true, true, true, true, true, true, true, true, false, false, false, false, false] rfl rfl (by kernel_rfl) (fun _ _ _ h => h) (Or.inl ⟨by rfl, ?_⟩) ?_ ?_
    rotate_left
    · intro w'
      go_simp
      with_reducible rfl
    rotate_left
    · simp only [Act.put, List.setIfInBounds_toArray, List.set_cons_zero, List.set_cons_succ, i64_w, i32_w]
      rfl
    refine one_ (i := 8) (N := some 20) #[true, true, true, true, true, true, true, true, true, false, false, false, false] rfl rfl (by kernel_rfl) (by decide) (fun K hK => ?_)
    refine Kd.R_make_step kB (w0 := w3.drew) w3.drew.heap.size 4 (by rfl) (N := 20) rfl 47 (.tmp 19) (.tmp 19) rfl (p.f0 + p.f1 + 1) (by rfl) (by rfl) Try.underlying47 (.bool false) 1 (by kernel_rfl) rfl (by decide) (by decide) false (ok := fun _ => True) (okp := fun _ => True) rfl (fun _ hk => hk) trivial PB.out.1 PB.out.2.1 (Below.refl _ _) (Nat.le_refl _) ?_
    intro v8 w8 ho hb hg hnew
    obtain ⟨q, oc, rfl, hq1, hq2, _⟩ := Kd.R_form ho (by rw [List.length_replicate]; have := PB.out.2.2; omega)
    have B8 := Aside0.mk (show Below w3.heap.size w3 w8 from BD.out.trans hb)
    have HO := Aside0.mk ho
    have HQ := Aside0.mk (And.intro hq1 hq2)
    clear ho hb hg hnew hq1 hq2
    refine hK.out _ _ ⟨(KP.out _ B8.out).1, (KP.out _ B8.out).2.1, (KP.out _ B8.out).2.2.1, (KP.out _ B8.out).2.2.2.1, (KP.out _ B8.out).2.2.2.2.1, (KP.out _ B8.out).2.2.2.2.2.1, (KP.out _ B8.out).2.2.2.2.2.2.1, (KP.out _ B8.out).2.2.2.2.2.2.2.1, (KP.out _ B8.out).2.2.2.2.2.2.2.2.1, (KP.out _ B8.out).2.2.2.2.2.2.2.2.2⟩ (fun hHeld => ?_)
    clear hK K
    refine norm_ (a' := ?_) ?_ ?_
    rotate_left
    · show Act.put _ (some 20) _ = _
      simp only [Act.put, List.setIfInBounds_toArray, List.set_cons_zero, List.set_cons_succ, i64_w, i32_w]
      rfl
    refine pure_ (i := 9) (N := some 21) (v := ?_) (a' := ?_) #[true, true, true, true, true, true, true, true, true, true, false, false, false] rfl rfl (by kernel_rfl) (fun _ _ _ h => h) (Or.inl ⟨by rfl, ?_⟩) ?_ ?_
    rotate_left
    · intro w'
      go_simp
      with_reducible rfl
    rotate_left
    · simp only [Act.put, List.setIfInBounds_toArray, List.set_cons_zero, List.set_cons_succ, i64_w, i32_w]
      rfl
    refine one_ (i := 10) (N := some 22) #[true, true, true, true, true, true, true, true, true, true, true, false, false] rfl rfl (by kernel_rfl) (by decide) (fun K hK => ?_)
    refine value_ (w1 := ?_) (v := ?_) (by rfl) rfl ?_ ?_
    rotate_left 2
    · go_simp
      constructor
      · rfl
      · rfl
    refine hK.out _ _ ⟨(KP.out _ (below_alloc B8.out _)).1, (KP.out _ (below_alloc B8.out _)).2.1, (KP.out _ (below_alloc B8.out _)).2.2.1, (KP.out _ (below_alloc B8.out _)).2.2.2.1, (KP.out _ (below_alloc B8.out _)).2.2.2.2.1, (KP.out _ (below_alloc B8.out _)).2.2.2.2.2.1, (KP.out _ (below_alloc B8.out _)).2.2.2.2.2.2.1, (KP.out _ (below_alloc B8.out _)).2.2.2.2.2.2.2.1, (KP.out _ (below_alloc B8.out _)).2.2.2.2.2.2.2.2.1, (KP.out _ (below_alloc B8.out _)).2.2.2.2.2.2.2.2.2⟩ (fun hHeld => ?_)
    clear hK K
    refine norm_ (a' := ?_) ?_ ?_
    rotate_left
    · show Act.put _ (some 22) _ = _
      simp only [Act.put, List.setIfInBounds_toArray, List.set_cons_zero, List.set_cons_succ, i64_w, i32_w]
      rfl
    refine pure_ (i := 11) (N := some 4) (v := ?_) (a' := ?_) #[true, true, true, true, true, true, true, true, true, true, true, true, false] rfl rfl (by kernel_rfl) (fun _ _ _ h => h) (Or.inl ⟨by rfl, ?_⟩) ?_ ?_
    rotate_left
    · intro w'
      go_simp
      with_reducible rfl
    rotate_left
    · simp only [Act.put, List.setIfInBounds_toArray, List.set_cons_zero, List.set_cons_succ, i64_w, i32_w]
      rfl
    refine pure_ (i := 12) (N := some 5) (v := ?_) (a' := ?_) #[true, true, true, true, true, true, true, true, true, true, true, true, true] rfl rfl (by kernel_rfl) (fun _ _ _ h => h) (Or.inl ⟨by rfl, ?_⟩) ?_ ?_
    rotate_left
    · intro w'
      go_simp
      with_reducible rfl
    rotate_left
    · simp only [Act.put, List.setIfInBounds_toArray, List.set_cons_zero, List.set_cons_succ, i64_w, i32_w]
      rfl
    refine done_ (by kernel_rfl) ?_
    obtain ⟨w9, hw9⟩ : ∃ w9, w9 = w8.alloc (.cells (cells18 c p q (List.replicate (p.f0 + p.f1 + 1).toNat false).length oc) 80 (0, 0)) := ⟨_, rfl⟩
    have bb := below_alloc (Below.refl w8.heap.size w8) (.cells (cells18 c p q (List.replicate (p.f0 + p.f1 + 1).toNat false).length oc) 80 (0, 0))
    have s3 : w.heap.size ≤ w3.heap.size := B3.out.size
    have s8 : w3.heap.size ≤ w8.heap.size := B8.out.size
    have RR := Aside0.mk (newRT (W := w9) (g := w8.heap.size) (lo := w.heap.size) c p q _ oc rfl (by rw [hw9]; exact blk_new w8 _) (by omega) (by have h := HQ.out.1; have h2 : w3.heap.size ≤ q := h; omega) HQ.out.2 (by
      rw [hw9]
      refine Kd.R_below ?_ bb
      exact Kd.R_lower (Kd.R_reok rfl HO.out (fun k hk => by simpa [Value.ownBlock] using hk.symm)) (by show w.heap.size ≤ w3.heap.size; exact s3)))
    have BZ := Aside0.mk (show Below w.heap.size w w9 from by rw [hw9]; exact (B3.out.trans (B8.out.mono s3)).trans (bb.mono (by omega)))
    clear HO HQ KP BD hHeld bb s3 s8
    simp only [List.length_replicate] at hw9 RR
    go_wp2
    rw [← hw9]
    go_ret2
    exact ⟨BZ.out, .inr ⟨HE.out, _, _, _, rfl, RR.out⟩⟩
  · have f1 : (ee == 0) = false := beq_eq_false_iff_ne.mpr he
    have f2 : (ee != 0) = true := bne_iff_ne.mpr he
    have HE := Aside0.mk he
    clear he
    go_wp2
    go_ret2
    exact ⟨B3.out, .inl ⟨HE.out, rfl⟩⟩
end Go.Proofs.Ythihgiaflbaigaa.ORouter
