/- The pool's methods Drop, Take, and New, walked by hand. -/
import Derived.Test.YtmbbaalpeomnlaaOPool4
import Derived.OwnWalk
import Derived.StillTailTactics
set_option linter.unusedVariables false
set_option linter.unusedSimpArgs false
namespace Go.Proofs.Ytmbbaalpeomnlaa.OPool
open Go.RowKit Go.Proofs.YtmbbaalpeomnlaaW.PrintWords Go.Proofs.YtmbbaalpeomnlaaW.PrintLast Go.Proofs.YtmbbaalpeomnlaaW.PrintMore Go.Proofs.Ytmbbaalpeomnlaa.GQ Go.Proofs.Ytmbbaalpeomnlaa.ODel
set_option maxHeartbeats 4000000 in
theorem drop_one (base : Nat) (ok : Nat → Prop) (g : Nat) (X : PX) (i : Int) (w : World) (h : PoolAt base ok w g X) (hfresh : ∀ k, w.heap.size ≤ k → ok k)
    (ht : there X.pages i = true) (hone : (pg X.pages i).f0 = 1) (hroom : X.idle.length ≤ 63) :
    Calls Try.prog 13 #[.pointer (some ⟨g, 0, none⟩), .int .i64 i] w fun e w' => e = .returned (.int .i64 (pDrop X i).2) ∧ Post base ok w w' g (pDrop X i).1 := by
  obtain ⟨b, A, c, h1, h2, h3, h4, h5, h6, h7, h8⟩ := h
  have hX : PoolAt base ok w g X := ⟨b, A, c, h1, h2, h3, h4, h5, h6, h7, h8⟩
  have H := Aside0.mk h1
  have hi := there_iff ht
  have T := Aside0.mk ht
  obtain ⟨k0, k1, k2, z0, z1, z2⟩ := h1.cells6 i hi.1 hi.2.1
  rw [hone] at k0
  have r1 := h1.put i hi.1 hi.2.1 0 (by omega) (.int .i64 0) ⟨0, (pg X.pages i).f1, (pg X.pages i).f2⟩ rfl
  have hi' : i < (pset X.pages i ⟨0, (pg X.pages i).f1, (pg X.pages i).f2⟩).length := by rw [pset_len]; exact hi.2.1
  obtain ⟨m0, m1, m2, y0, y1, y2⟩ := r1.cells6 i hi.1 hi'
  rw [pg_pset _ _ _ hi.1 hi.2.1] at m0 m1 m2
  have hQ1 : (Kd.int .i64).Q 3 (w.setCell ⟨b, i.toNat * 3 + 0, none⟩ (.int .i64 0)) base ok (.slice A X.idle.length c) X.idle := Kd.Q_set h6 h1.2 (by decide) _ _
  have hK1 := kept_set w ok ⟨b, i.toNat * 3 + 0, none⟩ (.int .i64 0) h5
  have hB1 : Below base w (w.setCell ⟨b, i.toNat * 3 + 0, none⟩ (.int .i64 0)) := (Below.refl _ _).setCell h4 _
  simp only [Nat.add_zero] at r1 m0 m1 m2 y0 y1 y2 hQ1 hK1 hB1
  have g1 := blk_cell r1.1 1
  simp at g1
  have e0 : pDrop X i = (⟨pset X.pages i ⟨0, (pg X.pages i).f1, (pg X.pages i).f2⟩, if (pg X.pages i).f1 = true then X.idle ++ [i] else X.idle⟩, 0) := by unfold pDrop; rw [if_pos ⟨ht, by omega⟩, hone, if_neg (by omega)]; rfl
  have hsz : (w.setCell ⟨b, i.toNat * 3, none⟩ (.int .i64 0)).heap.size = w.heap.size := by simp [World.setCell]
  cases hs : (pg X.pages i).f1
  · rw [e0, if_neg (by rw [hs]; decide)]
    have P := Aside0.mk (show Post base ok w _ g ⟨pset X.pages i ⟨0, (pg X.pages i).f1, (pg X.pages i).f2⟩, X.idle⟩ from
      ⟨hB1, hK1, b, A, c, r1, h2, h3, h4, h5, hQ1, by rw [pset_len]; exact h7, h8⟩)
    have hs' := Aside0.mk hs
    simp only [hs] at m1
    clear h1 h6 hX ht e0 hi hroom r1 hQ1 hK1 hB1 hi' hone hs hsz
    go_enter Try.func13, Try.ntmps13
    go_wp2_with (first | (go_at_call 22; refine (at_there g b _ X.pages i _ H.out T.out).mono ?_; rintro e w' ⟨rfl, rfl⟩))
    go_ret
    exact ⟨rfl, P.out⟩
  · rw [e0, if_pos hs]
    have R1 := Aside0.mk r1
    have Q1 := Aside0.mk hQ1
    have K1 := Aside0.mk hK1
    have B1 := Aside0.mk hB1
    have SZ := Aside0.mk hsz
    have LT := Aside0.mk (show base ≤ w.heap.size from hX.lt)
    simp only [hs] at m1
    have y3 := blk_frozen r1.1 1
    clear h1 h6 hX ht e0 hi r1 hQ1 hK1 hB1 hi' hone hsz
    have HS := Aside0.mk hs
    clear hs
    go_enter Try.func13, Try.ntmps13
    go_wp2_with (first
      | (go_at_call 22; refine (at_there g b _ X.pages i _ H.out T.out).mono ?_; rintro e w' ⟨rfl, rfl⟩)
      | ((with_reducible refine gate_builtin (b := .append) (xs := #[.tmp 42, .tmp 44]) rfl ?_); refine Kd.Q_append (Kd.int .i64) (w0 := w) base rfl (.tmp 42) (.tmp 44) 34 3 (.int .i64 0) 8 rfl Try.underlying34 info3 rfl (by decide) (by omega) (.slice A X.idle.length c) X.idle i [.int .i64 i] ok (fun _ => False) rfl (by rw [SZ.out]; rfl) ?aP (fun _ hk => hk.elim) ?aF ?aO ?aB ?aS ?aL ?_; (case aP => exact rfl); (case aF => exact fun k hk => hfresh k (by rw [SZ.out] at hk; exact hk)); (case aO => exact Q1.out); (case aB => exact B1.out); (case aS => rw [SZ.out]; exact LT.out); (case aL => omega); intro v1 w2 ho hb hg hat; obtain ⟨A2, c2, rfl, hcap⟩ := Kd.Q_slice ho; have hg1 := blk_grown R1.out.1 hg (Kd.Q_ne Q1.out R1.out.1 (by decide)); have hg2 := blk_grown R1.out.2 hg (Kd.Q_ne Q1.out R1.out.2 (by decide)); have y4 := blk_frozen hg1 1; have y5 := blk_cell hg1 1; simp at y5; have P := Aside0.mk (And.intro ho (And.intro hb (And.intro (And.intro hg1 hg2 : Raw _ _ _ _ _) (Kept.of_grown hg K1.out (fun k hk => .inl (Kd.Q_ok Q1.out k hk)))))); clear ho hb hg hat hg1 hg2))
    go_ret
    obtain ⟨ho, hb, hR, hk⟩ := P.out
    have hR' : Raw w2 g b (.slice A X.idle.length c) (pset X.pages i ⟨0, (pg X.pages i).f1, (pg X.pages i).f2⟩) := hR
    refine ⟨rfl, hb.setCell h2 _, hk.then_ (kept_set _ ok _ _ h3) (fun _ h => .inl h), b, A2, c2, ?_, h2, h3, h4, h5, ?_, by rw [pset_len]; exact h7, by simp; omega⟩
    · show Raw _ g b (.slice A2 (X.idle ++ [i]).length c2) _
      rw [List.length_append, List.length_singleton]
      exact hR'.field _
    · show (Kd.int .i64).Q _ _ base ok (.slice A2 (X.idle ++ [i]).length c2) (X.idle ++ [i])
      exact Kd.Q_set ho hR'.1 (by decide) _ _
set_option maxHeartbeats 4000000 in
theorem drop_calls (base : Nat) (ok : Nat → Prop) (g : Nat) (X : PX) (i : Int) (w : World) (h : PoolAt base ok w g X) (hfresh : ∀ k, w.heap.size ≤ k → ok k)
    (hlow : there X.pages i = true → 0 ≤ (pg X.pages i).f0 ∧ (pg X.pages i).f0 ≤ 1000) (hroom : there X.pages i = true → X.idle.length ≤ 63 ∨ ¬ (pg X.pages i).f0 = 1) :
    Calls Try.prog 13 #[.pointer (some ⟨g, 0, none⟩), .int .i64 i] w fun e w' => e = .returned (.int .i64 (pDrop X i).2) ∧ Post base ok w w' g (pDrop X i).1 := by
  obtain ⟨b, A, c, h1, h2, h3, h4, h5, h6, h7, h8⟩ := h
  have hX : PoolAt base ok w g X := ⟨b, A, c, h1, h2, h3, h4, h5, h6, h7, h8⟩
  have H := Aside0.mk h1
  cases ht : there X.pages i
  · have e0 : pDrop X i = (X, 8) := by unfold pDrop; rw [if_neg (by rw [ht]; simp)]
    rw [e0]
    have T := Aside0.mk ht
    have P := Aside0.mk (hX.same (Below.refl _ _))
    clear h1 h6 hX ht e0 hlow hroom
    go_enter Try.func13, Try.ntmps13
    go_wp2_with (first | (go_at_call 22; refine (at_free g b _ X.pages i _ H.out T.out).mono ?_; rintro e w' ⟨rfl, rfl⟩))
    go_ret
    exact ⟨rfl, P.out⟩
  have hi := there_iff ht
  have T := Aside0.mk ht
  have hf0 := hlow ht
  obtain ⟨k0, k1, k2, z0, z1, z2⟩ := h1.cells6 i hi.1 hi.2.1
  by_cases hz : (pg X.pages i).f0 = 0
  · have e0 : pDrop X i = (X, 8) := by unfold pDrop; rw [if_neg (by simp [hz])]
    rw [e0]
    have P := Aside0.mk (hX.same (Below.refl _ _))
    rw [hz] at k0
    clear h1 h6 hX ht e0 hlow hz hi hroom
    go_enter Try.func13, Try.ntmps13
    go_wp2_with (first | (go_at_call 22; refine (at_there g b _ X.pages i _ H.out T.out).mono ?_; rintro e w' ⟨rfl, rfl⟩))
    go_ret
    exact ⟨rfl, P.out⟩
  have d1 : ((pg X.pages i).f0 == 0) = false := beq_eq_false_iff_ne.mpr hz
  have e0 : pDrop X i = (⟨pset X.pages i ⟨(pg X.pages i).f0 - 1, (pg X.pages i).f1, (pg X.pages i).f2⟩, if (pg X.pages i).f0 - 1 > 0 then X.idle else if (pg X.pages i).f1 = true then X.idle ++ [i] else X.idle⟩, 0) := by unfold pDrop; rw [if_pos ⟨ht, hz⟩]
  have r1 := h1.put i hi.1 hi.2.1 0 (by omega) (.int .i64 ((pg X.pages i).f0 - 1)) ⟨(pg X.pages i).f0 - 1, (pg X.pages i).f1, (pg X.pages i).f2⟩ rfl
  have hi' : i < (pset X.pages i ⟨(pg X.pages i).f0 - 1, (pg X.pages i).f1, (pg X.pages i).f2⟩).length := by rw [pset_len]; exact hi.2.1
  obtain ⟨m0, m1, m2, y0, y1, y2⟩ := r1.cells6 i hi.1 hi'
  rw [pg_pset _ _ _ hi.1 hi.2.1] at m0 m1 m2
  have hQ1 : (Kd.int .i64).Q 3 (w.setCell ⟨b, i.toNat * 3 + 0, none⟩ (.int .i64 ((pg X.pages i).f0 - 1))) base ok (.slice A X.idle.length c) X.idle := Kd.Q_set h6 h1.2 (by decide) _ _
  have hK1 := kept_set w ok ⟨b, i.toNat * 3 + 0, none⟩ (.int .i64 ((pg X.pages i).f0 - 1)) h5
  have hB1 : Below base w (w.setCell ⟨b, i.toNat * 3 + 0, none⟩ (.int .i64 ((pg X.pages i).f0 - 1))) := (Below.refl _ _).setCell h4 _
  simp only [Nat.add_zero] at r1 m0 m1 m2 y0 y1 y2 hQ1 hK1 hB1
  by_cases hp : (pg X.pages i).f0 - 1 > 0
  · rw [e0, if_pos hp]
    have P := Aside0.mk (show Post base ok w _ g ⟨pset X.pages i ⟨(pg X.pages i).f0 - 1, (pg X.pages i).f1, (pg X.pages i).f2⟩, X.idle⟩ from
      ⟨hB1, hK1, b, A, c, r1, h2, h3, h4, h5, hQ1, by rw [pset_len]; exact h7, h8⟩)
    have d2 : decide ((pg X.pages i).f0 - 1 > 0) = true := decide_eq_true hp
    have d3 : 1 < (pg X.pages i).f0 := by omega
    clear h1 h6 hX ht e0 hlow hz hi hroom hp r1 hQ1 hK1 hB1 hi'
    generalize pg X.pages i = p at *
    go_enter Try.func13, Try.ntmps13
    go_wp2_with (first | (go_at_call 22; refine (at_there g b _ X.pages i _ H.out T.out).mono ?_; rintro e w' ⟨rfl, rfl⟩))
    go_ret
    exact ⟨rfl, P.out⟩
  have hone : (pg X.pages i).f0 = 1 := by omega
  exact drop_one base ok g X i w hX hfresh ht hone (by have := hroom ht; omega)
/-! ### Take -/
theorem Raw.reads {W : World} {g b : Nat} {vi : Value} {ps : List PG} (h : Raw W g b vi ps) (hl : ps.length ≤ 64) : Kd.C k55 W (some ⟨b, 0, none⟩) ps.length ps := by
  refine ⟨rfl, by omega, fun _ => ⟨_, rfl, fun j p hp => ?_⟩⟩
  obtain ⟨hj, rfl⟩ := List.getElem?_eq_some_iff.1 hp
  refine ⟨_, rfl, k55_mk W ps[j], fun i u hu => ?_⟩
  have hi : i < 3 := by
    have := (List.getElem?_eq_some_iff.1 hu).1
    simpa using this
  have hc : W.cell? ⟨b, j * 3 + i, none⟩ = (pcells (ps.getD j z55))[i]? := by
    rw [blk_cell h.2]
    exact pblock_at ps j i hj hi
  rw [List.getD_eq_getElem?_getD, List.getElem?_eq_getElem hj] at hc
  have : (Addr.add ⟨b, 0, none⟩ (j * k55.sz + i)) = ⟨b, j * 3 + i, none⟩ := by
    rw [show k55.sz = 3 from rfl, Addr.add_lit, Nat.zero_add]
  rw [this, hc]
  exact hu
theorem fidx_cases : ∀ (l : List PG) (i : Nat), fidx l i = -1 ∨ ((i : Int) ≤ fidx l i ∧ fidx l i < i + l.length) := by
  intro l
  induction l with
  | nil => intro i; exact .inl rfl
  | cons y l ih =>
    intro i
    simp only [fidx]
    split
    · right; simp; omega
    · rcases ih (i + 1) with h | h
      · exact .inl h
      · right; simp at h ⊢; omega
theorem fre_test (p : PG) : ((0 : Int) == p.f0 && (false == p.f1 && ((0 : Int) == p.f2))) = fre p := by
  unfold fre
  rw [show ((0 : Int) == p.f0) = (p.f0 == 0) by rw [Bool.eq_iff_iff, beq_iff_eq, beq_iff_eq]; exact eq_comm, show (false == p.f1) = (p.f1 == false) by cases p.f1 <;> rfl, show ((0 : Int) == p.f2) = (p.f2 == 0) by rw [Bool.eq_iff_iff, beq_iff_eq, beq_iff_eq]; exact eq_comm]
theorem page_loop (l : List PG) (hl : l.length ≤ 1000) : ∀ (d i k : Nat), l.length - i = d → i ≤ l.length → d < k → pool_page.l0 k l (l.length : Int) (i : Int) 0 false 0 = some (fidx (l.drop i) i) := by
  intro d
  induction d with
  | zero =>
    intro i k hd hi hk
    obtain ⟨k, rfl⟩ : ∃ m, k = m + 1 := ⟨k - 1, by omega⟩
    simp only [pool_page.l0]
    rw [if_neg (by omega), List.drop_eq_nil_of_le (by omega)]
    rfl
  | succ d ih =>
    intro i k hd hi hk
    obtain ⟨k, rfl⟩ : ∃ m, k = m + 1 := ⟨k - 1, by omega⟩
    have hlt : i < l.length := by omega
    have next := ih (i + 1) k (by omega) (by omega) (by omega)
    rw [List.drop_eq_getElem_cons hlt]
    simp only [pool_page.l0, fidx]
    have hr : rd_T55 l (i : Int) = l[i] := pg_at l i hlt
    rw [if_pos (by omega), if_pos (by omega), if_pos (by omega), hr, fre_test]
    by_cases h : fre l[i] = true
    · rw [if_pos h, if_pos h]
    · rw [if_neg h, if_neg h, wr64 (by omega) (by omega), ← Int.natCast_one, ← Int.natCast_add]
      exact next
theorem page_eq (l : List PG) (hl : l.length ≤ 1000) : pool_page.f 2000 l 0 false 0 = some (fidx l 0) := page_loop l hl l.length 0 2000 (by omega) (by omega) (by omega)
theorem Raw.put3 {W : World} {g b : Nat} {vi : Value} {ps : List PG} (h : Raw W g b vi ps) (i : Int) (h0 : 0 ≤ i) (h1 : i < ps.length) (p : PG) :
    Raw (((W.setCell ⟨b, i.toNat * 3, none⟩ (.int .i64 p.f0)).setCell ⟨b, i.toNat * 3 + 1, none⟩ (.bool p.f1)).setCell ⟨b, i.toNat * 3 + 2, none⟩ (.int .i64 p.f2)) g b vi (pset ps i p) := by
  have r5 := h.put i h0 h1 0 (by omega) (.int .i64 p.f0) ⟨p.f0, (pg ps i).f1, (pg ps i).f2⟩ rfl
  have r6 := r5.put i h0 (by rw [pset_len]; exact h1) 1 (by omega) (.bool p.f1) ⟨p.f0, p.f1, (pg ps i).f2⟩ (by rw [pg_pset _ _ _ h0 h1]; rfl)
  have r7 := r6.put i h0 (by rw [pset_len, pset_len]; exact h1) 2 (by omega) (.int .i64 p.f2) p (by rw [pg_pset _ _ _ h0 (by rw [pset_len]; exact h1)]; rfl)
  have r8 : pset (pset (pset ps i ⟨p.f0, (pg ps i).f1, (pg ps i).f2⟩) i ⟨p.f0, p.f1, (pg ps i).f2⟩) i p = pset ps i p := by unfold pset; rw [List.set_set, List.set_set]
  rw [r8] at r7
  exact r7
theorem post3 {base : Nat} {ok : Nat → Prop} {w W : World} {g b : Nat} {A : Option Addr} {c : Nat} {ps : List PG} {xs : List Int} (hB : Below base w W) (hK : Kept w W ok) (h : Raw W g b (.slice A xs.length c) ps) (h2 : base ≤ g) (h3 : ok g) (h4 : base ≤ b) (h5 : ok b)
    (h6 : (Kd.int .i64).Q 3 W base ok (.slice A xs.length c) xs) (h7 : ps.length ≤ 64) (h8 : xs.length ≤ 64) (i : Int) (i0 : 0 ≤ i) (i1 : i < ps.length) (p : PG) :
    Post base ok w (((W.setCell ⟨b, i.toNat * 3, none⟩ (.int .i64 p.f0)).setCell ⟨b, i.toNat * 3 + 1, none⟩ (.bool p.f1)).setCell ⟨b, i.toNat * 3 + 2, none⟩ (.int .i64 p.f2)) g ⟨pset ps i p, xs⟩ := by
  have e1 := blk_set h.2 (i.toNat * 3) (.int .i64 p.f0)
  have e2 := blk_set e1 (i.toNat * 3 + 1) (.bool p.f1)
  refine ⟨((hB.setCell h4 _).setCell h4 _).setCell h4 _, (((hK.then_ (kept_set _ ok _ _ h5) (fun _ h => .inl h)).then_ (kept_set _ ok _ _ h5) (fun _ h => .inl h)).then_ (kept_set _ ok _ _ h5) (fun _ h => .inl h)), b, A, c, h.put3 i i0 i1 p, h2, h3, h4, h5, ?_, by rw [pset_len]; exact h7, h8⟩
  exact Kd.Q_set (Kd.Q_set (Kd.Q_set h6 h.2 (by decide) _ _) e1 (by decide) _ _) e2 (by decide) _ _
set_option maxHeartbeats 4000000 in
theorem take_calls (base : Nat) (ok : Nat → Prop) (g : Nat) (X : PX) (w : World) (h : PoolAt base ok w g X)
    (hin : ∀ i ∈ X.idle, 0 ≤ i ∧ i < X.pages.length) :
    Calls Try.prog 10 #[.pointer (some ⟨g, 0, none⟩)] w fun e w' => e = .returned (.tuple #[.int .i64 (pTake X).2.1, .int .i64 (pTake X).2.2.1, .bool (pTake X).2.2.2.1, .int .i64 (pTake X).2.2.2.2]) ∧ Post base ok w w' g (pTake X).1 := by
  obtain ⟨b, A, c, h1, h2, h3, h4, h5, h6, h7, h8⟩ := h
  have hX : PoolAt base ok w g X := ⟨b, A, c, h1, h2, h3, h4, h5, h6, h7, h8⟩
  have H := Aside0.mk h1
  have HC := Aside0.mk (h1.reads h7)
  have g0 := blk_cell h1.1 0
  have g1 := blk_cell h1.1 1
  simp at g0 g1
  have hpx := page_eq X.pages (by omega)
  have HP := Aside0.mk (fun (w1 : World) (hb : Below w.heap.size w w1) => hX.same hb)
  rcases fidx_cases X.pages 0 with hc | hc
  · rw [hc] at hpx
    have PX := Aside0.mk hpx
    cases hid : X.idle with
    | nil =>
      have e0 : pTake X = (X, (0, 0, false, 10)) := by unfold pTake; rw [if_neg (by omega), hid]
      rw [e0]
      rw [hid] at g1
      have hl0 : ([] : List Int).length = 0 := rfl
      rw [hl0] at g1
      clear h1 h6 hX e0 hin hpx hc hid hl0
      go_enter Try.func10, Try.ntmps10
      go_wp2_with (first | (go_at_call 21; refine (pool_page.calls 2000 (some ⟨b, 0, none⟩) X.pages.length X.pages 0 false 0 (-1) _ HC.out (Nat.le_refl _) PX.out).mono ?_; rintro e w1 ⟨rfl, hb⟩; have P := Aside0.mk (HP.out w1 hb); have g2 := (hb.cell (World.block_lt_of_cell? w _ g1)).trans g1; clear hb))
      refine bodyPost_ret (v := .tuple #[.int .i64 0, .int .i64 0, .bool false, .int .i64 10]) (by simp [results, Try.results10, go_sem]) rfl ⟨rfl, P.out⟩
    | cons j r =>
      have hj := hin j (by rw [hid]; exact List.mem_cons_self)
      have e0 : pTake X = (⟨pset X.pages j ⟨1, false, 0⟩, r⟩, (j, (pg X.pages j).f2, true, 0)) := by unfold pTake; rw [if_neg (by omega), hid]
      rw [e0]
      rw [hid] at h6 g1 h8
      obtain ⟨gi, o, c', hv, hb1, hb2, cells, hcs⟩ := Kd.Q_form h6 (by simp)
      injection hv with hA hn hc'
      subst hA hc'
      have hq := Kd.Q_cell (0 : Int) h6 0 (by omega) (by simp)
      have hcell : w.cell? ⟨gi, o, none⟩ = some (.int .i64 j) := hq.1
      have hl1 : (j :: r).length = r.length + 1 := rfl
      have hQd := Kd.Q_drop (k := 1) h6 (by rw [hl1]; omega)
      rw [hl1] at g1 h8 h6 hQd
      obtain ⟨D, hD⟩ : ∃ D : Option Addr, (if c = 1 then some (⟨gi, o, none⟩ : Addr) else some ⟨gi, o + 1, none⟩) = D := ⟨_, rfl⟩
      have hQ2 : (Kd.int .i64).Q 3 w base ok (.slice D r.length (c - 1)) r := by
        have e1 : (if c = 1 then some (⟨gi, o, none⟩ : Addr) else (some (⟨gi, o, none⟩ : Addr)).map (·.add (1 * (Kd.int .i64).sz))) = D := by
          rw [← hD]
          split
          · rfl
          · show some (Addr.add ⟨gi, o, none⟩ 1) = _
            rw [Addr.add_lit]
        rw [e1] at hQd
        exact hQd
      have HD := Aside0.mk hD
      have HP := Aside0.mk (fun (w1 : World) (hb : Below w.heap.size w w1) => show Raw (w1.setCell ⟨g, 1, none⟩ (.slice D r.length (c - 1))) g b (.slice D r.length (c - 1)) X.pages ∧ Post base ok w ((((w1.setCell ⟨g, 1, none⟩ (.slice D r.length (c - 1))).setCell ⟨b, j.toNat * 3, none⟩ (.int .i64 1)).setCell ⟨b, j.toNat * 3 + 1, none⟩ (.bool false)).setCell ⟨b, j.toNat * 3 + 2, none⟩ (.int .i64 0)) g ⟨pset X.pages j ⟨1, false, 0⟩, r⟩ from
        ⟨(h1.step hb).field _, post3 (((hb.mono hX.lt)).setCell h2 _) ((Kept.of_below hb ok).then_ (kept_set _ ok _ _ h3) (fun _ h => .inl h)) ((h1.step hb).field _) h2 h3 h4 h5 (Kd.Q_set (Kd.Q_below hQ2 hb) (h1.step hb).1 (by decide) _ _) h7 (by omega) j hj.1 hj.2 ⟨1, false, 0⟩⟩)
      have HJ := Aside0.mk hj
      have j0 := eq_true hj.1
      have j1 := eq_true hj.2
      have z1 := blk_frozen h1.1 1
      clear h1 h6 hX e0 hin hpx hc hid hl1 hQd hQ2 hD hq hcs hj hn
      have hsl := eq_true (show (1 : Int) ≤ (r.length : Int) + 1 by omega)
      have hnz : ((r.length : Int) + 1 == 0) = false := beq_eq_false_iff_ne.mpr (by omega)
      by_cases hc1 : c = 1
      · have hd := HD.out
        rw [if_pos hc1] at hd
        subst hd hc1
        go_enter Try.func10, Try.ntmps10
        go_wp2_with (first | (go_at_call 21; refine (pool_page.calls 2000 (some ⟨b, 0, none⟩) X.pages.length X.pages 0 false 0 (-1) _ HC.out (Nat.le_refl _) PX.out).mono ?_; rintro e w1 ⟨rfl, hb⟩; have HB := Aside0.mk hb; have g2 := (hb.cell (World.block_lt_of_cell? w _ g1)).trans g1; have q2 := (hb.cell (World.block_lt_of_cell? w _ hcell)).trans hcell; clear hb))
        go_still_tail 15, (by kernel_rfl)
        change wpList _ _ _ _ _ w1.drew
        obtain ⟨P0, P1⟩ := HP.out w1.drew (Below.drew HB.out)
        obtain ⟨m0, m1, m2, y0, y1, y2⟩ := P0.cells6 j HJ.out.1 HJ.out.2
        have g4 := blk_cell P0.1 0
        simp at g4
        have g5 : w1.drew.frozen? ⟨g, 1, none⟩ = false := blk_frozen (H.out.step HB.out).1 1
        have g6 : w1.drew.cell? ⟨g, 1, none⟩ = _ := g2
        have P2 := Aside0.mk P1
        clear P0 P1 g2 q2 HB HP
        generalize w1.drew = w2 at *
        go_wp2
        refine bodyPost_ret (v := .tuple #[.int .i64 j, .int .i64 (pg X.pages j).f2, .bool true, .int .i64 0]) (by simp [results, Try.results10, go_sem]) rfl ⟨rfl, P2.out⟩
      · have hd := HD.out
        rw [if_neg hc1] at hd
        subst hd
        go_enter Try.func10, Try.ntmps10
        go_wp2_with (first | (go_at_call 21; refine (pool_page.calls 2000 (some ⟨b, 0, none⟩) X.pages.length X.pages 0 false 0 (-1) _ HC.out (Nat.le_refl _) PX.out).mono ?_; rintro e w1 ⟨rfl, hb⟩; have HB := Aside0.mk hb; have g2 := (hb.cell (World.block_lt_of_cell? w _ g1)).trans g1; have q2 := (hb.cell (World.block_lt_of_cell? w _ hcell)).trans hcell; clear hb))
        go_still_tail 15, (by kernel_rfl)
        change wpList _ _ _ _ _ w1.drew
        obtain ⟨P0, P1⟩ := HP.out w1.drew (Below.drew HB.out)
        obtain ⟨m0, m1, m2, y0, y1, y2⟩ := P0.cells6 j HJ.out.1 HJ.out.2
        have g4 := blk_cell P0.1 0
        simp at g4
        have g5 : w1.drew.frozen? ⟨g, 1, none⟩ = false := blk_frozen (H.out.step HB.out).1 1
        have g6 : w1.drew.cell? ⟨g, 1, none⟩ = _ := g2
        have P2 := Aside0.mk P1
        clear P0 P1 g2 q2 HB HP
        generalize w1.drew = w2 at *
        go_wp2
        refine bodyPost_ret (v := .tuple #[.int .i64 j, .int .i64 (pg X.pages j).f2, .bool true, .int .i64 0]) (by simp [results, Try.results10, go_sem]) rfl ⟨rfl, P2.out⟩
  · obtain ⟨n, hnn⟩ : ∃ n : Nat, fidx X.pages 0 = (n : Int) := ⟨_, (Int.toNat_of_nonneg (by omega)).symm⟩
    have hlt : n < X.pages.length := by rw [hnn] at hc; omega
    rw [hnn] at hpx
    have PX := Aside0.mk hpx
    have e0 : pTake X = (⟨pset X.pages n ⟨1, false, 0⟩, X.idle⟩, ((n : Int), 0, false, 0)) := by unfold pTake; rw [if_pos (by omega), hnn]
    rw [e0]
    have HP := Aside0.mk (fun (w1 : World) (hb : Below w.heap.size w w1) => post3 (hb.mono hX.lt) (Kept.of_below hb ok) (h1.step hb) h2 h3 h4 h5 (Kd.Q_below h6 hb) h7 h8 (n : Int) (by omega) (by omega) ⟨1, false, 0⟩)
    simp only [Int.toNat_natCast] at HP
    have hn0 := eq_true (show (0 : Int) ≤ (n : Int) by omega)
    clear h1 h6 hX e0 hin hpx hc hnn
    go_enter Try.func10, Try.ntmps10
    go_wp2_with (first | (go_at_call 21; refine (pool_page.calls 2000 (some ⟨b, 0, none⟩) X.pages.length X.pages 0 false 0 (n : Int) _ HC.out (Nat.le_refl _) PX.out).mono ?_; rintro e w1 ⟨rfl, hb⟩; have P := Aside0.mk (HP.out w1 hb); have g2 := (hb.cell (World.block_lt_of_cell? w _ g0)).trans g0; obtain ⟨m0, m1, m2, y0, y1, y2⟩ := (H.out.step hb).cells6 (n : Int) (by omega) (by omega); simp only [Int.toNat_natCast] at m0 m1 m2 y0 y1 y2; clear hb))
    refine bodyPost_ret (v := .tuple #[.int .i64 (n : Int), .int .i64 0, .bool false, .int .i64 0]) (by simp [results, Try.results10, go_sem]) rfl ⟨rfl, P.out⟩
end Go.Proofs.Ytmbbaalpeomnlaa.OPool
