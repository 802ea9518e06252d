/- The pool's methods over the idle row, walked by hand. -/
import Derived.Test.YtmbbaalpeomnlaaOPool3
set_option linter.unusedVariables false
set_option linter.unusedSimpArgs false
namespace Go.Proofs.Ytmbbaalpeomnlaa.OPool
open Go.RowKit Go.Proofs.YtmbbaalpeomnlaaW.PrintWords Go.Proofs.YtmbbaalpeomnlaaW.PrintLast Go.Proofs.YtmbbaalpeomnlaaW.PrintMore Go.Proofs.Ytmbbaalpeomnlaa.GQ Go.Proofs.Ytmbbaalpeomnlaa.ODel
theorem wr64 {x : Int} (h1 : -9223372036854775808 ≤ x) (h2 : x ≤ 9223372036854775807) : wrap64 x = x := by unfold wrap64; omega
theorem iidx_cases (x : Int) : ∀ (l : List Int) (i : Nat), iidx x l i = -1 ∨ ((i : Int) ≤ iidx x l i ∧ iidx x l i < i + l.length) := by
  intro l
  induction l with
  | nil => intro i; exact .inl rfl
  | cons y l ih =>
    intro i
    simp only [iidx]
    split
    · right; simp; omega
    · rcases ih (i + 1) with h | h
      · exact .inl h
      · right; simp at h ⊢; omega
theorem Index_loop (l : List Int) (x : Int) (hl : l.length ≤ 1000) : ∀ (d i k : Nat), l.length - i = d → i ≤ l.length → d < k → slices_Index_int_int.l0 k l x (l.length : Int) (i : Int) = some (iidx x (l.drop i) i) := by
  intro d
  induction d with
  | zero =>
    intro i k hd hi hk
    obtain ⟨k, rfl⟩ : ∃ m, k = m + 1 := ⟨k - 1, by omega⟩
    simp only [slices_Index_int_int.l0]
    rw [if_neg (by omega), List.drop_eq_nil_of_le (by omega)]
    rfl
  | succ d ih =>
    intro i k hd hi hk
    obtain ⟨k, rfl⟩ : ∃ m, k = m + 1 := ⟨k - 1, by omega⟩
    have hlt : i < l.length := by omega
    have next := ih (i + 1) k (by omega) (by omega) (by omega)
    rw [List.drop_eq_getElem_cons hlt]
    simp only [slices_Index_int_int.l0, iidx]
    have hr : rd l (i : Int) = l[i] := by
      unfold rd
      rw [Int.toNat_natCast, List.getD_eq_getElem?_getD, List.getElem?_eq_getElem hlt]
      rfl
    rw [if_pos (by omega), if_pos (by omega), if_pos (by omega), hr]
    by_cases h : x = l[i]
    · rw [if_pos h, if_pos h]
    · rw [if_neg h, if_neg h, wr64 (by omega) (by omega), ← Int.natCast_one, ← Int.natCast_add]
      exact next
theorem Index_eq (l : List Int) (x : Int) (hl : l.length ≤ 1000) : slices_Index_int_int.f 2000 l x = some (iidx x l 0) := by
  have := Index_loop l x hl l.length 0 2000 (by omega) (by omega) (by omega)
  exact this
theorem Clone_eq (l : List Int) (hl : l.length ≤ 1000) : slices_Clone_int_int.f l = some l := by
  unfold slices_Clone_int_int.f
  rw [Option.bind_some, if_pos (by simp; omega)]
  rfl
theorem idle_new {w w3 : World} {base : Nat} {ok okk : Nat → Prop} {v : Value} {xs : List Int} (h : (Kd.int .i64).R 3 w3 w.heap.size okk v xs) (hb : base ≤ w.heap.size) (hf : ∀ k, w.heap.size ≤ k → ok k) : (Kd.int .i64).Q 3 w3 base ok v xs :=
  Kd.Q_of_R (Kd.R_lower (Kd.R_mono (Kd.R_bound h) (fun k hk => hf k hk.2.1)) hb)
theorem pset_len (ps : List PG) (i : Int) (p : PG) : (pset ps i p).length = ps.length := by unfold pset; simp
theorem pg_pset (ps : List PG) (i : Int) (p : PG) (h0 : 0 ≤ i) (h1 : i < ps.length) : pg (pset ps i p) i = p := by
  unfold pg pset
  rw [List.getD_eq_getElem?_getD, List.getElem?_set_self (by omega)]
  rfl
set_option maxHeartbeats 4000000 in
theorem hold_calls (base : Nat) (ok : Nat → Prop) (g : Nat) (X : PX) (i : Int) (w : World) (h : PoolAt base ok w g X) (hfresh : ∀ k, w.heap.size ≤ k → ok k)
    (hin : there X.pages i = true → (pg X.pages i).f0 = 0 → 0 ≤ iidx i X.idle 0) (hlow : there X.pages i = true → 0 ≤ (pg X.pages i).f0) :
    Calls Try.prog 11 #[.pointer (some ⟨g, 0, none⟩), .int .i64 i] w fun e w' => e = .returned (.int .i64 (pHold X i).2) ∧ Post base ok w w' g (pHold X i).1 := by
  obtain ⟨b, A, c, h1, h2, h3, h4, h5, h6, h7, h8⟩ := h
  have hX : PoolAt base ok w g X := ⟨b, A, c, h1, h2, h3, h4, h5, h6, h7, h8⟩
  have H := Aside0.mk h1
  cases ht : there X.pages i
  · have e0 : pHold X i = (X, 8) := by unfold pHold; rw [if_neg (by rw [ht]; decide)]
    rw [e0]
    have T := Aside0.mk ht
    have P := Aside0.mk (hX.same (Below.refl _ _))
    clear h1 h6 hX ht e0 hin hlow
    go_enter Try.func11, Try.ntmps11
    go_wp2_with (first | (go_at_call 22; refine (at_free g b _ X.pages i _ H.out T.out).mono ?_; rintro e w' ⟨rfl, rfl⟩))
    go_ret
    exact ⟨rfl, P.out⟩
  have hi := there_iff ht
  have T := Aside0.mk ht
  have hf0 := hlow ht
  obtain ⟨k0, k1, k2, z0, z1, z2⟩ := h1.cells6 i hi.1 hi.2.1
  by_cases hb : (pg X.pages i).f0 ≥ 1000
  · have e0 : pHold X i = (X, 2) := by unfold pHold; rw [if_pos ht, if_pos hb]
    rw [e0]
    have P := Aside0.mk (hX.same (Below.refl _ _))
    have d1 : decide ((pg X.pages i).f0 ≥ 1000) = true := decide_eq_true hb
    clear h1 h6 hX ht e0 hin hlow hb hi
    generalize pg X.pages i = p at *
    go_enter Try.func11, Try.ntmps11
    go_wp2_with (first | (go_at_call 22; refine (at_there g b _ X.pages i _ H.out T.out).mono ?_; rintro e w' ⟨rfl, rfl⟩))
    go_ret
    exact ⟨rfl, P.out⟩
  have d1 : decide ((pg X.pages i).f0 ≥ 1000) = false := decide_eq_false hb
  by_cases hz : (pg X.pages i).f0 = 0
  · have hn := hin ht hz
    have hc := iidx_cases i X.idle 0
    obtain ⟨n, hnn⟩ : ∃ n : Nat, iidx i X.idle 0 = (n : Int) := ⟨_, (Int.toNat_of_nonneg hn).symm⟩
    have hlt : n < X.idle.length := by rw [hnn] at hc; omega
    have e0 : pHold X i = (⟨pset X.pages i ⟨1, (pg X.pages i).f1, (pg X.pages i).f2⟩, X.idle.eraseIdx n⟩, 0) := by unfold pHold; rw [if_pos ht, if_neg hb, if_pos hz, hz, hnn]; rfl
    rw [e0]
    obtain ⟨_, hcap, hC⟩ := Kd.Q_reads' h6
    have hix := Index_eq X.idle i (by omega)
    rw [hnn] at hix
    have IX := Aside0.mk hix
    have CL := Aside0.mk (Clone_eq X.idle (by omega))
    have HC := Aside0.mk (fun q => Kd.C_below hC (pw_below_drewN (Below.refl _ _) q))
    have HC0 := Aside0.mk hC
    have g1 := blk_cell h1.1 1
    simp at g1
    have gz := blk_frozen h1.1 1
    have P := Aside0.mk (fun (q : Nat) (w2 w3 : World) (A' : Option Addr) (c' : Nat) (okk : Nat → Prop) (hb2 : Below (w.drewN q).heap.size (w.drewN q) w2) (hb3 : Below (w.drewN q).heap.size w2 w3) (hR : (Kd.int .i64).R 3 w3 (w.drewN q).heap.size okk (.slice A' (X.idle.eraseIdx n).length c') (X.idle.eraseIdx n)) =>
      show Raw (w3.setCell ⟨g, 1, none⟩ (.slice A' (X.idle.eraseIdx n).length c')) g b (.slice A' (X.idle.eraseIdx n).length c') X.pages ∧ w3.frozen? ⟨g, 1, none⟩ = false ∧ (∃ u, w3.cell? ⟨g, 1, none⟩ = some u) ∧ Post base ok w ((w3.setCell ⟨g, 1, none⟩ (.slice A' (X.idle.eraseIdx n).length c')).setCell ⟨b, i.toNat * 3, none⟩ (.int .i64 1)) g ⟨pset X.pages i ⟨1, (pg X.pages i).f1, (pg X.pages i).f2⟩, X.idle.eraseIdx n⟩ from by
        have hbb : Below w.heap.size w w3 := ((pw_below_drewN (Below.refl _ _) q).trans hb2).trans hb3
        have r3 := h1.step hbb
        have r4 := r3.field (.slice A' (X.idle.eraseIdx n).length c')
        have r5 := r4.put i hi.1 hi.2.1 0 (by omega) (.int .i64 1) ⟨1, (pg X.pages i).f1, (pg X.pages i).f2⟩ rfl
        have hbl : base ≤ w.heap.size := hX.lt
        have hlen : (X.idle.eraseIdx n).length ≤ 64 := by rw [List.length_eraseIdx, if_pos hlt]; omega
        refine ⟨r4, blk_frozen r3.1 1, ⟨_, (blk_cell r3.1 1).trans rfl⟩, (((hbb.mono hbl).setCell h2 _).setCell h4 _), (((Kept.of_below hbb ok).then_ (kept_set _ ok _ _ h3) (fun _ h => .inl h)).then_ (kept_set _ ok _ _ h5) (fun _ h => .inl h)), b, A', c', r5, h2, h3, h4, h5, ?_, by rw [pset_len]; exact h7, hlen⟩
        have hQ := idle_new (w := w) (base := base) (ok := ok) hR hbl hfresh
        exact Kd.Q_set (Kd.Q_set hQ r3.1 (by decide) _ _) r4.2 (by decide) _ _)
    rw [hz] at k0
    have hz' := Aside0.mk hz
    clear h1 h6 hX ht e0 hin hlow hb hC hix hc hnn hn d1 hf0
    go_enter Try.func11, Try.ntmps11
    go_wp2_with (first
      | (go_at_call 22; refine (at_there g b _ X.pages i _ H.out T.out).mono ?_; rintro e w' ⟨rfl, rfl⟩)
      | (go_at_call 23; refine (slices_Index_int_int.calls 2000 A c X.idle i (n : Int) _ HC0.out hcap IX.out).mono ?_; rintro e w1 ⟨rfl, ⟨q, rfl⟩⟩)
      | (go_at_call 25; refine (slices_Clone_int_int.calls A c X.idle X.idle _ (HC.out q) hcap CL.out).mono ?_; rintro e w2 ⟨v0, rfl, hR, hb2⟩)
      | (go_at_call 24; refine (delete_one X.idle n hlt v0 _ _ _ hR).mono ?_; rintro e w3 ⟨v1, rfl, hR1, _, hb3, _⟩; obtain ⟨A', c', rfl⟩ := Kd.R_slice hR1; have P1 := P.out q w2 w3 A' c' _ hb2 hb3 hR1; clear hR hR1 hb2 hb3; obtain ⟨r4, y1, ⟨u1, y2⟩, P2⟩ := P1; have P3 := Aside0.mk P2; obtain ⟨m0, m1, m2, x0, x1, x2⟩ := r4.cells6 i hi.1 hi.2.1; rw [hz'.out] at m0; clear r4 P2))
    go_ret
    exact ⟨rfl, P3.out⟩
  · have e0 : pHold X i = (⟨pset X.pages i ⟨(pg X.pages i).f0 + 1, (pg X.pages i).f1, (pg X.pages i).f2⟩, X.idle⟩, 0) := by unfold pHold; rw [if_pos ht, if_neg hb, if_neg hz]
    rw [e0]
    have P := Aside0.mk (show Post base ok w (w.setCell ⟨b, i.toNat * 3, none⟩ (.int .i64 ((pg X.pages i).f0 + 1))) g ⟨pset X.pages i ⟨(pg X.pages i).f0 + 1, (pg X.pages i).f1, (pg X.pages i).f2⟩, X.idle⟩ from
      ⟨(Below.refl _ _).setCell h4 _, kept_set _ ok _ _ h5, b, A, c, h1.put i hi.1 hi.2.1 0 (by omega) _ _ rfl, h2, h3, h4, h5, Kd.Q_set h6 h1.2 (by decide) _ _, by rw [pset_len]; exact h7, h8⟩)
    have d2 : ((pg X.pages i).f0 == 0) = false := beq_eq_false_iff_ne.mpr hz
    have hb1 : (pg X.pages i).f0 + 1 ≤ 1000 := by omega
    clear h1 h6 hX ht e0 hin hlow hb hz hi
    generalize pg X.pages i = p at *
    go_enter Try.func11, Try.ntmps11
    go_wp2_with (first | (go_at_call 22; refine (at_there g b _ X.pages i _ H.out T.out).mono ?_; rintro e w' ⟨rfl, rfl⟩))
    go_ret
    exact ⟨rfl, P.out⟩
set_option maxHeartbeats 4000000 in
theorem forget_calls (base : Nat) (ok : Nat → Prop) (g : Nat) (X : PX) (i : Int) (w : World) (h : PoolAt base ok w g X) (hfresh : ∀ k, w.heap.size ≤ k → ok k)
    (hin : 0 ≤ iidx i X.idle 0 → 0 ≤ i ∧ i < X.pages.length) :
    Calls Try.prog 16 #[.pointer (some ⟨g, 0, none⟩), .int .i64 i] w fun e w' => e = .returned (.int .i64 (pForget X i).2) ∧ Post base ok w w' g (pForget X i).1 := by
  obtain ⟨b, A, c, h1, h2, h3, h4, h5, h6, h7, h8⟩ := h
  have hX : PoolAt base ok w g X := ⟨b, A, c, h1, h2, h3, h4, h5, h6, h7, h8⟩
  have H := Aside0.mk h1
  obtain ⟨_, hcap, hC⟩ := Kd.Q_reads' h6
  have HC := Aside0.mk (fun q => Kd.C_below hC (pw_below_drewN (Below.refl _ _) q))
  have HC0 := Aside0.mk hC
  have g1 := blk_cell h1.1 1
  simp at g1
  rcases iidx_cases i X.idle 0 with hc | hc
  · have e0 : pForget X i = (X, 8) := by unfold pForget; rw [if_pos (by omega)]
    rw [e0]
    have hix := Index_eq X.idle i (by omega)
    rw [hc] at hix
    have IX := Aside0.mk hix
    have P := Aside0.mk (fun q => hX.same (pw_below_drewN (Below.refl _ _) q))
    clear h1 h6 hX e0 hin hC hix hc
    go_enter Try.func16, Try.ntmps16
    go_wp2_with (first | (go_at_call 23; refine (slices_Index_int_int.calls 2000 A c X.idle i (-1) _ HC0.out hcap IX.out).mono ?_; rintro e w1 ⟨rfl, ⟨q, rfl⟩⟩))
    go_ret
    exact ⟨rfl, P.out q⟩
  · obtain ⟨n, hnn⟩ : ∃ n : Nat, iidx i X.idle 0 = (n : Int) := ⟨_, (Int.toNat_of_nonneg (by omega)).symm⟩
    have hlt : n < X.idle.length := by rw [hnn] at hc; omega
    have hi := hin (by omega)
    have e0 : pForget X i = (⟨pset X.pages i z55, X.idle.eraseIdx n⟩, 0) := by unfold pForget; rw [if_neg (by omega), hnn]; rfl
    rw [e0]
    have hix := Index_eq X.idle i (by omega)
    rw [hnn] at hix
    have IX := Aside0.mk hix
    have CL := Aside0.mk (Clone_eq X.idle (by omega))
    have gz := blk_frozen h1.1 1
    have g0 := blk_cell h1.1 0
    simp at g0
    have P := Aside0.mk (fun (q : Nat) (w2 w3 : World) (A' : Option Addr) (c' : Nat) (okk : Nat → Prop) (hb2 : Below (w.drewN q).heap.size (w.drewN q) w2) (hb3 : Below (w.drewN q).heap.size w2 w3) (hR : (Kd.int .i64).R 3 w3 (w.drewN q).heap.size okk (.slice A' (X.idle.eraseIdx n).length c') (X.idle.eraseIdx n)) =>
      show Raw (w3.setCell ⟨g, 1, none⟩ (.slice A' (X.idle.eraseIdx n).length c')) g b (.slice A' (X.idle.eraseIdx n).length c') X.pages ∧ w3.frozen? ⟨g, 1, none⟩ = false ∧ (∃ u, w3.cell? ⟨g, 1, none⟩ = some u) ∧ Post base ok w ((((w3.setCell ⟨g, 1, none⟩ (.slice A' (X.idle.eraseIdx n).length c')).setCell ⟨b, i.toNat * 3, none⟩ (.int .i64 0)).setCell ⟨b, i.toNat * 3 + 1, none⟩ (.bool false)).setCell ⟨b, i.toNat * 3 + 2, none⟩ (.int .i64 0)) g ⟨pset X.pages i z55, X.idle.eraseIdx n⟩ from by
        have hbb : Below w.heap.size w w3 := ((pw_below_drewN (Below.refl _ _) q).trans hb2).trans hb3
        have r3 := h1.step hbb
        have r4 := r3.field (.slice A' (X.idle.eraseIdx n).length c')
        have r5 := r4.put i hi.1 hi.2 0 (by omega) (.int .i64 0) ⟨0, (pg X.pages i).f1, (pg X.pages i).f2⟩ rfl
        have r6 := r5.put i hi.1 (by rw [pset_len]; exact hi.2) 1 (by omega) (.bool false) ⟨0, false, (pg X.pages i).f2⟩ (by rw [pg_pset _ _ _ hi.1 hi.2]; rfl)
        have r7 := r6.put i hi.1 (by rw [pset_len, pset_len]; exact hi.2) 2 (by omega) (.int .i64 0) z55 (by rw [pg_pset _ _ _ hi.1 (by rw [pset_len]; exact hi.2)]; rfl)
        have r8 : pset (pset (pset X.pages i ⟨0, (pg X.pages i).f1, (pg X.pages i).f2⟩) i ⟨0, false, (pg X.pages i).f2⟩) i z55 = pset X.pages i z55 := by unfold pset; rw [List.set_set, List.set_set]
        rw [r8] at r7
        have hbl : base ≤ w.heap.size := hX.lt
        have hlen : (X.idle.eraseIdx n).length ≤ 64 := by rw [List.length_eraseIdx, if_pos hlt]; omega
        refine ⟨r4, blk_frozen r3.1 1, ⟨_, (blk_cell r3.1 1).trans rfl⟩, ((((hbb.mono hbl).setCell h2 _).setCell h4 _).setCell h4 _).setCell h4 _, (((((Kept.of_below hbb ok).then_ (kept_set _ ok _ _ h3) (fun _ h => .inl h)).then_ (kept_set _ ok _ _ h5) (fun _ h => .inl h)).then_ (kept_set _ ok _ _ h5) (fun _ h => .inl h)).then_ (kept_set _ ok _ _ h5) (fun _ h => .inl h)), b, A', c', r7, h2, h3, h4, h5, ?_, by rw [pset_len]; exact h7, hlen⟩
        have hQ := idle_new (w := w) (base := base) (ok := ok) hR hbl hfresh
        exact Kd.Q_set (Kd.Q_set (Kd.Q_set (Kd.Q_set hQ r3.1 (by decide) _ _) r4.2 (by decide) _ _) r5.2 (by decide) _ _) r6.2 (by decide) _ _)
    obtain ⟨hi0, hi1⟩ := hi
    have hi2 := eq_true hi0
    have hi3 := eq_true hi1
    have HI := Aside0.mk (And.intro hi0 hi1)
    clear h1 h6 hX e0 hin hC hix hc hnn hi0 hi1
    go_enter Try.func16, Try.ntmps16
    go_wp2_with (first
      | (go_at_call 23; refine (slices_Index_int_int.calls 2000 A c X.idle i (n : Int) _ HC0.out hcap IX.out).mono ?_; rintro e w1 ⟨rfl, ⟨q, rfl⟩⟩)
      | (go_at_call 25; refine (slices_Clone_int_int.calls A c X.idle X.idle _ (HC.out q) hcap CL.out).mono ?_; rintro e w2 ⟨v0, rfl, hR, hb2⟩)
      | (go_at_call 24; refine (delete_one X.idle n hlt v0 _ _ _ hR).mono ?_; rintro e w3 ⟨v1, rfl, hR1, _, hb3, _⟩; obtain ⟨A', c', rfl⟩ := Kd.R_slice hR1; have P1 := P.out q w2 w3 A' c' _ hb2 hb3 hR1; clear hR hR1 hb2 hb3; obtain ⟨r4, y1, ⟨u1, y2⟩, P2⟩ := P1; have P3 := Aside0.mk P2; obtain ⟨m0, m1, m2, x0, x1, x2⟩ := r4.cells6 i HI.out.1 HI.out.2; have y0 := blk_cell r4.1 0; simp at y0; clear r4 P2))
    go_ret
    exact ⟨rfl, P3.out⟩
end Go.Proofs.Ytmbbaalpeomnlaa.OPool
