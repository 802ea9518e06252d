/- The document's Drop, walked by hand. -/
import Derived.Test.YtmbbaalpeomnlaaUPoolR
import Derived.Outline
set_option linter.unusedVariables false
set_option linter.unusedSimpArgs false
namespace Go.Proofs.Ytmbbaalpeomnlaa.OTwo
open Go.RowKit Go.Proofs.YtmbbaalpeomnlaaW.PrintWords Go.Proofs.YtmbbaalpeomnlaaW.PrintLast Go.Proofs.YtmbbaalpeomnlaaW.PrintMore Go.Proofs.Ytmbbaalpeomnlaa.GQ Go.Proofs.Ytmbbaalpeomnlaa.OPool Go.Proofs.Ytmbbaalpeomnlaa.OInv Go.Proofs.Ytmbbaalpeomnlaa.UPoolR
abbrev kI := Kd.int .i64
abbrev kP := k70
/-- The document's rows, in blocks of S. -/
def Ref (S : Nat → Prop) (W : World) (v0 v1 : Value) (Y : PX) : Prop := Kd.V kP 70 W 0 S v0 (rows Y.pages) ∧ Kd.V kI 3 W 0 S v1 Y.idle
/-- What a call of the document's answers. -/
def RefEnd (S : Nat → Prop) (w : World) (Y : PX) (x : Int) (e : Ending) (w' : World) : Prop := ∃ v0 v1 : Value, e = .returned (.tuple #[.agg #[v0, v1], .int .i64 x]) ∧ Ref (fun k => S k ∨ w.heap.size ≤ k) w' v0 v1 Y ∧ Below w.heap.size w w'
theorem Ref.below {S : Nat → Prop} {W W' : World} {v0 v1 : Value} {Y : PX} (h : Ref S W v0 v1 Y) (hb : Below W.heap.size W W') : Ref S W' v0 v1 Y := ⟨Kd.V_below h.1 hb, Kd.V_below h.2 hb⟩
theorem Ref.mono {S S' : Nat → Prop} {W : World} {v0 v1 : Value} {Y : PX} (h : Ref S W v0 v1 Y) (hs : ∀ k, S k → S' k) : Ref S' W v0 v1 Y := ⟨Kd.V_mono h.1 hs, Kd.V_mono h.2 hs⟩
/-- What the document's calls read. -/
theorem Ref.read {S : Nat → Prop} {W : World} {A0 A1 : Option Addr} {n0 c0 n1 c1 : Nat} {Y : PX} (h : Ref S W (.slice A0 n0 c0) (.slice A1 n1 c1) Y) : n0 = Y.pages.length ∧ n1 = Y.idle.length ∧ n0 ≤ c0 ∧ n1 ≤ c1 ∧ Kd.C kP W A0 (rows Y.pages).length (rows Y.pages) ∧ Kd.C kI W A1 Y.idle.length Y.idle := by
  obtain ⟨a1, a2, a3⟩ := Kd.V_reads' h.1
  obtain ⟨b1, b2, b3⟩ := Kd.V_reads' h.2
  exact ⟨a1.trans (rows_len _), b1, a2, b2, a3, b3⟩
/-- Within the document's Drop: its parameter's box at E, its answer's at F. -/
structure Way (S : Nat → Prop) (w : World) (E F : Nat) (W : World) (v0 v1 u0 u1 : Value) (X : PX) : Prop where
  bel : Below w.heap.size w W
  p : W.heap[E]? = some (.cells #[v0, v1] 43 (0, 0))
  r : W.heap[F]? = some (.cells #[u0, u1] 43 (0, 0))
  ref : Ref (fun k => (S k ∧ k < w.heap.size) ∨ (w.heap.size ≤ k ∧ k ≠ E ∧ k ≠ F)) W v0 v1 X
  ne : E ≠ F
  le : w.heap.size ≤ E ∧ w.heap.size ≤ F
theorem Way.below {S : Nat → Prop} {w W W' : World} {E F : Nat} {v0 v1 u0 u1 : Value} {X : PX} (h : Way S w E F W v0 v1 u0 u1 X) (hb : Below W.heap.size W W') : Way S w E F W' v0 v1 u0 u1 X :=
  ⟨h.bel.trans (hb.mono h.bel.size), blk_below h.p hb, blk_below h.r hb, h.ref.below hb, h.ne, h.le⟩
theorem Ref.far {S : Nat → Prop} {W : World} {v0 v1 : Value} {Y : PX} (h : Ref S W v0 v1 Y) {p : Addr} (hS : ∀ k, S k → k ≠ p.block) (u : Value) : Ref S (W.setCell p u) v0 v1 Y := ⟨Kd.V_far h.1 hS u, Kd.V_far h.2 hS u⟩
theorem way_new (S : Nat → Prop) (w : World) (v0 v1 : Value) (X : PX) (h : Ref S w v0 v1 X) :
    Way S w w.heap.size (w.heap.size + 1) ((w.alloc (.cells #[v0, v1] 43 (0, 0))).alloc (.cells #[.slice none 0 0, .slice none 0 0] 43 (0, 0))) v0 v1 (.slice none 0 0) (.slice none 0 0) X := by
  have b1 := below_alloc (Below.refl w.heap.size w) (.cells #[v0, v1] 43 (0, 0))
  have b2 := below_alloc b1 (.cells #[.slice none 0 0, .slice none 0 0] 43 (0, 0))
  have e2 := blk_new (w.alloc (.cells #[v0, v1] 43 (0, 0))) (.cells #[.slice none 0 0, .slice none 0 0] 43 (0, 0))
  rw [World.size_alloc] at e2
  exact ⟨b2, blk_alloc (blk_new w _) _, e2, (Ref.mono (S := fun k => S k ∧ k < w.heap.size) ⟨Kd.V_bound h.1, Kd.V_bound h.2⟩ (fun k hk => .inl hk)).below b2, by omega, ⟨Nat.le_refl _, by omega⟩⟩
/-- The answer is laid into its box. -/
theorem Way.answer {S : Nat → Prop} {w W : World} {E F : Nat} {v0 v1 u0 u1 : Value} {X : PX} (h : Way S w E F W v0 v1 u0 u1 X) :
    Way S w E F ((W.setCell ⟨F, 0, none⟩ v0).setCell ⟨F, 1, none⟩ v1) v0 v1 v0 v1 X := by
  have hl := h.le
  refine ⟨(h.bel.setCell (p := ⟨F, 0, none⟩) hl.2 v0).setCell (p := ⟨F, 1, none⟩) hl.2 v1, blk_far (p := ⟨F, 1, none⟩) (blk_far (p := ⟨F, 0, none⟩) h.p h.ne v0) h.ne v1, ?_, Ref.far (p := ⟨F, 1, none⟩) (Ref.far (p := ⟨F, 0, none⟩) h.ref (fun k hk => ?_) v0) (fun k hk => ?_) v1, h.ne, hl⟩
  · have := blk_set (blk_set h.r 0 v0) 1 v1
    simpa using this
  all_goals
    show k ≠ F
    rcases hk with hk | hk
    · omega
    · exact hk.2.2
/-- Other rows in the parameter's box. -/
theorem Way.param {S : Nat → Prop} {w W W' : World} {E F : Nat} {v0 v1 u0 u1 v0' v1' : Value} {X Y : PX} (h : Way S w E F W v0 v1 u0 u1 X) (hb : Below W.heap.size W W') (hr : Ref (fun k => (S k ∧ k < w.heap.size) ∨ (w.heap.size ≤ k ∧ k ≠ E ∧ k ≠ F)) W' v0' v1' Y) :
    Way S w E F ((W'.setCell ⟨E, 0, none⟩ v0').setCell ⟨E, 1, none⟩ v1') v0' v1' u0 u1 Y := by
  have hl := h.le
  have hw := h.below hb
  refine ⟨(hw.bel.setCell (p := ⟨E, 0, none⟩) hl.1 v0').setCell (p := ⟨E, 1, none⟩) hl.1 v1', ?_, blk_far (p := ⟨E, 1, none⟩) (blk_far (p := ⟨E, 0, none⟩) hw.r (fun q => h.ne q.symm) v0') (fun q => h.ne q.symm) v1', Ref.far (p := ⟨E, 1, none⟩) (Ref.far (p := ⟨E, 0, none⟩) hr (fun k hk => ?_) v0') (fun k hk => ?_) v1', h.ne, hl⟩
  · have := blk_set (blk_set hw.p 0 v0') 1 v1'
    simpa using this
  all_goals
    show k ≠ E
    rcases hk with hk | hk
    · omega
    · exact hk.2.1
theorem Way.end_ {S : Nat → Prop} {w W : World} {E F : Nat} {v0 v1 u0 u1 : Value} {X : PX} (h : Way S w E F W v0 v1 u0 u1 X) (x : Int) : RefEnd S w X x (.returned (.tuple #[.agg #[v0, v1], .int .i64 x])) W :=
  ⟨v0, v1, rfl, h.ref.mono (fun k hk => hk.elim (fun q => .inl q.1) (fun q => .inr q.1)), h.bel⟩
/-- Another idle row in the parameter's box. -/
theorem Way.idle {S : Nat → Prop} {w W W' : World} {E F : Nat} {v0 v1 u0 u1 v1' : Value} {X : PX} {l : List Int} (h : Way S w E F W v0 v1 u0 u1 X) (hb : Below W.heap.size W W') (hr : Kd.V kI 3 W' 0 (fun k => W.heap.size ≤ k) v1' l) :
    Way S w E F (W'.setCell ⟨E, 1, none⟩ v1') v0 v1' u0 u1 ⟨X.pages, l⟩ := by
  have hl := h.le
  have hw := h.below hb
  have hp := blk_lt h.p
  have hq := blk_lt h.r
  have hs := h.bel.size
  refine ⟨hw.bel.setCell (p := ⟨E, 1, none⟩) hl.1 v1', ?_, blk_far (p := ⟨E, 1, none⟩) hw.r (fun q => h.ne q.symm) v1', ⟨Kd.V_far (p := ⟨E, 1, none⟩) hw.ref.1 (fun k hk => ?_) v1', Kd.V_far (p := ⟨E, 1, none⟩) (Kd.V_mono hr (fun k hk => .inr ⟨by omega, by omega, by omega⟩)) (fun k hk => ?_) v1'⟩, h.ne, hl⟩
  · have := blk_set hw.p 1 v1'
    simpa using this
  all_goals
    show k ≠ E
    rcases hk with hk | hk
    · omega
    · exact hk.2.1
theorem kI_made (W : World) : kI.R 3 (W.alloc (.cells #[] 3)) W.heap.size (fun _ => True) (.slice (some ⟨W.heap.size, 0, none⟩) 0 0) [] :=
  ⟨fun _ _ => trivial, [], World.ownsRow_lit (base := W.heap.size) (e := 3) (size := 1) W #[] 0 (Nat.le_refl _) (by simp [maxLen]) (by simp), Reps.none _ _⟩
theorem lit_C {w : World} {b : Nat} {l : List Int} (h : w.heap[b]? = some (.cells (l.map (Value.int .i64)).toArray 3 (0, 0))) (hl : l.length ≤ 1000) : Kd.C kI w (some ⟨b, 0, none⟩) l.length l := by
  have hr : w.ownsRow 0 3 1 (.slice (some ⟨b, 0, none⟩) l.length l.length) l.length (encs (Value.int .i64) l) :=
    ⟨by simp [encs], .inr ⟨b, l.length, _, rfl, Nat.zero_le _, h, Nat.le_refl _, by unfold maxLen; omega, by simp, by rw [Nat.mul_one, List.take_of_length_le (by simp)]; rfl⟩⟩
  exact Kd.F_now (Kd.R_F (Kd.R_of_own (enc := Value.int .i64) (h1 := fun _ => rfl) (ok := fun k => k = b) hr (fun k hk => by simpa [Value.ownBlock] using hk.symm)))
set_option maxHeartbeats 16000000 in
set_option maxRecDepth 100000 in
theorem ref_drop (S : Nat → Prop) (A0 A1 : Option Addr) (c0 c1 : Nat) (X : PX) (hI : Inv X) (i : Int) (w : World) (h : Ref S w (.slice A0 (rows X.pages).length c0) (.slice A1 X.idle.length c1) X) :
    Calls Try.prog 29 #[.agg #[.slice A0 (rows X.pages).length c0, .slice A1 X.idle.length c1], .int .i64 i] w (RefEnd S w (pDrop X i).1 (pDrop X i).2) := by
  obtain ⟨_, _, hn0, hn1, hC0, hC1⟩ := h.read
  have HI := Aside0.mk hI
  have ST := Aside0.mk (way_new S w _ _ X h)
  obtain ⟨n0, hn0'⟩ : ∃ n, (rows X.pages).length = n := ⟨_, rfl⟩
  obtain ⟨n1, hn1'⟩ : ∃ n, X.idle.length = n := ⟨_, rfl⟩
  have HN0 := Aside0.mk hn0'
  have HN1 := Aside0.mk hn1'
  have TH := Aside0.mk (fun W (hb : Below w.heap.size w W) => tillerref12_There.calls A0 c0 (rows X.pages) A1 c1 X.idle i _ W (Kd.C_below hC0 hb) hn0 (Kd.C_below hC1 hb) hn1 (there_eq (zeroes_of hI) X.idle i))
  rw [hn0', hn1'] at TH ST ⊢
  by_cases ht : there X.pages i = true
  · rw [ht] at TH
    obtain ⟨h0, h1, h2, h3⟩ := hI.page ht
    obtain ⟨ad, eA, x0, x1, x2⟩ := at_T70 hC0 i h0 (by rw [rows_len]; exact h1)
    subst eA
    rw [rdR] at x0 x1 x2
    obtain ⟨p, hp⟩ : ∃ p, pg X.pages i = p := ⟨_, rfl⟩
    rw [hp] at x0 x1 x2 h2 h3
    have h4 : i < (n0 : Int) := by rw [← hn0', rows_len]; exact h1
    have HP := Aside0.mk hp
    have HTH := Aside0.mk ht
    have WC := Aside0.mk (fun W (S' : Nat → Prop) (hr : Ref S' W (.slice (some ad) n0 c0) (.slice A1 n1 c1) X) (f0 : Int) => tillerref12_with.calls (some ad) c0 (rows X.pages) S' A1 c1 X.idle i f0 p.f1 p.f2 _ _ W hr.read.2.2.2.2.1 hn0 (by rw [hn1']; exact hr.2) (with_eq X.idle h0 h1 hI.len f0 p.f1 p.f2))
    rw [hn0', hn1'] at WC
    have XC := Aside0.mk (And.intro x0 (And.intro x1 x2))
    clear hC0 hC1 h hI hn0 hn1 hn0' hn1' ht h1 x0 x1 x2 hp
    go_enter Try.func29, Try.ntmps29
    go_upto_region 1 with (fail)
    generalize (w.alloc (.cells #[.slice (some ad) n0 c0, .slice A1 n1 c1] 43 (0, 0))).alloc (.cells #[.slice none 0 0, .slice none 0 0] 43 (0, 0)) = w2 at ST ⊢
    obtain ⟨E, hE⟩ : ∃ E, w.heap.size = E := ⟨_, rfl⟩
    obtain ⟨F, hF⟩ : ∃ F, w.heap.size + 1 = F := ⟨_, rfl⟩
    rw [hF, hE] at ST ⊢
    have HEE := Aside0.mk hE
    clear hE hF
    have x0 := (blk_cell ST.out.p 0).trans (show #[Value.slice (some ad) n0 c0, .slice A1 n1 c1][0]? = some (Value.slice (some ad) n0 c0) from rfl)
    have x1 := (blk_cell ST.out.p 1).trans (show #[Value.slice (some ad) n0 c0, .slice A1 n1 c1][1]? = some (Value.slice A1 n1 c1) from rfl)
    have px0 := pw_cell_below ST.out.bel XC.out.1
    have px1 := pw_cell_below ST.out.bel XC.out.2.1
    have px2 := pw_cell_below ST.out.bel XC.out.2.2
    rw [show (toR p).f0 = p.f0 from rfl] at px0
    rw [show (toR p).f1 = p.f1 from rfl] at px1
    rw [show (toR p).f2 = p.f2 from rfl] at px2
    by_cases hc : p.f0 = 0
    · have hpd : pDrop X i = (X, 8) := by unfold pDrop; rw [if_neg (fun q => q.2 (by rw [HP.out]; exact hc))]
      have d0 : (p.f0 == 0) = true := by simpa using hc
      have HPD := Aside0.mk hpd
      clear h2 h3 hpd
      rw [hc] at px0
      clear hc d0
      go_wp2_with (go_at_call 36; go_loud ((refine (TH.out w2 ST.out.bel).mono ?_); rintro e w3 ⟨rfl, hb⟩; have T3 := Aside0.mk (ST.out.below hb); have x03 := pw_cell_below hb x0; have x13 := pw_cell_below hb x1; have px03 := pw_cell_below hb px0; have f0 := blk_frozen T3.out.r 0; have f1 := blk_frozen T3.out.r 1; have y0 := blk_cell T3.out.r 0; have y1 := blk_cell T3.out.r 1; clear hb x0 x1 px0 px1 px2))
      refine bodyPost_ret (results_ct rfl _ _ F 43 #[.slice (some ad) n0 c0, .slice A1 n1 c1] (0, 0) _ rfl T3.out.answer.r Try.underlying43 rfl (by kernel_rfl)) rfl ?_
      rw [HPD.out]
      exact T3.out.answer.end_ 8
    · have d0 : (p.f0 == 0) = false := by simpa using hc
      have hr1 : 1 ≤ p.f0 := by omega
      have hr2 : p.f0 ≤ 1000 := h2.2
      clear h2 h3
      go_upto_region 5 with (go_at_call 36; go_loud ((refine (TH.out w2 ST.out.bel).mono ?_); rintro e w3 ⟨rfl, hb⟩; have T3 := Aside0.mk (ST.out.below hb); have x03 := pw_cell_below hb x0; have x13 := pw_cell_below hb x1; have px03 := pw_cell_below hb px0; have px13 := pw_cell_below hb px1; have px23 := pw_cell_below hb px2; clear hb x0 x1 px0 px1 px2))
      have hb4 := below_alloc (Below.refl w3.heap.size w3) (.cells #[.int .i64 (p.f0 - 1), .bool p.f1, .int .i64 p.f2] 70 (0, 0))
      have T4 := Aside0.mk (T3.out.below hb4)
      have XB := Aside0.mk (blk_new w3 (.cells #[.int .i64 (p.f0 - 1), .bool p.f1, .int .i64 p.f2] 70 (0, 0)))
      have XN := Aside0.mk (show E ≠ w3.heap.size ∧ F ≠ w3.heap.size from by have := blk_lt T3.out.p; have := blk_lt T3.out.r; omega)
      have y0 := pw_cell_below hb4 x03
      have y1 := pw_cell_below hb4 x13
      generalize w3.alloc (.cells #[.int .i64 (p.f0 - 1), .bool p.f1, .int .i64 p.f2] 70 (0, 0)) = w4 at T4 XB y0 y1 ⊢
      generalize w3.heap.size = B at XB XN ⊢
      have z0 := blk_cell XB.out 0
      have z1 := blk_cell XB.out 1
      have z2 := blk_cell XB.out 2
      simp at z0 z1 z2
      clear hb4 x03 x13 px03 px13 px23 ST TH T3
      go_upto_region 6 with (go_at_call 34; go_loud ((refine (WC.out w4 _ T4.out.ref (p.f0 - 1)).mono ?_); rintro e w5 ⟨v0, v1, rfl, hR, hV, hb⟩; obtain ⟨A5, c5, rfl⟩ := Kd.R_slice hR; obtain ⟨A6, c6, rfl⟩ := Kd.V_slice hV; have HR5 := Aside0.mk hR; have HV5 := Aside0.mk hV; have HB5 := Aside0.mk hb; have f0 := blk_frozen (blk_below T4.out.p hb) 0; have f1 := blk_frozen (blk_below T4.out.p hb) 1; have y05 := pw_cell_below hb y0; have y15 := pw_cell_below hb y1; clear hR hV hb))
      have R5 := Aside0.mk (show Ref (fun k => (S k ∧ k < w.heap.size) ∨ (w.heap.size ≤ k ∧ k ≠ E ∧ k ≠ F)) w5 (.slice A5 (rows (pset X.pages i ⟨p.f0 - 1, p.f1, p.f2⟩)).length c5) (.slice A6 X.idle.length c6) ⟨pset X.pages i ⟨p.f0 - 1, p.f1, p.f2⟩, X.idle⟩ from by
        have hsz := T4.out.bel.size
        have hp := blk_lt T4.out.p
        have hr := blk_lt T4.out.r
        refine ⟨Kd.V_mono (Kd.R_V HR5.out) (fun k hk => .inr ⟨by omega, by omega, by omega⟩), Kd.V_mono HV5.out (fun k hk => ?_)⟩
        rcases hk.1 with q | q
        · exact q
        · exact .inr ⟨by omega, by omega, by omega⟩)
      have T6 := Aside0.mk (T4.out.param HB5.out R5.out)
      have z06 := (cell_far (p := ⟨E, 1, none⟩) (a := ⟨B, 0, none⟩) (fun q : B = E => XN.out.1 q.symm) (Value.slice A6 X.idle.length c6)).trans ((cell_far (p := ⟨E, 0, none⟩) (a := ⟨B, 0, none⟩) (fun q : B = E => XN.out.1 q.symm) (Value.slice A5 (rows (pset X.pages i ⟨p.f0 - 1, p.f1, p.f2⟩)).length c5)).trans (pw_cell_below HB5.out z0))
      have z16 := (cell_far (p := ⟨E, 1, none⟩) (a := ⟨B, 1, none⟩) (fun q : B = E => XN.out.1 q.symm) (Value.slice A6 X.idle.length c6)).trans ((cell_far (p := ⟨E, 0, none⟩) (a := ⟨B, 1, none⟩) (fun q : B = E => XN.out.1 q.symm) (Value.slice A5 (rows (pset X.pages i ⟨p.f0 - 1, p.f1, p.f2⟩)).length c5)).trans (pw_cell_below HB5.out z1))
      clear HR5 HV5 R5 T4 XB z0 z1 z2 y0 y1 y05 y15 f0 f1 HB5
      generalize (w5.setCell ⟨E, 0, none⟩ (Value.slice A5 (rows (pset X.pages i ⟨p.f0 - 1, p.f1, p.f2⟩)).length c5)).setCell ⟨E, 1, none⟩ (Value.slice A6 X.idle.length c6) = w6 at T6 z06 z16 ⊢
      obtain ⟨n5, hn5⟩ : ∃ n, (rows (pset X.pages i ⟨p.f0 - 1, p.f1, p.f2⟩)).length = n := ⟨_, rfl⟩
      rw [hn5, HN1.out] at T6 ⊢
      have HN5 := Aside0.mk hn5
      clear hn5
      have x0 := blk_cell T6.out.p 0
      have x1 := blk_cell T6.out.p 1
      have g0 := blk_frozen T6.out.r 0
      have g1 := blk_frozen T6.out.r 1
      have u0 := blk_cell T6.out.r 0
      have u1 := blk_cell T6.out.r 1
      simp at x0 x1 u0 u1
      have hpd : pDrop X i = (⟨pset X.pages i ⟨p.f0 - 1, p.f1, p.f2⟩, if p.f0 - 1 > 0 then X.idle else if p.f1 = true then X.idle ++ [i] else X.idle⟩, 0) := by
        unfold pDrop
        rw [if_pos ⟨HTH.out, by rw [HP.out]; omega⟩, HP.out]
      have HPD := Aside0.mk hpd
      clear hpd
      by_cases hz : p.f0 - 1 = 0
      · have d1 : (p.f0 - 1 == 0) = true := by simpa using hz
        have HZ := Aside0.mk hz
        rw [hz] at z06
        clear hz d1
        cases hs : p.f1 with
        | false =>
          have HS := Aside0.mk hs
          rw [hs] at z16
          clear hs
          go_wp2
          refine bodyPost_ret (results_ct rfl _ _ F 43 #[.slice A5 n5 c5, .slice A6 n1 c6] (0, 0) _ rfl T6.out.answer.r Try.underlying43 rfl (by kernel_rfl)) rfl ?_
          rw [HPD.out, if_neg (by rw [HZ.out]; omega), if_neg (by rw [HS.out]; decide)]
          exact T6.out.answer.end_ 0
        | true =>
          have HS := Aside0.mk hs
          rw [hs] at z16
          clear hs
          go_upto_region 7 with (fail)
          have KN := Aside0.mk (kI_made w6)
          have CI := Aside0.mk (show Kd.C kI w6 A6 n1 X.idle from by have h := T6.out.ref.read.2.2.2.2.2; have e : X.idle.length = n1 := HN1.out; rw [← e]; exact h)
          have LI := Aside0.mk (show X.idle.length ≤ 64 from idle_room HI.out)
          have e6 : ¬ E = w6.heap.size := by have := blk_lt T6.out.p; omega
          have e7 : ¬ F = w6.heap.size := by have := blk_lt T6.out.r; omega
          have x1a := pw_cell_below (below_alloc (Below.refl w6.heap.size w6) (.cells #[] 3 (0, 0))) x1
          go_upto_region 8 with (first
            | ((with_reducible refine gate_builtin (b := .append) (xs := #[.tmp 44, .tmp 46]) rfl ?_); go_loud ((refine Kd.R_append_rows kI (w0 := w6) w6.heap.size rfl (.tmp 44) (.tmp 46) 34 3 (.int .i64 0) 8 rfl Try.underlying34 info3 rfl (by decide) (by omega) v7 X.idle [i] (some ⟨w7.heap.size, 0, none⟩) 1 1 (fun _ => True) (fun _ => False) (by rfl) (by rfl) ?aO ?aR (fun _ _ h => h) (fun _ h => h.elim) ?aF ?aB ?aS ?aL ?_); (case aR => exact lit_C (w := w7.alloc (.cells #[.int .i64 i] 3 (0, 0))) (b := w7.heap.size) (l := [i]) (blk_new w7 (.cells #[.int .i64 i] 3 (0, 0))) (by simp)); (case aB => exact below_alloc B7.out _); (case aF => exact fun _ _ => trivial); (case aO => exact Kd.R_alloc O7.out _); (case aS => exact Nat.le_trans B7.out.size (below_alloc (Below.refl w7.heap.size w7) _).size); (case aL => have := LI.out; simp; omega); intro v8 w8 ho hb hg hat; obtain ⟨A8, c8, rfl⟩ := Kd.R_slice ho; have O8 := Aside0.mk ho; have B8 := Aside0.mk hb; have W8 := Aside0.mk (T6.out.below hb); have f0 := blk_frozen W8.out.p 1; have x18 := blk_cell W8.out.p 1; have x08 := blk_cell W8.out.p 0; have g08 := blk_frozen W8.out.r 0; have g18 := blk_frozen W8.out.r 1; have u08 := blk_cell W8.out.r 0; have u18 := blk_cell W8.out.r 1; simp at x08 x18 u08 u18; clear ho hb hg hat x0 x1 g0 g1 u0 u1))
            | ((with_reducible refine gate_builtin (b := .append) (xs := #[.tmp 41, .tmp 43]) rfl ?_); go_loud ((refine Kd.R_append_rows kI (w0 := w6) w6.heap.size rfl (.tmp 41) (.tmp 43) 34 3 (.int .i64 0) 8 rfl Try.underlying34 info3 rfl (by decide) (by omega) (.slice (some ⟨w6.heap.size, 0, none⟩) 0 0) [] X.idle A6 n1 c6 (fun _ => True) (fun _ => False) (by rfl) (by rfl) ?aO ?aR (fun _ _ h => h) (fun _ h => h.elim) ?aF ?aB ?aS ?aL ?_); (case aR => exact Kd.C_below CI.out (below_alloc (Below.refl _ _) _)); (case aB => exact below_alloc (Below.refl _ _) _); (case aF => exact fun _ _ => trivial); (case aO => exact KN.out); (case aS => exact (below_alloc (Below.refl _ _) _).size); (case aL => have := LI.out; have := HN1.out; simp; omega); intro v7 w7 ho hb hg hat; rw [List.nil_append] at ho; have O7 := Aside0.mk ho; have B7 := Aside0.mk hb; clear ho hb hg hat)))
          have T9 := Aside0.mk (T6.out.idle B8.out (Kd.V_mono (Kd.R_V (Kd.R_bound O8.out)) (fun k hk => hk.2.1)))
          clear f0 x08 x18 g08 g18 u08 u18 W8 e6 e7 x1a
          simp only [List.length_append, List.length_singleton] at T9
          generalize w8.setCell ⟨E, 1, none⟩ (.slice A8 (X.idle.length + 1) c8) = w9 at T9 ⊢
          have x0 := blk_cell T9.out.p 0
          have x1 := blk_cell T9.out.p 1
          have g0 := blk_frozen T9.out.r 0
          have g1 := blk_frozen T9.out.r 1
          have u0 := blk_cell T9.out.r 0
          have u1 := blk_cell T9.out.r 1
          generalize X.idle.length + 1 = n8 at x1 T9 ⊢
          simp at x0 x1 u0 u1
          go_wp2
          refine bodyPost_ret (results_ct rfl _ _ F 43 #[.slice A5 n5 c5, .slice A8 n8 c8] (0, 0) _ rfl T9.out.answer.r Try.underlying43 rfl (by kernel_rfl)) rfl ?_
          rw [HPD.out, if_neg (by rw [HZ.out]; omega), if_pos HS.out]
          exact T9.out.answer.end_ 0
      · have d1 : (p.f0 - 1 == 0) = false := by simpa using hz
        have HZ := Aside0.mk hz
        go_wp2
        refine bodyPost_ret (results_ct rfl _ _ F 43 #[.slice A5 n5 c5, .slice A6 n1 c6] (0, 0) _ rfl T6.out.answer.r Try.underlying43 rfl (by kernel_rfl)) rfl ?_
        rw [HPD.out, if_pos (by have := HZ.out; omega)]
        exact T6.out.answer.end_ 0
  · rw [Bool.eq_false_iff.2 ht] at TH
    have hp : pDrop X i = (X, 8) := by unfold pDrop; rw [if_neg (fun q => ht q.1)]
    rw [hp]
    clear hC0 hC1 h hI hn0 hn1 hn0' hn1' ht hp
    go_enter Try.func29, Try.ntmps29
    go_upto_region 1 with (fail)
    generalize (w.alloc (.cells #[.slice A0 n0 c0, .slice A1 n1 c1] 43 (0, 0))).alloc (.cells #[.slice none 0 0, .slice none 0 0] 43 (0, 0)) = w2 at ST ⊢
    obtain ⟨E, hE⟩ : ∃ E, w.heap.size = E := ⟨_, rfl⟩
    obtain ⟨F, hF⟩ : ∃ F, w.heap.size + 1 = F := ⟨_, rfl⟩
    rw [hF, hE] at ST ⊢
    clear hE hF
    have x0 := (blk_cell ST.out.p 0).trans (show #[Value.slice A0 n0 c0, .slice A1 n1 c1][0]? = some (Value.slice A0 n0 c0) from rfl)
    have x1 := (blk_cell ST.out.p 1).trans (show #[Value.slice A0 n0 c0, .slice A1 n1 c1][1]? = some (Value.slice A1 n1 c1) from rfl)
    go_wp2_with (go_at_call 36; go_loud ((refine (TH.out w2 ST.out.bel).mono ?_); rintro e w3 ⟨rfl, hb⟩; have T3 := Aside0.mk (ST.out.below hb); have x03 := pw_cell_below hb x0; have x13 := pw_cell_below hb x1; have f0 := blk_frozen T3.out.r 0; have f1 := blk_frozen T3.out.r 1; have y0 := blk_cell T3.out.r 0; have y1 := blk_cell T3.out.r 1; clear hb x0 x1))
    refine bodyPost_ret (results_ct rfl _ _ F 43 #[.slice A0 n0 c0, .slice A1 n1 c1] (0, 0) _ rfl T3.out.answer.r Try.underlying43 rfl (by kernel_rfl)) rfl ?_
    exact T3.out.answer.end_ 8
end Go.Proofs.Ytmbbaalpeomnlaa.OTwo
