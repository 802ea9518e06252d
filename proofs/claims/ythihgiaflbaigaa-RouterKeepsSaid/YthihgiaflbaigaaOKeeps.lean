/- RouterKeeps, walked by hand. -/
import Derived.Test.YthihgiaflbaigaaGQx1
import Derived.Test.YthihgiaflbaigaaGQx2
import Derived.Test.YthihgiaflbaigaaORAwake
import Derived.Test.YthihgiaflbaigaaORDone
import Derived.Test.YthihgiaflbaigaaORGet
import Derived.Test.YthihgiaflbaigaaUAsked
set_option linter.unusedVariables false
set_option linter.unusedSimpArgs false
namespace Go.Proofs.Ythihgiaflbaigaa.OKeeps
open Go.RowKit Go.Proofs.YthihgiaflbaigaaW.PrintWords Go.Proofs.YthihgiaflbaigaaW.PrintLast Go.Proofs.YthihgiaflbaigaaW.PrintMore Go.Proofs.Ythihgiaflbaigaa.GQ Go.Proofs.Ythihgiaflbaigaa.OMap Go.Proofs.Ythihgiaflbaigaa.UTrie Go.Proofs.Ythihgiaflbaigaa.OTrie Go.Proofs.Ythihgiaflbaigaa.ORouter Go.Proofs.Ythihgiaflbaigaa.U
theorem submitR_ok {S : RX} {ea now : Int} {l : List Int} {most : Int} (h : (submitR S ea now l most).2.2.2.2 = 0) : ∃ p d, (submitR S ea now l most).1.es = S.es ++ [⟨0, p, d, l, most, now, 0, []⟩] := by
  unfold submitR at h ⊢
  split at h
  · simp at h
  split at h
  · exact absurd h ‹_›
  split at h
  · simp at h
  split at h
  · simp at h
  split at h
  · simp at h
  · rw [if_neg ‹_›, if_neg ‹_›, if_neg ‹_›, if_neg ‹_›, if_neg ‹_›]
    exact ⟨_, _, by rw [(placeR_es S l true).1]⟩
def plK : S31 := ⟨2, 2, 4, 5, 2⟩
def kp0 : RX := newR smallC plK
theorem kp_c : router_Check.f 100 2 2 4 5 2 = some 0 := by decide +kernel
theorem kp_i : Inv kp0 := Inv.new _ _ (by decide) (by decide) (by decide)
/-- The door beside the two rows that were handed in and are overwritten. -/
structure Kp (w W : World) (g lo b2 b3 b4 : Nat) (S : RX) (L : Lo) (Ap : Option Addr) (np cp : Nat) (pv : List Int) (Aa : Option Addr) (na ca : Nat) (av : List Int) : Prop where
  rt : RT W g lo S L
  rp : kI.R 3 W b2 (fun k => b2 ≤ k ∧ k < b3) (.slice Ap np cp) pv
  ra : kI.R 3 W b3 (fun k => b3 ≤ k ∧ k < b4) (.slice Aa na ca) av
  bel : Below w.heap.size w W
  nk : ∀ k, b2 ≤ k → k < b4 → ¬ mine L k ∧ ¬ L.I k
  s : w.heap.size ≤ b2 ∧ b2 ≤ b3 ∧ b3 ≤ b4
  sz : b4 ≤ W.heap.size
theorem Kp.step {w W W' : World} {g lo b2 b3 b4 : Nat} {S : RX} {L : Lo} {Ap : Option Addr} {np cp : Nat} {pv : List Int} {Aa : Option Addr} {na ca : Nat} {av : List Int} (h : Kp w W g lo b2 b3 b4 S L Ap np cp pv Aa na ca av) (hb : Below W.heap.size W W') : Kp w W' g lo b2 b3 b4 S L Ap np cp pv Aa na ca av :=
  ⟨h.rt.below hb, Kd.R_below h.rp hb, Kd.R_below h.ra hb, h.bel.trans (hb.mono h.bel.size), h.nk, h.s, Nat.le_trans h.sz hb.size⟩
theorem Kp.setP {w W : World} {g lo b2 b3 b4 : Nat} {S : RX} {L : Lo} {Ap : Option Addr} {np cp : Nat} {pv : List Int} {Aa : Option Addr} {na ca : Nat} {av : List Int} (h : Kp w W g lo b2 b3 b4 S L Ap np cp pv Aa na ca av) (i : Nat) (hi : i < np) :
    ∃ gp u, Ap = some ⟨gp, 0, none⟩ ∧ W.cell? ⟨gp, i, none⟩ = some u ∧ W.frozen? ⟨gp, i, none⟩ = false ∧ ∀ y : Int, Kp w (W.setCell ⟨gp, i, none⟩ (.int .i64 y)) g lo b2 b3 b4 S L Ap np cp (pv.set i y) Aa na ca av := by
  have hln : np = pv.length := (Kd.R_reads' h.rp).1
  obtain ⟨gp, c', e, h1, h2, _⟩ := Kd.R_form h.rp (by omega)
  injection e with e1 e2 e3
  have hr := h.rp
  rw [e1] at hr
  have hk := h.rp.1 gp (by rw [e1]; rfl)
  obtain ⟨q1, q2⟩ := Kd.R_celln 0 hr (i : Int) (by omega) (by omega)
  rw [Int.toNat_natCast] at q1 q2
  have ho := h.nk gp hk.1 (by have := h.s; omega)
  refine ⟨gp, _, e1, q1, q2, fun y => ⟨h.rt.far ⟨gp, i, none⟩ ho.1 ho.2 _, ?_, Kd.R_far (p := ⟨gp, i, none⟩) h.ra (fun k z => by show k ≠ gp; omega) _, h.bel.setCell (p := ⟨gp, i, none⟩) (by have := h.s; show w.heap.size ≤ gp; omega) _, h.nk, h.s, Nat.le_trans h.sz ((Below.refl 0 W).setCell (p := ⟨gp, i, none⟩) (Nat.zero_le _) (.int .i64 y)).size⟩⟩
  rw [e1]
  have := Kd.R_putn hr (i : Int) y
  rw [Int.toNat_natCast] at this
  exact this
theorem Kp.setA {w W : World} {g lo b2 b3 b4 : Nat} {S : RX} {L : Lo} {Ap : Option Addr} {np cp : Nat} {pv : List Int} {Aa : Option Addr} {na ca : Nat} {av : List Int} (h : Kp w W g lo b2 b3 b4 S L Ap np cp pv Aa na ca av) (i : Nat) (hi : i < na) :
    ∃ gp u, Aa = some ⟨gp, 0, none⟩ ∧ W.cell? ⟨gp, i, none⟩ = some u ∧ W.frozen? ⟨gp, i, none⟩ = false ∧ ∀ y : Int, Kp w (W.setCell ⟨gp, i, none⟩ (.int .i64 y)) g lo b2 b3 b4 S L Ap np cp pv Aa na ca (av.set i y) := by
  have hln : na = av.length := (Kd.R_reads' h.ra).1
  obtain ⟨gp, c', e, h1, h2, _⟩ := Kd.R_form h.ra (by omega)
  injection e with e1 e2 e3
  have hr := h.ra
  rw [e1] at hr
  have hk := h.ra.1 gp (by rw [e1]; rfl)
  obtain ⟨q1, q2⟩ := Kd.R_celln 0 hr (i : Int) (by omega) (by omega)
  rw [Int.toNat_natCast] at q1 q2
  have ho := h.nk gp (by have := h.s; omega) hk.2
  refine ⟨gp, _, e1, q1, q2, fun y => ⟨h.rt.far ⟨gp, i, none⟩ ho.1 ho.2 _, Kd.R_far (p := ⟨gp, i, none⟩) h.rp (fun k z => by show k ≠ gp; omega) _, ?_, h.bel.setCell (p := ⟨gp, i, none⟩) (by have := h.s; show w.heap.size ≤ gp; omega) _, h.nk, h.s, Nat.le_trans h.sz ((Below.refl 0 W).setCell (p := ⟨gp, i, none⟩) (Nat.zero_le _) (.int .i64 y)).size⟩⟩
  rw [e1]
  have := Kd.R_putn hr (i : Int) y
  rw [Int.toNat_natCast] at this
  exact this
theorem Kp.far {w W : World} {g lo b2 b3 b4 : Nat} {S : RX} {L : Lo} {Ap : Option Addr} {np cp : Nat} {pv : List Int} {Aa : Option Addr} {na ca : Nat} {av : List Int} (h : Kp w W g lo b2 b3 b4 S L Ap np cp pv Aa na ca av) (a : Addr) (hb : b4 ≤ a.block) (hm : ¬ mine L a.block) (hI : ¬ L.I a.block) (u : Value) : Kp w (W.setCell a u) g lo b2 b3 b4 S L Ap np cp pv Aa na ca av :=
  ⟨h.rt.far a hm hI u, Kd.R_far h.rp (fun k z => by have := h.s; omega) u, Kd.R_far h.ra (fun k z => by have := h.s; omega) u, h.bel.setCell (by have := h.s; omega) u, h.nk, h.s, Nat.le_trans h.sz ((Below.refl 0 W).setCell (p := a) (Nat.zero_le _) u).size⟩
/-- What Get told beside it all. -/
structure Kx (w W : World) (g lo b2 b3 b4 b5 b6 b7 G : Nat) (pf dc : Int) (S : RX) (L : Lo) (Ap : Option Addr) (np cp : Nat) (pv : List Int) (Aa : Option Addr) (na ca : Nat) (av : List Int) (Ax : Option Addr) (cx : Nat) (xv : List Int) (Ay : Option Addr) (cy : Nat) (yv : List Int) : Prop where
  k : Kp w W g lo b2 b3 b4 S L Ap np cp pv Aa na ca av
  xb : W.heap[G]? = some (.cells #[.int .i64 0, .int .i64 0, .int .i64 pf, .int .i64 dc, .slice Ax np cx, .int .i64 1, .int .i64 0, .int .i64 1, .slice Ay na cy] 40 (0, 0))
  xr : kI.R 3 W b5 (fun k => b5 ≤ k ∧ k < b6) (.slice Ax np cx) xv
  yr : kI.R 3 W b5 (fun k => b6 ≤ k ∧ k < b7) (.slice Ay na cy) yv
  m : ∀ k, mine L k ∨ L.I k → k < b5
  s : b4 ≤ b5 ∧ b5 ≤ b6 ∧ b6 ≤ b7 ∧ b7 ≤ G
theorem Kx.step {w W : World} {g lo b2 b3 b4 b5 b6 b7 G : Nat} {pf dc : Int} {S : RX} {L : Lo} {Ap : Option Addr} {np cp : Nat} {pv : List Int} {Aa : Option Addr} {na ca : Nat} {av : List Int} {Ax : Option Addr} {cx : Nat} {xv : List Int} {Ay : Option Addr} {cy : Nat} {yv : List Int} {W' : World} (h : Kx w W g lo b2 b3 b4 b5 b6 b7 G pf dc S L Ap np cp pv Aa na ca av Ax cx xv Ay cy yv) (hb : Below W.heap.size W W') : Kx w W' g lo b2 b3 b4 b5 b6 b7 G pf dc S L Ap np cp pv Aa na ca av Ax cx xv Ay cy yv :=
  ⟨h.k.step hb, blk_below h.xb hb, Kd.R_below h.xr hb, Kd.R_below h.yr hb, h.m, h.s⟩
theorem Kx.setX {w W : World} {g lo b2 b3 b4 b5 b6 b7 G : Nat} {pf dc : Int} {S : RX} {L : Lo} {Ap : Option Addr} {np cp : Nat} {pv : List Int} {Aa : Option Addr} {na ca : Nat} {av : List Int} {Ax : Option Addr} {cx : Nat} {xv : List Int} {Ay : Option Addr} {cy : Nat} {yv : List Int} (h : Kx w W g lo b2 b3 b4 b5 b6 b7 G pf dc S L Ap np cp pv Aa na ca av Ax cx xv Ay cy yv) (i : Nat) (hi : i < np) :
    ∃ gp, Ax = some ⟨gp, 0, none⟩ ∧ W.cell? ⟨gp, i, none⟩ = some (.int .i64 (rd xv (i : Int))) ∧ W.frozen? ⟨gp, i, none⟩ = false ∧ ∀ y : Int, Kx w (W.setCell ⟨gp, i, none⟩ (.int .i64 y)) g lo b2 b3 b4 b5 b6 b7 G pf dc S L Ap np cp pv Aa na ca av Ax cx (xv.set i y) Ay cy yv := by
  have hln : np = xv.length := (Kd.R_reads' h.xr).1
  obtain ⟨gp, c', e, h1, h2, _⟩ := Kd.R_form h.xr (by omega)
  injection e with e1 e2 e3
  have hr := h.xr
  rw [e1] at hr
  have hk := h.xr.1 gp (by rw [e1]; rfl)
  obtain ⟨q1, q2⟩ := Kd.R_celln 0 hr (i : Int) (by omega) (by omega)
  rw [Int.toNat_natCast] at q1 q2
  have hs := h.s
  have hm : ¬ mine L gp := fun q => by have := h.m gp (.inl q); omega
  have hI : ¬ L.I gp := fun q => by have := h.m gp (.inr q); omega
  refine ⟨gp, e1, q1, q2, fun y => ⟨h.k.far ⟨gp, i, none⟩ (by show b4 ≤ gp; omega) hm hI _, by rw [Below.heap_setCell _ _ _ _ (show G ≠ gp by omega)]; exact h.xb, ?_, Kd.R_far (p := ⟨gp, i, none⟩) h.yr (fun k z => by show k ≠ gp; omega) _, h.m, h.s⟩⟩
  rw [e1]
  have := Kd.R_putn hr (i : Int) y
  rw [Int.toNat_natCast] at this
  exact this
theorem Kx.setY {w W : World} {g lo b2 b3 b4 b5 b6 b7 G : Nat} {pf dc : Int} {S : RX} {L : Lo} {Ap : Option Addr} {np cp : Nat} {pv : List Int} {Aa : Option Addr} {na ca : Nat} {av : List Int} {Ax : Option Addr} {cx : Nat} {xv : List Int} {Ay : Option Addr} {cy : Nat} {yv : List Int} (h : Kx w W g lo b2 b3 b4 b5 b6 b7 G pf dc S L Ap np cp pv Aa na ca av Ax cx xv Ay cy yv) (i : Nat) (hi : i < na) :
    ∃ gp, Ay = some ⟨gp, 0, none⟩ ∧ W.cell? ⟨gp, i, none⟩ = some (.int .i64 (rd yv (i : Int))) ∧ W.frozen? ⟨gp, i, none⟩ = false ∧ ∀ y : Int, Kx w (W.setCell ⟨gp, i, none⟩ (.int .i64 y)) g lo b2 b3 b4 b5 b6 b7 G pf dc S L Ap np cp pv Aa na ca av Ax cx xv Ay cy (yv.set i y) := by
  have hln : na = yv.length := (Kd.R_reads' h.yr).1
  obtain ⟨gp, c', e, h1, h2, _⟩ := Kd.R_form h.yr (by omega)
  injection e with e1 e2 e3
  have hr := h.yr
  rw [e1] at hr
  have hk := h.yr.1 gp (by rw [e1]; rfl)
  obtain ⟨q1, q2⟩ := Kd.R_celln 0 hr (i : Int) (by omega) (by omega)
  rw [Int.toNat_natCast] at q1 q2
  have hs := h.s
  have hm : ¬ mine L gp := fun q => by have := h.m gp (.inl q); omega
  have hI : ¬ L.I gp := fun q => by have := h.m gp (.inr q); omega
  refine ⟨gp, e1, q1, q2, fun y => ⟨h.k.far ⟨gp, i, none⟩ (by show b4 ≤ gp; omega) hm hI _, by rw [Below.heap_setCell _ _ _ _ (show G ≠ gp by omega)]; exact h.xb, Kd.R_far (p := ⟨gp, i, none⟩) h.xr (fun k z => by show k ≠ gp; omega) _, ?_, h.m, h.s⟩⟩
  rw [e1]
  have := Kd.R_putn hr (i : Int) y
  rw [Int.toNat_natCast] at this
  exact this
theorem rd_set_ne {l : List Int} {i j : Nat} {y : Int} (h : i ≠ j) : rd (l.set i y) (j : Int) = rd l (j : Int) := by
  show (l.set i y).getD ((j : Int)).toNat 0 = l.getD ((j : Int)).toNat 0
  rw [Int.toNat_natCast, List.getD_eq_getElem?_getD, List.getD_eq_getElem?_getD, List.getElem?_set_ne h]
open Classical in
/-- The law's answer within the row's bounds. -/
noncomputable def tillerlaw24_RouterKeeps.f (l0 l1 : List Int) : Option Bool := if (∀ x ∈ l0, i64 x) ∧ (∀ x ∈ l1, i64 x) then some true else none
set_option maxHeartbeats 8000000 in
set_option maxRecDepth 100000 in
theorem tillerlaw24_RouterKeeps.calls (A0 : Option Addr) (c0 : Nat) (l0 : List Int) (A1 : Option Addr) (c1 : Nat) (l1 : List Int) (r : Bool) (w : World) (hr0 : Kd.C kI w A0 l0.length l0) (hc0 : l0.length ≤ c0) (hr1 : Kd.C kI w A1 l1.length l1) (hc1 : l1.length ≤ c1) (hr_ : Aside0 (r = true)) (h : tillerlaw24_RouterKeeps.f l0 l1 = some r) :
    Calls Try.prog 3 #[.slice A0 l0.length c0, .slice A1 l1.length c1] w fun e w' => e = .returned (.bool r) ∧ Below w.heap.size w w' := by
  obtain ⟨r_⟩ := hr_
  subst r_
  have hI : (∀ x ∈ l0, i64 x) ∧ (∀ x ∈ l1, i64 x) := by
    unfold tillerlaw24_RouterKeeps.f at h
    by_cases e : (∀ x ∈ l0, i64 x) ∧ (∀ x ∈ l1, i64 x)
    · exact e
    · rw [if_neg e] at h; cases h
  have SC := Aside0.mk (tillerlaw24_small.calls 4 1 1 1 1 w rfl)
  obtain ⟨p, hp⟩ : ∃ p, l0.take 100 = p := ⟨_, rfl⟩
  obtain ⟨a, ha⟩ : ∃ a, l1.take 100 = a := ⟨_, rfl⟩
  have FP := Aside0.mk (show tillerlaw08_Few.f l0 100 = some p from by rw [← hp]; exact few_eq l0 100 (by omega))
  have FA := Aside0.mk (show tillerlaw08_Few.f l1 100 = some a from by rw [← ha]; exact few_eq l1 100 (by omega))
  have HP := Aside0.mk (show p.length ≤ 100 ∧ (∀ x ∈ p, i64 x) ∧ p.length ≤ l0.length ∧ ∀ i : Nat, i < p.length → rd p (i : Int) = rd l0 (i : Int) from by
    subst hp
    refine ⟨by rw [List.length_take]; omega, fun x hx => hI.1 x (List.mem_of_mem_take hx), by rw [List.length_take]; omega, fun i hi => ?_⟩
    rw [List.length_take] at hi
    rw [rd_nat (show i < (l0.take 100).length by rw [List.length_take]; omega), rd_nat (show i < l0.length by omega), List.getElem_take])
  have HA := Aside0.mk (show a.length ≤ 100 ∧ a.length ≤ l1.length ∧ ∀ i : Nat, i < a.length → rd a (i : Int) = rd l1 (i : Int) from by
    subst ha
    refine ⟨by rw [List.length_take]; omega, by rw [List.length_take]; omega, fun i hi => ?_⟩
    rw [List.length_take] at hi
    rw [rd_nat (show i < (l1.take 100).length by rw [List.length_take]; omega), rd_nat (show i < l1.length by omega), List.getElem_take])
  obtain ⟨n0, hn0⟩ : ∃ n, l0.length = n := ⟨_, rfl⟩
  obtain ⟨n1, hn1⟩ : ∃ n, l1.length = n := ⟨_, rfl⟩
  obtain ⟨np, hnp⟩ : ∃ n, p.length = n := ⟨_, rfl⟩
  obtain ⟨na, hna⟩ : ∃ n, a.length = n := ⟨_, rfl⟩
  have F0 := fun W (hb : Below w.heap.size w W) => tillerlaw08_Few.calls A0 c0 l0 100 p W (Kd.C_below hr0 hb) hc0 FP.out
  have F1 := fun W (hb : Below w.heap.size w W) => tillerlaw08_Few.calls A1 c1 l1 100 a W (Kd.C_below hr1 hb) hc1 FA.out
  rw [hn0] at hr0 hc0 HP ⊢
  rw [hn1] at hr1 hc1 HA ⊢
  simp only [hn0] at F0
  simp only [hn1] at F1
  have HN := Aside0.mk (And.intro hnp hna)
  have H0 := Aside0.mk (And.intro hr0 hr1)
  have F0 := Aside0.mk F0
  have F1 := Aside0.mk F1
  clear h hI hr0 hc0 hr1 hc1 hp ha hn0 hn1 hnp hna FP FA
  go_enter Try.func3, Try.ntmps3
  go_upto_region 2 with (first
    | (go_at_call 8; go_loud ((refine SC.out.mono ?_); rintro e w1 ⟨rfl, hb⟩; have B1 := Aside0.mk hb; clear hb))
    | (go_at_call 7; go_loud ((refine (new_ok smallC plK w1 kp_c (by decide)).mono ?_); rintro e w2 ⟨g, q, oc, rfl, r, hb⟩; have B2 := Aside0.mk (B1.out.trans (hb.mono B1.out.size)); have R2 := Aside0.mk (show RT w2 g w1.heap.size kp0 (newL g q oc) from r); have LO := Aside0.mk B1.out.size; clear hb r)))
  go_upto_region 5 with (first
    | (go_at_call 9; (with_reducible refine (F0.out w2 B2.out).mono ?_); go_loud (rintro e w3 ⟨v0, rfl, hR, hb⟩; obtain ⟨Ap, cp, rfl⟩ := Kd.R_slice hR; rw [HN.out.1] at hR ⊢; have RP := Aside0.mk (show kI.R 3 w3 w2.heap.size (fun _ => True) (.slice Ap np cp) p from hR); have R3 := Aside0.mk (R2.out.below hb); have R23 := Aside0.mk hb.size; have B3 := Aside0.mk (B2.out.trans (hb.mono B2.out.size)); clear hR hb))
    | (go_at_call 9; (with_reducible refine (F1.out w3 B3.out).mono ?_); go_loud (rintro e w4 ⟨v0, rfl, hR, hb⟩; obtain ⟨Aa, ca, rfl⟩ := Kd.R_slice hR; rw [HN.out.2] at hR ⊢; have RA := Aside0.mk (show kI.R 3 w4 w3.heap.size (fun _ => True) (.slice Aa na ca) a from hR); have R34 := Aside0.mk hb; have R4 := Aside0.mk (R3.out.below hb); have B4 := Aside0.mk (B3.out.trans (hb.mono B3.out.size)); clear hR hb)))
  have hb2 : ∀ k, w2.heap.size ≤ k → ¬ mine (newL g q oc) k := fun k hk hm => by have := R2.out.hi k hm; omega
  have s23 : w2.heap.size ≤ w3.heap.size := R23.out
  have RP5 := Aside0.mk (show kI.R 3 w4 w2.heap.size (fun k => w2.heap.size ≤ k ∧ k < w3.heap.size) (.slice Ap np cp) p from Kd.R_below (Kd.R_mono (Kd.R_bound RP.out) (fun k z => ⟨z.2.1, z.2.2.1⟩)) R34.out)
  have RA5 := Aside0.mk (show kI.R 3 w4 w3.heap.size (fun k => w3.heap.size ≤ k ∧ k < w4.heap.size) (.slice Aa na ca) a from Kd.R_mono (Kd.R_bound RA.out) (fun k z => ⟨z.2.1, z.2.2.1⟩))
  have s34 : w3.heap.size ≤ w4.heap.size := R34.out.size
  have SU := submit_calls g w1.heap.size kp0 (newL g q oc) Ap cp p 0 1 (askedE 4 p 1) w4 R4.out kp_i (by rw [HN.out.1]; exact Kd.F_mono (Kd.R_F RP5.out) (fun k z => hb2 k z.1)) (by rw [HN.out.1]; exact (Kd.R_reads' RP5.out).2.1) HP.out.2.1 (by show 0 ≤ 1000000000; omega) (by have := HP.out.1; omega) (by decide) (asked_eq 4 1 1 1 1 p 1 (by have := HP.out.1; omega))
  obtain ⟨S1, hS1⟩ : ∃ S1, (submitR kp0 (askedE 4 p 1) 0 p 1).1 = S1 := ⟨_, rfl⟩
  obtain ⟨o, ho⟩ : ∃ o, (submitR kp0 (askedE 4 p 1) 0 p 1).2 = o := ⟨_, rfl⟩
  obtain ⟨oq, op, od, oe⟩ := o
  have SOK := Aside0.mk (show oe = 0 → ∃ pf dc, S1.es = [⟨0, pf, dc, p, 1, 0, 0, []⟩] from fun hz => by
    obtain ⟨pf, dc, h⟩ := submitR_ok (S := kp0) (ea := askedE 4 p 1) (now := 0) (l := p) (most := 1) (by rw [ho]; exact hz)
    rw [hS1] at h
    exact ⟨pf, dc, h⟩)
  rw [hS1, ho, HN.out.1] at SU
  have SU := Aside0.mk SU
  have SZ := Aside0.mk (And.intro s23 s34)
  have NM := Aside0.mk hb2
  clear hS1 ho s23 s34 hb2
  go_upto_region 6 with (go_at_call 10; go_loud ((refine SU.out.mono ?_); rintro e w5 ⟨rfl, L5, hN5, r5, p5⟩; have R5 := Aside0.mk r5; have P5 := Aside0.mk p5; have B5 := Aside0.mk (B4.out.trans (p5.below.mono LO.out)); have RP6 := Aside0.mk (Kd.R_step RP5.out (fun k z hlt => p5.kept.2 k hlt (NM.out k z.1))); have RA6 := Aside0.mk (Kd.R_step RA5.out (fun k z hlt => p5.kept.2 k hlt (NM.out k (by have := SZ.out; omega)))); clear r5 p5 hN5))
  have bb := below_alloc (Below.refl w5.heap.size w5) (.cells #[.int .i64 oq, .int .i64 0, .int .i64 op, .int .i64 od] 34 (0, 0))
  have R6 := Aside0.mk (R5.out.below bb)
  have P6 := Aside0.mk (P5.out.step R5.out.size bb)
  have B6 := Aside0.mk (B5.out.trans (bb.mono B5.out.size))
  have RP7 := Aside0.mk (Kd.R_below RP6.out bb)
  have RA7 := Aside0.mk (Kd.R_below RA6.out bb)
  clear bb R5 P5 B5 RP6 RA6 RP5 RA5 SU R4
  generalize w5.alloc (.cells #[.int .i64 oq, .int .i64 0, .int .i64 op, .int .i64 od] 34 (0, 0)) = w6 at R6 P6 B6 RP7 RA7 ⊢
  by_cases he : oe = 0
  · have f1 : (oe == 0) = true := beq_iff_eq.mpr he
    have f2 : (oe != 0) = false := bne_eq_false_iff_eq.mpr he
    obtain ⟨pf, dc, hes⟩ := SOK.out he
    have DO := done_calls g w1.heap.size S1 L5 0 0 Aa ca a w6 R6.out (by rw [HN.out.2]; exact Kd.F_mono (Kd.R_F RA7.out) (fun k z hm => (P6.out.mine k hm).elim (NM.out k (by have := SZ.out; omega)) (fun q => by omega))) (by rw [HN.out.2]; exact (Kd.R_reads' RA7.out).2.1) (by have := HA.out.1; omega) (by rw [hes]; show 1 ≤ 1048576; omega)
    have hd : doneR S1 0 0 a = ({ S1 with es := [⟨0, pf, dc, p, 1, 0, 1, a⟩] }, 0) := by
      unfold doneR
      rw [hes]
      rfl
    rw [hd, HN.out.2] at DO
    have DO := Aside0.mk DO
    clear hes hd he
    go_upto_region 10 with (go_at_call 12; go_loud ((refine DO.out.mono ?_); rintro e w7 ⟨rfl, L7, hN7, r7, p7⟩; have R7 := Aside0.mk r7; have P7 := Aside0.mk (P6.out.trans p7); have B7 := Aside0.mk (B6.out.trans (p7.below.mono LO.out)); have RP8 := Aside0.mk (Kd.R_step RP7.out (fun k z hlt => p7.kept.2 k hlt (fun hm => (P6.out.mine k hm).elim (NM.out k z.1) (fun q => by have := SZ.out; omega)))); have RA8 := Aside0.mk (Kd.R_step RA7.out (fun k z hlt => p7.kept.2 k hlt (fun hm => (P6.out.mine k hm).elim (NM.out k (by have := SZ.out; omega)) (fun q => by omega)))); clear r7 p7 hN7))
    have KK := Aside0.mk (show Kp w w7 g w1.heap.size w2.heap.size w3.heap.size w4.heap.size { S1 with es := [⟨0, pf, dc, p, 1, 0, 1, a⟩] } L7 Ap np cp p Aa na ca a from
      ⟨R7.out, RP8.out, RA8.out, B7.out, fun k h1 h2 => ⟨fun hm => (P7.out.mine k hm).elim (NM.out k h1) (fun q => by omega), fun hq => (P7.out.inn k hq).elim (fun z => z) (fun q => by omega)⟩, by have h1 := B2.out.size; have h2 := SZ.out; omega, by have h1 := P7.out.kept.1; exact h1⟩)
    have LP := Aside0.mk (show np ≤ 100 ∧ na ≤ 100 from ⟨by rw [← HN.out.1]; exact HP.out.1, by rw [← HN.out.2]; exact HA.out.1⟩)
    clear R7 RP8 RA8 B7 P7 R6 P6 B6 RP7 RA7 DO f1 f2
    go_upto_region 11 with (fail)
    go_loopg [51] np (fun kq v51 W => ∃ (i : Nat) (pv : List Int), v51 = .int .i64 (i : Int) ∧ Aside0 (i + kq = np) ∧ Aside0 (Kp w W g w1.heap.size w2.heap.size w3.heap.size w4.heap.size { S1 with es := [⟨0, pf, dc, p, 1, 0, 1, a⟩] } L7 Ap np cp pv Aa na ca a))
    case atStart => exact ⟨0, _, rfl, ⟨Nat.zero_add _⟩, KK⟩
    case round =>
      clear KK
      obtain ⟨i, pv, rfl, HI, KK⟩ := hrel
      have hi := HI.out
      have lp := LP.out
      cases gk with
      | succ k =>
        have e1 : decide ((i : Int) < (np : Int)) = true := decide_eq_true (by omega)
        have e2 : decide (i < np) = true := decide_eq_true (by omega)
        have e3 : i < np := by omega
        have e4 : (i : Int) < (np : Int) := by omega
        obtain ⟨gp, u, hA, q1, q2, KS⟩ := KK.out.setP i e3
        have KS := Aside0.mk KS
        have IB := Aside0.mk (show i < 100 from by omega)
        clear hi lp
        subst hA
        go_wp2
        go_roundg k
        case measure => omega
        case rel => exact ⟨i + 1, _, by have := IB.out; rw [w64 (x := (i : Int) + 1) (by omega) (by omega)]; rfl, ⟨by have := HI.out; omega⟩, ⟨KS.out 77⟩⟩
      | zero =>
        have e1 : decide ((i : Int) < (np : Int)) = false := decide_eq_false (by omega)
        have e2 : decide (i < np) = false := decide_eq_false (by omega)
        have e3 : ¬ i < np := by omega
        clear hi lp
        go_upto_region 16 with (fail)
        go_loopg [60] na (fun kq v60 W => ∃ (i : Nat) (av : List Int), v60 = .int .i64 (i : Int) ∧ Aside0 (i + kq = na) ∧ Aside0 (Kp w W g w1.heap.size w2.heap.size w3.heap.size w4.heap.size { S1 with es := [⟨0, pf, dc, p, 1, 0, 1, a⟩] } L7 Ap np cp pv Aa na ca av))
        case atStart => exact ⟨0, _, rfl, ⟨Nat.zero_add _⟩, KK⟩
        case round =>
          clear KK
          obtain ⟨i, av, rfl, HI, KK⟩ := hrel
          have hi := HI.out
          have lp := LP.out
          cases gk with
          | succ k =>
            have e1 : decide ((i : Int) < (na : Int)) = true := decide_eq_true (by omega)
            have e2 : decide (i < na) = true := decide_eq_true (by omega)
            have e3 : i < na := by omega
            have e4 : (i : Int) < (na : Int) := by omega
            obtain ⟨gp, u, hA, q1, q2, KS⟩ := KK.out.setA i e3
            have KS := Aside0.mk KS
            have IB := Aside0.mk (show i < 100 from by omega)
            clear hi lp
            subst hA
            go_wp2
            go_roundg k
            case measure => omega
            case rel => exact ⟨i + 1, _, by have := IB.out; rw [w64 (x := (i : Int) + 1) (by omega) (by omega)]; rfl, ⟨by have := HI.out; omega⟩, ⟨KS.out 77⟩⟩
          | zero =>
            have e1 : decide ((i : Int) < (na : Int)) = false := decide_eq_false (by omega)
            have e2 : decide (i < na) = false := decide_eq_false (by omega)
            have e3 : ¬ i < na := by omega
            clear hi lp
            have GC := Aside0.mk (get_yes g w1.heap.size { S1 with es := [⟨0, pf, dc, p, 1, 0, 1, a⟩] } L7 0 wr KK.out.rt (by show 0 < 1; omega) (by show 1 ≤ 1048576; omega) (by show p.length ≤ 1000; have := HP.out.1; omega) (by show a.length ≤ 1000; have := HA.out.1; omega))
            have GE := Aside0.mk (show ({ S1 with es := [⟨0, pf, dc, p, 1, 0, 1, a⟩] } : RX).es.getD 0 zP = ⟨0, pf, dc, p, 1, 0, 1, a⟩ from rfl)
            rw [GE.out] at GC
            go_upto_region 21 with (go_at_call 13; go_loud ((refine GC.out.mono ?_); rintro e w9 ⟨⟨mid, Ax, cx, Ay, cy, rfl, hx, hy⟩, hb⟩; simp only [HN.out.1, HN.out.2] at hx hy ⊢; have HX := Aside0.mk hx; have HY := Aside0.mk hy; have K9 := Aside0.mk (KK.out.step hb); have B9 := Aside0.mk hb; clear hx hy hb))
            have bb := below_alloc (Below.refl w9.heap.size w9) (.cells #[.int .i64 0, .int .i64 0, .int .i64 pf, .int .i64 dc, .slice Ax np cx, .int .i64 1, .int .i64 0, .int .i64 1, .slice Ay na cy] 40 (0, 0))
            have KX0 := Aside0.mk (show Kx w (w9.alloc (.cells #[.int .i64 0, .int .i64 0, .int .i64 pf, .int .i64 dc, .slice Ax np cx, .int .i64 1, .int .i64 0, .int .i64 1, .slice Ay na cy] 40 (0, 0))) g w1.heap.size w2.heap.size w3.heap.size w4.heap.size wr.heap.size (max wr.heap.size (min mid w9.heap.size)) w9.heap.size w9.heap.size pf dc { S1 with es := [⟨0, pf, dc, p, 1, 0, 1, a⟩] } L7 Ap np cp pv Aa na ca av Ax cx p Ay cy a from by
              have s9 : wr.heap.size ≤ w9.heap.size := B9.out.size
              have s4 : w4.heap.size ≤ wr.heap.size := KK.out.sz
              exact ⟨K9.out.step bb, blk_new _ _, Kd.R_below (Kd.R_mono (Kd.R_bound HX.out) (fun k z => ⟨z.2.1, by have h1 := z.1; have h2 := z.2.2.1; omega⟩)) bb, Kd.R_below (Kd.R_mono (Kd.R_bound HY.out) (fun k z => ⟨by have h1 := z.1; have h2 := z.2.1; omega, z.2.2.1⟩)) bb, fun k hk => hk.elim (fun q => KK.out.rt.hi k q) (fun q => (KK.out.rt.ih k q).1), s4, by omega, by omega, Nat.le_refl _⟩)
            clear bb HX HY K9 B9 GC GE
            generalize w9.alloc (.cells #[.int .i64 0, .int .i64 0, .int .i64 pf, .int .i64 dc, .slice Ax np cx, .int .i64 1, .int .i64 0, .int .i64 1, .slice Ay na cy] 40 (0, 0)) = wa at KX0 ⊢
            generalize w9.heap.size = b7 at KX0 ⊢
            generalize max wr.heap.size (min mid b7) = b6 at KX0
            generalize wr.heap.size = b5 at KX0
            have x4 := blk_cell KX0.out.xb 4
            simp at x4
            go_upto_region 24 with (fail)
            clear x4
            go_loopg [77] np (fun kq v77 W => ∃ (i : Nat) (xv : List Int), v77 = .int .i64 (i : Int) ∧ Aside0 (i + kq = np) ∧ Aside0 (Kx w W g w1.heap.size w2.heap.size w3.heap.size w4.heap.size b5 b6 b7 b7 pf dc { S1 with es := [⟨0, pf, dc, p, 1, 0, 1, a⟩] } L7 Ap np cp pv Aa na ca av Ax cx xv Ay cy a) ∧ Aside0 (∀ j : Nat, i ≤ j → j < np → rd xv (j : Int) = rd p (j : Int)))
            case atStart => exact ⟨0, _, rfl, ⟨Nat.zero_add _⟩, KX0, ⟨fun j _ _ => rfl⟩⟩
            case round =>
              clear KX0
              obtain ⟨i, xv, rfl, HI, KX0, EQ⟩ := hrel
              have hi := HI.out
              have lp := LP.out
              cases gk with
              | succ k =>
                have e1 : decide ((i : Int) < (np : Int)) = true := decide_eq_true (by omega)
                have e2 : decide (i < np) = true := decide_eq_true (by omega)
                have e3 : i < np := by omega
                have e4 : (i : Int) < (np : Int) := by omega
                have IB := Aside0.mk (show i < 100 from by omega)
                have ED := (EQ.out i (Nat.le_refl _) e3).trans (HP.out.2.2.2 i (by rw [HN.out.1]; exact e3))
                obtain ⟨gp, hA, q1, q2, KS⟩ := KX0.out.setX i e3
                obtain ⟨ad, hB, q3⟩ := Kd.at_int (Kd.C_below H0.out.1 KX0.out.k.bel) (i : Int) (by omega) (by have h9 := HP.out.2.2.1; rw [HN.out.1] at h9; omega)
                rw [Int.toNat_natCast] at q3
                rw [ED] at q1
                have x4 := blk_cell KX0.out.xb 4
                simp at x4
                have hin : i < n0 := by have h9 := HP.out.2.2.1; rw [HN.out.1] at h9; omega
                have hin2 : (i : Int) < (n0 : Int) := by omega
                have KS := Aside0.mk KS
                obtain ⟨z, hz⟩ : ∃ z, rd l0 (i : Int) = z := ⟨_, rfl⟩
                rw [hz] at q1 q3
                clear hi lp ED hz
                subst hA hB
                go_upto_region 26 with (fail)
                go_quiet (fail)
                go_wp2
                go_roundg k
                case measure => omega
                case rel => exact ⟨i + 1, _, by have := IB.out; rw [w64 (x := (i : Int) + 1) (by omega) (by omega)]; rfl, ⟨by have := HI.out; omega⟩, by rw [show (wr.drewN nq).setCell ⟨gp, i, none⟩ (.int .i64 5) = (wr.setCell ⟨gp, i, none⟩ (.int .i64 5)).drewN nq from rfl]; exact ⟨(KS.out 5).step (pw_below_drewN (Below.refl _ _) nq)⟩, ⟨fun j h1 h2 => (rd_set_ne (by omega)).trans (EQ.out j (by omega) h2)⟩⟩
              | zero =>
                have e1 : decide ((i : Int) < (np : Int)) = false := decide_eq_false (by omega)
                have e2 : decide (i < np) = false := decide_eq_false (by omega)
                have e3 : ¬ i < np := by omega
                clear hi lp
                have x4 := blk_cell KX0.out.xb 8
                simp at x4
                go_upto_region 31 with (fail)
                clear x4
                go_loopg [98] na (fun kq v98 W => ∃ (i : Nat) (yv : List Int), v98 = .int .i64 (i : Int) ∧ Aside0 (i + kq = na) ∧ Aside0 (Kx w W g w1.heap.size w2.heap.size w3.heap.size w4.heap.size b5 b6 b7 b7 pf dc { S1 with es := [⟨0, pf, dc, p, 1, 0, 1, a⟩] } L7 Ap np cp pv Aa na ca av Ax cx xv Ay cy yv) ∧ Aside0 (∀ j : Nat, i ≤ j → j < na → rd yv (j : Int) = rd a (j : Int)))
                case atStart => exact ⟨0, _, rfl, ⟨Nat.zero_add _⟩, KX0, ⟨fun j _ _ => rfl⟩⟩
                case round =>
                  clear KX0 EQ
                  obtain ⟨i, yv, rfl, HI, KX0, EQ⟩ := hrel
                  have hi := HI.out
                  have lp := LP.out
                  cases gk with
                  | succ k =>
                    have e1 : decide ((i : Int) < (na : Int)) = true := decide_eq_true (by omega)
                    have e2 : decide (i < na) = true := decide_eq_true (by omega)
                    have e3 : i < na := by omega
                    have e4 : (i : Int) < (na : Int) := by omega
                    have IB := Aside0.mk (show i < 100 from by omega)
                    have ED := (EQ.out i (Nat.le_refl _) e3).trans (HA.out.2.2 i (by rw [HN.out.2]; exact e3))
                    obtain ⟨gp, hA, q1, q2, KS⟩ := KX0.out.setY i e3
                    obtain ⟨ad, hB, q3⟩ := Kd.at_int (Kd.C_below H0.out.2 KX0.out.k.bel) (i : Int) (by omega) (by have h9 := HA.out.2.1; rw [HN.out.2] at h9; omega)
                    rw [Int.toNat_natCast] at q3
                    rw [ED] at q1
                    have x4 := blk_cell KX0.out.xb 8
                    simp at x4
                    have hin : i < n1 := by have h9 := HA.out.2.1; rw [HN.out.2] at h9; omega
                    have hin2 : (i : Int) < (n1 : Int) := by omega
                    have KS := Aside0.mk KS
                    obtain ⟨z, hz⟩ : ∃ z, rd l1 (i : Int) = z := ⟨_, rfl⟩
                    rw [hz] at q1 q3
                    clear hi lp ED hz
                    subst hA hB
                    go_upto_region 33 with (fail)
                    go_quiet (fail)
                    go_wp2
                    go_roundg k
                    case measure => omega
                    case rel => exact ⟨i + 1, _, by have := IB.out; rw [w64 (x := (i : Int) + 1) (by omega) (by omega)]; rfl, ⟨by have := HI.out; omega⟩, by rw [show (wr.drewN nq).setCell ⟨gp, i, none⟩ (.int .i64 5) = (wr.setCell ⟨gp, i, none⟩ (.int .i64 5)).drewN nq from rfl]; exact ⟨(KS.out 5).step (pw_below_drewN (Below.refl _ _) nq)⟩, ⟨fun j h1 h2 => (rd_set_ne (by omega)).trans (EQ.out j (by omega) h2)⟩⟩
                  | zero =>
                    have e1 : decide ((i : Int) < (na : Int)) = false := decide_eq_false (by omega)
                    have e2 : decide (i < na) = false := decide_eq_false (by omega)
                    have e3 : ¬ i < na := by omega
                    clear hi lp
                    have GC := Aside0.mk (get_yes g w1.heap.size { S1 with es := [⟨0, pf, dc, p, 1, 0, 1, a⟩] } L7 0 wr KX0.out.k.rt (by show 0 < 1; omega) (by show 1 ≤ 1048576; omega) (by show p.length ≤ 1000; have := HP.out.1; omega) (by show a.length ≤ 1000; have := HA.out.1; omega))
                    have GE := Aside0.mk (show ({ S1 with es := [⟨0, pf, dc, p, 1, 0, 1, a⟩] } : RX).es.getD 0 zP = ⟨0, pf, dc, p, 1, 0, 1, a⟩ from rfl)
                    rw [GE.out] at GC
                    go_upto_region 38 with (go_at_call 13; go_loud ((refine GC.out.mono ?_); rintro e wb ⟨⟨mid2, Az, cz, Av, cv, rfl, hx, hy⟩, hb⟩; simp only [HN.out.1, HN.out.2] at hx hy ⊢; have HY := Aside0.mk hy; have KZ := Aside0.mk (KX0.out.step hb); clear hx hy hb))
                    have bb := below_alloc (Below.refl wb.heap.size wb) (.cells #[.int .i64 0, .int .i64 0, .int .i64 pf, .int .i64 dc, .slice Az np cz, .int .i64 1, .int .i64 0, .int .i64 1, .slice Av na cv] 40 (0, 0))
                    have EZ := Aside0.mk (blk_new wb (.cells #[.int .i64 0, .int .i64 0, .int .i64 pf, .int .i64 dc, .slice Az np cz, .int .i64 1, .int .i64 0, .int .i64 1, .slice Av na cv] 40 (0, 0)))
                    have KW := Aside0.mk (KZ.out.step bb)
                    have HZ := Aside0.mk (Kd.R_below HY.out bb)
                    clear bb HY KZ GC GE KX0
                    generalize wb.alloc (.cells #[.int .i64 0, .int .i64 0, .int .i64 pf, .int .i64 dc, .slice Az np cz, .int .i64 1, .int .i64 0, .int .i64 1, .slice Av na cv] 40 (0, 0)) = wd at EZ KW HZ ⊢
                    generalize wb.heap.size = Z8 at EZ ⊢
                    have x4 := blk_cell EZ.out 8
                    simp at x4
                    go_upto_region 39 with (fail)
                    clear x4
                    go_loopg [124] na (fun kq v124 W => ∃ (i : Nat), v124 = .int .i64 (i : Int) ∧ Aside0 (i + kq = na) ∧ Aside0 (Below wd.heap.size wd W))
                    case atStart => exact ⟨0, rfl, ⟨Nat.zero_add _⟩, ⟨Below.refl _ _⟩⟩
                    case round =>
                      obtain ⟨i, rfl, HI, BW⟩ := hrel
                      have hi := HI.out
                      have lp := LP.out
                      cases gk with
                      | succ k =>
                        have e1 : decide ((i : Int) < (na : Int)) = true := decide_eq_true (by omega)
                        have e2 : decide (i < na) = true := decide_eq_true (by omega)
                        have e3 : i < na := by omega
                        have e4 : (i : Int) < (na : Int) := by omega
                        have IB := Aside0.mk (show i < 100 from by omega)
                        have ED := HA.out.2.2 i (by rw [HN.out.2]; exact e3)
                        obtain ⟨ae, hA, q1⟩ := Kd.at_int (show Kd.C kI wr Av na a from by have h := (Kd.R_reads' (Kd.R_below HZ.out BW.out)).2.2; rw [HN.out.2] at h; exact h) (i : Int) (by omega) e4
                        obtain ⟨ad, hB, q3⟩ := Kd.at_int (Kd.C_below (Kd.C_below H0.out.2 KW.out.k.bel) (BW.out.mono (by first | exact Nat.le_refl _ | exact KW.out.k.bel.size))) (i : Int) (by omega) (by have h9 := HA.out.2.1; rw [HN.out.2] at h9; omega)
                        rw [Int.toNat_natCast] at q1 q3
                        rw [ED] at q1
                        have x4 := blk_cell (blk_below EZ.out BW.out) 8
                        simp at x4
                        have hin : i < n1 := by have h9 := HA.out.2.1; rw [HN.out.2] at h9; omega
                        have hin2 : (i : Int) < (n1 : Int) := by omega
                        obtain ⟨z, hz⟩ : ∃ z, rd l1 (i : Int) = z := ⟨_, rfl⟩
                        rw [hz] at q1 q3
                        clear hi lp ED hz
                        subst hA hB
                        go_upto_region 41 with (fail)
                        go_quiet (fail)
                        go_wp2
                        go_roundg k
                        case measure => omega
                        case rel => exact ⟨i + 1, by have := IB.out; rw [w64 (x := (i : Int) + 1) (by omega) (by omega)]; rfl, ⟨by have := HI.out; omega⟩, ⟨below_step BW.out (pw_below_drewN (Below.refl _ _) _)⟩⟩
                      | zero =>
                        have e1 : decide ((i : Int) < (na : Int)) = false := decide_eq_false (by omega)
                        have e2 : decide (i < na) = false := decide_eq_false (by omega)
                        have e3 : ¬ i < na := by omega
                        clear hi lp
                        have AC := Aside0.mk (awake_calls wr)
                        have x8 := blk_cell (blk_below EZ.out BW.out) 8
                        have x4 := blk_cell (KW.out.step BW.out).xb 4
                        simp at x4 x8
                        have BL := Aside0.mk (KW.out.step BW.out).k.bel
                        go_wp2_with (go_at_call 11; go_loud ((refine AC.out.mono ?_); rintro e we ⟨rfl, hb⟩; replace x4 := pw_cell_below hb x4; replace x8 := pw_cell_below hb x8; have BE := Aside0.mk (BL.out.trans (hb.mono BL.out.size)); clear hb))
                        go_ret
                        exact ⟨rfl, BE.out⟩
  · have f1 : (oe == 0) = false := beq_eq_false_iff_ne.mpr he
    have f2 : (oe != 0) = true := bne_iff_ne.mpr he
    have AC := Aside0.mk (awake_calls w6)
    clear he
    go_wp2_with (go_at_call 11; go_loud ((refine AC.out.mono ?_); rintro e w7 ⟨rfl, hb⟩; have B7 := Aside0.mk (B6.out.trans (hb.mono B6.out.size)); clear hb))
    go_ret
    exact ⟨rfl, B7.out⟩
end Go.Proofs.Ythihgiaflbaigaa.OKeeps
