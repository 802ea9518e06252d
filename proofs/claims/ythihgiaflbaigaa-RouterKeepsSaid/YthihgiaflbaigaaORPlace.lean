/- (*Router).place, walked by hand. -/
import Derived.Test.YthihgiaflbaigaaORNext
import Derived.Deep.RegionHeld3
set_option linter.unusedVariables false
set_option linter.unusedSimpArgs false
namespace Go.Proofs.Ythihgiaflbaigaa.ORouter
open Go.RowKit Go.Proofs.YthihgiaflbaigaaW.PrintWords Go.Proofs.YthihgiaflbaigaaW.PrintLast Go.Proofs.YthihgiaflbaigaaW.PrintMore Go.Proofs.Ythihgiaflbaigaa.GQ Go.Proofs.Ythihgiaflbaigaa.OMap Go.Proofs.Ythihgiaflbaigaa.UTrie Go.Proofs.Ythihgiaflbaigaa.OTrie
/-- Who is there already for a prompt. -/
def useR (S : RX) (l : List Int) (fresh : Bool) : Bool := decide (0 < (long S.val l l.length).1) && (fresh && !(S.out.getD (long S.val l l.length).2.toNat false))
/-- The one who works on a prompt, and the router then. -/
def pickP (S : RX) (l : List Int) (fresh : Bool) : RX × Int :=
  if useR S l fresh = true then (S, (long S.val l l.length).2)
  else (S.setTurn false (nextR S.out 1 S.p.f0 S.p.f0.toNat S.t0).2, (nextR S.out 1 S.p.f0 S.p.f0.toNat S.t0).1)
def pickD (S : RX) : RX × Int := (S.setTurn true (nextR S.out (1 + S.p.f0) S.p.f1 S.p.f1.toNat S.t1).2, (nextR S.out (1 + S.p.f0) S.p.f1 S.p.f1.toNat S.t1).1)
def RX.putT (S : RX) (l : List Int) (v : Int) : RX := { S with val := (tPut S.val S.cnt l v).1, cnt := (tPut S.val S.cnt l v).2.1 }
/-- What place does. -/
def placeR (S : RX) (l : List Int) (fresh : Bool) : RX × Int × Int × Bool :=
  let a := pickP S l fresh
  let b := pickD a.1
  if a.2 = 0 ∨ b.2 = 0 then (b.1, 0, 0, false) else (b.1.putT l a.2, a.2, b.2, true)
/-- What always holds of a router. -/
structure Inv (S : RX) : Prop where
  p1 : 1 ≤ S.p.f0 ∧ S.p.f0 ≤ 7
  p2 : 1 ≤ S.p.f1 ∧ S.p.f1 ≤ 7
  sum : S.p.f0 + S.p.f1 ≤ 7
  out : (S.out.length : Int) = S.p.f0 + S.p.f1 + 1
  t0 : 0 ≤ S.t0 ∧ S.t0 < S.p.f0
  t1 : 0 ≤ S.t1 ∧ S.t1 < S.p.f1
  val : ∀ r v, S.val r = some v → 1 ≤ v ∧ v ≤ S.p.f0
  cnt : 0 ≤ S.cnt ∧ S.cnt ≤ 1000
theorem long_val (val : Row → Option Int) (t : Row) : ∀ n, 0 < (long val t n).1 → val (t.take (long val t n).1) = some (long val t n).2 := by
  intro n
  induction n with
  | zero => intro h; simp [long] at h
  | succ n ih =>
    intro h
    cases hv : val (t.take (n + 1)) with
    | some v => rw [long_some hv]; exact hv
    | none => rw [long_none hv] at h ⊢; exact ih h
theorem nextR_bounds (out : List Bool) (first n : Int) (hn : 1 ≤ n) : ∀ (k : Nat) (t : Int), 0 ≤ t → t < n → 0 ≤ (nextR out first n k t).2 ∧ (nextR out first n k t).2 < n ∧ ((nextR out first n k t).1 = 0 ∨ (first ≤ (nextR out first n k t).1 ∧ (nextR out first n k t).1 < first + n)) := by
  intro k
  induction k with
  | zero => intro t h0 h1; exact ⟨h0, h1, .inl rfl⟩
  | succ k ih =>
    intro t h0 h1
    have hm := mod_lt (t := t + 1) hn
    rw [nextR]
    by_cases e : out.getD (first + t).toNat false = true
    · rw [if_pos e]; exact ih _ hm.1 hm.2
    · rw [if_neg e]; exact ⟨hm.1, hm.2, .inr ⟨by omega, by omega⟩⟩
theorem Inv.setTurn {S : RX} (h : Inv S) (b : Bool) (t : Int) (ht : 0 ≤ t ∧ t < (if b then S.p.f1 else S.p.f0)) : Inv (S.setTurn b t) := by
  cases b
  · exact ⟨h.p1, h.p2, h.sum, h.out, ht, h.t1, h.val, h.cnt⟩
  · exact ⟨h.p1, h.p2, h.sum, h.out, h.t0, ht, h.val, h.cnt⟩
theorem Inv.pickP {S : RX} (h : Inv S) (l : List Int) (fresh : Bool) : Inv (pickP S l fresh).1 ∧ 0 ≤ (ORouter.pickP S l fresh).2 ∧ (ORouter.pickP S l fresh).2 ≤ S.p.f0 := by
  unfold ORouter.pickP
  by_cases e : useR S l fresh = true
  · rw [if_pos e]
    unfold useR at e
    simp only [Bool.and_eq_true, decide_eq_true_eq] at e
    have := h.val _ _ (long_val S.val l l.length e.1)
    exact ⟨h, by omega, this.2⟩
  · rw [if_neg e]
    have hb := nextR_bounds S.out 1 S.p.f0 h.p1.1 S.p.f0.toNat S.t0 h.t0.1 h.t0.2
    exact ⟨h.setTurn false _ ⟨hb.1, hb.2.1⟩, by rcases hb.2.2 with q | q <;> omega, by have := h.p1.1; rcases hb.2.2 with q | q <;> omega⟩
theorem pickP_same (S : RX) (l : List Int) (fresh : Bool) : (pickP S l fresh).1.p = S.p ∧ (pickP S l fresh).1.c = S.c ∧ (pickP S l fresh).1.out = S.out ∧ (pickP S l fresh).1.val = S.val ∧ (pickP S l fresh).1.cnt = S.cnt ∧ (pickP S l fresh).1.es = S.es ∧ (pickP S l fresh).1.t1 = S.t1 := by
  unfold pickP
  by_cases e : useR S l fresh = true
  · rw [if_pos e]; exact ⟨rfl, rfl, rfl, rfl, rfl, rfl, rfl⟩
  · rw [if_neg e]; exact ⟨rfl, rfl, rfl, rfl, rfl, rfl, rfl⟩
theorem Inv.pickD {S : RX} (h : Inv S) : Inv (pickD S).1 := by
  have hb := nextR_bounds S.out (1 + S.p.f0) S.p.f1 h.p2.1 S.p.f1.toNat S.t1 h.t1.1 h.t1.2
  exact h.setTurn true _ ⟨hb.1, hb.2.1⟩
theorem Inv.putT {S : RX} (h : Inv S) (l : List Int) (v : Int) (hv : 1 ≤ v ∧ v ≤ S.p.f0) : Inv (S.putT l v) := by
  refine ⟨h.p1, h.p2, h.sum, h.out, h.t0, h.t1, fun r u hu => ?_, ?_⟩
  · have hu2 : (tPut S.val S.cnt l v).1 r = some u := hu
    have UP : upd S.val l (some v) r = some u → 1 ≤ u ∧ u ≤ S.p.f0 := fun q => by
      by_cases e : r = l
      · rw [e, upd_same] at q; cases q; exact hv
      · rw [upd_ne e] at q; exact h.val r u q
    unfold tPut at hu2
    by_cases e1 : l.length = 0
    · rw [if_pos e1] at hu2; exact h.val r u hu2
    rw [if_neg e1] at hu2
    by_cases e2 : l.length > 128
    · rw [if_pos e2] at hu2; exact h.val r u hu2
    rw [if_neg e2] at hu2
    by_cases e3 : (S.val l).isSome = true
    · rw [if_pos e3] at hu2
      exact UP hu2
    rw [if_neg e3] at hu2
    by_cases e4 : S.cnt ≥ 1000
    · rw [if_pos e4] at hu2; exact h.val r u hu2
    rw [if_neg e4] at hu2
    exact UP hu2
  · show 0 ≤ (tPut S.val S.cnt l v).2.1 ∧ (tPut S.val S.cnt l v).2.1 ≤ 1000
    have hc := h.cnt
    unfold tPut
    split
    · exact hc
    split
    · exact hc
    split
    · exact hc
    split
    · exact hc
    · show 0 ≤ S.cnt + 1 ∧ S.cnt + 1 ≤ 1000
      omega
/-- A call of the trie within a router. -/
theorem RT.done {W W' : World} {g lo : Nat} {S S' : RX} {L : Lo} {N' : Nat} (h : RT W g lo S L) (d : Done 4 W W' g 13 N' L.X S'.val S'.cnt) (e0 : own18 S' L = own18 S L) (e3 : S'.out = S.out) (e4 : S'.es = S.es) :
    ∃ X', RT W' g lo S' { L with X := X', N := N' } ∧ RPost lo W W' L { L with X := X', N := N' } := by
  obtain ⟨X', t, c, v, p⟩ := d
  have hs := h.size
  have hnew : ∀ k, mine { L with X := X', N := N' } k → mine L k ∨ W.heap.size ≤ k := fun k hk => by
    rcases hk with q | q | q
    · exact (p.foot k q).imp .inl id
    · exact .inl (.inr (.inl q))
    · exact .inl (.inr (.inr q))
  refine ⟨X', ⟨?_, t, c, v, ?_, ?_, by rw [e4]; exact h.len, fun i hi => ?_, fun k hk => (hnew k hk).elim (h.lo k) (fun q => Nat.le_trans hs q), fun k hk => ?_, fun k hk => ⟨Nat.lt_of_lt_of_le (h.ih k hk).1 p.kept.1, fun hm => (hnew k hm).elim (h.ih k hk).2 (fun q => by have := (h.ih k hk).1; omega)⟩, fun hf => ?_, fun hl => ⟨fun hf => ?_, (h.fb hl).2⟩⟩, ⟨⟨p.kept.1, fun k h1 h2 => p.kept.2 k h1 (fun hf => h2 (.inl hf))⟩, hnew, fun k hk => .inl hk, p.below lo hs (fun k hk => h.lo k (.inl hk))⟩⟩
  · have hz := h.box.post p (Nat.le_refl 4) (fun j h1 h2 => by
      rcases (show j = 13 ∨ j = 14 ∨ j = 15 ∨ j = 16 by omega) with q | q | q | q <;> subst q <;> rfl)
    rw [← e0] at hz
    exact hz
  · rw [e3]
    exact Kd.R_step h.out (fun k ho hlt => p.kept.2 k hlt (by rw [ho]; exact h.fq))
  · exact Kd.R_step h.ent (fun k ho hlt => p.kept.2 k hlt (by rw [ho.2]; exact (h.fb ho.1).1))
  · rw [e4] at hi ⊢
    have e := h.inn i hi
    have go : ∀ {s : SL} {l : List Int}, SlAt W L.I s l → SlAt W' L.I s l := fun q => q.kept (fun f => Kd.F_kept f p.kept (fun k hk hf => (h.ih k hk).2 (.inl hf)))
    exact { e with pr := go e.pr, an := go e.an }
  · rcases hk with q | q | q
    · exact foot_lt t q
    · exact Nat.lt_of_lt_of_le (h.hi k (.inr (.inl q))) p.kept.1
    · exact Nat.lt_of_lt_of_le (h.hi k (.inr (.inr q))) p.kept.1
  · rcases p.foot _ hf with q | q
    · exact h.fq q
    · have := h.hi L.q (.inr (.inl rfl)); have z : W.heap.size ≤ L.q := q; omega
  · rcases p.foot _ hf with q | q
    · exact (h.fb hl).1 q
    · have := h.hi L.b (.inr (.inr ⟨hl, rfl⟩)); have z : W.heap.size ≤ L.b := q; omega
theorem Inv.turn {S : RX} (h : Inv S) : (0 ≤ S.turn false ∧ S.turn false < S.p.f0) ∧ (0 ≤ S.turn true ∧ S.turn true < S.p.f1) := ⟨h.t0, h.t1⟩
set_option maxHeartbeats 8000000 in
set_option maxRecDepth 100000 in
theorem place_calls (g lo : Nat) (S : RX) (L : Lo) (A : Option Addr) (c : Nat) (l : List Int) (fresh : Bool) (w : World) (h : RT w g lo S L) (hI : Inv S) (hF : Kd.F kI w (fun k => ¬ mine L k) A l.length l) (hi : ∀ x ∈ l, i64 x) (hN : L.N ≤ 1000000000) :
    Calls Try.prog 29 #[.pointer (some ⟨g, 0, none⟩), .slice A l.length c, .bool fresh] w fun e w' => e = .returned (.tuple #[.int .i64 (placeR S l fresh).2.1, .int .i64 (placeR S l fresh).2.2.1, .bool (placeR S l fresh).2.2.2]) ∧ ∃ X' N', N' ≤ L.N + 128 ∧ RT w' g lo (placeR S l fresh).1 { L with X := X', N := N' } ∧ RPost lo w w' L { L with X := X', N := N' } := by
  obtain ⟨n, hn⟩ : ∃ n, l.length = n := ⟨_, rfl⟩
  have LC := longest_calls g 13 L.N L.X A c l w h.tr (Kd.F_now hF) hi
  rw [h.vl] at LC
  obtain ⟨m, hm⟩ : ∃ m, (long S.val l l.length).1 = m := ⟨_, rfl⟩
  obtain ⟨v, hv⟩ : ∃ v, (long S.val l l.length).2 = v := ⟨_, rfl⟩
  have HV := Aside0.mk (show 0 < m → 1 ≤ v ∧ v ≤ S.p.f0 from fun q => by
    have := hI.val _ _ (long_val S.val l l.length (by rw [hm]; exact q))
    rw [hv] at this
    exact this)
  have UR := Aside0.mk (show useR S l fresh = (decide (0 < m) && (fresh && !(S.out.getD v.toNat false))) from by unfold useR; rw [hm, hv])
  have PU := Aside0.mk (show useR S l fresh = true → pickP S l fresh = (S, v) from fun e => by unfold pickP; rw [if_pos e, hv])
  have PN := Aside0.mk (show useR S l fresh = false → pickP S l fresh = (S.setTurn false (nextR S.out 1 S.p.f0 S.p.f0.toNat S.t0).2, (nextR S.out 1 S.p.f0 S.p.f0.toNat S.t0).1) from fun e => by unfold pickP; rw [if_neg (by rw [e]; decide)])
  rw [hm, hv, hn] at LC
  have LC := Aside0.mk LC
  have H := Aside0.mk h
  have HI := Aside0.mk hI
  have HF := Aside0.mk (show Kd.F kI w (fun k => ¬ mine L k) A n l from by rw [← hn]; exact hF)
  have HX := Aside0.mk (And.intro hi (And.intro hN hn))
  rw [hn]
  clear h hI hF hi hN hn hm hv
  go_enter Try.func29, Try.ntmps29
  go_upto_region 3 with (go_at_call 37; go_loud ((refine LC.out.mono ?_); rintro e w1 ⟨rfl, hb⟩; have R1 := Aside0.mk (H.out.below hb); have P1 := Aside0.mk (RPost.of_below (L := L) H.out.size hb); have F1 := Aside0.mk (Kd.F_below HF.out hb); clear hb))
  obtain ⟨ob, hob⟩ : ∃ ob, S.out.getD v.toNat false = ob := ⟨_, rfl⟩
  have x10 := (R1.out.box.cell 10 rfl).1
  go_cut [35] (fun s35 wx => s35 = .bool (useR S l fresh) ∧ wx = w1)
  case first =>
    have ur := UR.out
    rw [hob] at ur
    by_cases hm : 0 < m
    · have d1 : decide (0 < m) = true := decide_eq_true hm
      have d2 : decide ((0 : Int) < (m : Int)) = true := decide_eq_true (by omega)
      obtain ⟨v1, v2⟩ := HV.out hm
      have oi := HI.out.out
      have p2 := HI.out.p2
      have x20 := (Kd.R_celln false R1.out.out v (by omega) (by omega)).1
      have hob2 : rdOf false S.out v = ob := hob
      rw [hob2] at x20
      have b1 : 0 ≤ v := by omega
      have b2 : v < (S.out.length : Int) := by omega
      rw [d1] at ur
      have URA := Aside0.mk ur
      clear hm oi p2 hob hob2 ur v1 v2
      cases fresh
      · go_wp2
        go_meet
        exact ⟨by rw [URA.out]; rfl, rfl⟩
      · cases ob
        · go_wp2
          go_meet
          exact ⟨by rw [URA.out]; rfl, rfl⟩
        · go_wp2
          go_meet
          exact ⟨by rw [URA.out]; rfl, rfl⟩
    · have d1 : decide (0 < m) = false := decide_eq_false hm
      have d2 : decide ((0 : Int) < (m : Int)) = false := decide_eq_false (by omega)
      have m0 : m = 0 := by omega
      rw [d1] at ur
      have URA := Aside0.mk ur
      subst m0
      clear hm hob ur
      go_wp2
      go_meet
      exact ⟨by rw [URA.out]; rfl, rfl⟩
  case rest =>
    obtain ⟨rfl, rfl⟩ := hcut
    clear LC x10 hob UR HV
    obtain ⟨pN, hpN⟩ : ∃ pN : Nat, S.p.f0 = (pN : Int) := ⟨S.p.f0.toNat, by have := HI.out.p1; omega⟩
    obtain ⟨dN, hdN⟩ : ∃ dN : Nat, S.p.f1 = (dN : Int) := ⟨S.p.f1.toNat, by have := HI.out.p2; omega⟩
    have HPN := Aside0.mk (And.intro hpN hdN)
    clear hpN hdN
    go_upto_if 35 with (fail)
    go_cut [9] (fun s9 wx => s9 = .int .i64 (pickP S l fresh).2 ∧ Aside0 (RT wx g lo (pickP S l fresh).1 L) ∧ Aside0 (RPost lo w wx L L))
    case first =>
      cases hu : useR S l fresh
      · have PE := PN.out hu
        have NC := next_calls g lo S L false 1 pN wc R1.out (by have h1 := HI.out.p1; have h2 := HPN.out.1; omega) (by have h1 := HI.out.p1; have h2 := HPN.out.1; omega) (by omega) (by have h1 := HI.out.out; have h2 := HPN.out.1; have h3 := HI.out.p2; omega) (by have := HI.out.t0; rw [← HPN.out.1]; exact this)
        rw [show S.p.f0.toNat = pN from by rw [HPN.out.1]; rfl] at PE
        rw [← HPN.out.1] at NC
        have NC := Aside0.mk NC
        have PE := Aside0.mk PE
        have x5 := (R1.out.box.cell 5 rfl).1
        clear PN PU hu
        go_wp2_with (go_at_call 38; go_loud ((refine NC.out.mono ?_); rintro e w2 ⟨rfl, r2, p2⟩; have R2 := Aside0.mk r2; have P2 := Aside0.mk (P1.out.trans p2); clear r2 p2))
        go_meet
        rw [PE.out]
        exact ⟨rfl, R2, P2⟩
      · have PE := Aside0.mk (PU.out hu)
        clear PN PU hu
        go_wp2
        go_meet
        rw [PE.out]
        exact ⟨rfl, R1, P1⟩
    case rest =>
      obtain ⟨rfl, R2, P2⟩ := hcut
      clear PN PU R1 P1 F1
      have PRE := Aside0.mk (show placeR S l fresh = if (pickP S l fresh).2 = 0 ∨ (pickD (pickP S l fresh).1).2 = 0 then ((pickD (pickP S l fresh).1).1, 0, 0, false) else ((pickD (pickP S l fresh).1).1.putT l (pickP S l fresh).2, (pickP S l fresh).2, (pickD (pickP S l fresh).1).2, true) from rfl)
      obtain ⟨j1, j2, j3⟩ := HI.out.pickP l fresh
      obtain ⟨s1, s2, s3, s4, s5, s6, s7⟩ := pickP_same S l fresh
      obtain ⟨S1, hS1⟩ : ∃ S1, (pickP S l fresh).1 = S1 := ⟨_, rfl⟩
      obtain ⟨p, hp⟩ : ∃ p, (pickP S l fresh).2 = p := ⟨_, rfl⟩
      rw [hS1] at j1 s1 R2 PRE
      rw [hp] at j2 j3 PRE ⊢
      have I1 := Aside0.mk j1
      have PB := Aside0.mk (And.intro j2 j3)
      have SP := Aside0.mk s1
      clear s2 s3 s4 s5 s6 s7 hS1 hp j1 j2 j3 s1
      have hp1 : S1.p.f0 = (pN : Int) := by rw [SP.out]; exact HPN.out.1
      have hd1 : S1.p.f1 = (dN : Int) := by rw [SP.out]; exact HPN.out.2
      have NC := next_calls g lo S1 L true (1 + S1.p.f0) dN wc.drew (R2.out.below (Below.refl _ _).drew) (by have h1 := I1.out.p2; omega) (by have h1 := I1.out.p2; omega) (by have h1 := I1.out.p1; omega) (by have h1 := I1.out.out; omega) (by have := I1.out.t1; rw [← hd1]; exact this)
      rw [show dN = S1.p.f1.toNat from by rw [hd1]; rfl] at NC
      rw [Int.toNat_of_nonneg (by rw [hd1]; omega)] at NC
      have ND := Aside0.mk (show nextR S1.out (1 + S1.p.f0) S1.p.f1 S1.p.f1.toNat (S1.turn true) = ((pickD S1).2, (nextR S1.out (1 + S1.p.f0) S1.p.f1 S1.p.f1.toNat S1.t1).2) from rfl)
      have I2 := Aside0.mk I1.out.pickD
      have NC := Aside0.mk NC
      have x5 := (R2.out.box.cell 5 rfl).1
      have x6 := (R2.out.box.cell 6 rfl).1
      have w1 : IntKind.i64.wrap (1 + S1.p.f0) = 1 + S1.p.f0 := by rw [IntKind.wrap_i64]; have := I1.out.p1; omega
      have y5 : wc.drew.cell? ⟨g, 5, none⟩ = some (.int .i64 S1.p.f0) := x5
      have y6 : wc.drew.cell? ⟨g, 6, none⟩ = some (.int .i64 S1.p.f1) := x6
      clear hp1 hd1
      go_upto_region 6 with (fail)
      go_region_held3 (fun W => W.cell? ⟨g, 5, none⟩ = some (.int .i64 S1.p.f0) ∧ W.cell? ⟨g, 6, none⟩ = some (.int .i64 S1.p.f1))
        (first | exact ⟨(R3.out.box.cell 5 rfl).1, (R3.out.box.cell 6 rfl).1⟩ | exact ⟨y5, y6⟩)
        ((go_at_call 38; go_loud ((refine NC.out.mono ?_); rintro e w3 ⟨rfl, r3, p3⟩; have R3 := Aside0.mk (show RT w3 g lo (pickD S1).1 L from r3); have P3 := Aside0.mk ((P2.out.step R2.out.size (Below.refl _ _).drew).trans p3); rw [ND.out]; clear r3 p3)))
      clear x5 x6 y5 y6 w1 NC ND R2 P2
      obtain ⟨S2, hS2⟩ : ∃ S2, (pickD S1).1 = S2 := ⟨_, rfl⟩
      obtain ⟨d, hd⟩ : ∃ d, (pickD S1).2 = d := ⟨_, rfl⟩
      rw [hS2] at R3 I2 PRE
      rw [hd] at PRE ⊢
      clear hS2 hd
      by_cases hp0 : p = 0
      · have q1 : (p == 0) = true := beq_iff_eq.mpr hp0
        have PR := Aside0.mk (PRE.out.trans (if_pos (.inl hp0)))
        subst hp0
        go_wp2
        go_ret3
        rw [PR.out]
        exact ⟨rfl, L.X, L.N, by omega, R3.out, P3.out⟩
      · have q1 : (p == 0) = false := beq_eq_false_iff_ne.mpr hp0
        by_cases hd0 : d = 0
        · have q2 : (d == 0) = true := beq_iff_eq.mpr hd0
          have PR := Aside0.mk (PRE.out.trans (if_pos (.inr hd0)))
          subst hd0
          clear hp0
          go_wp2
          go_ret3
          rw [PR.out]
          exact ⟨rfl, L.X, L.N, by omega, R3.out, P3.out⟩
        · have q2 : (d == 0) = false := beq_eq_false_iff_ne.mpr hd0
          have PR := Aside0.mk (PRE.out.trans (if_neg (fun q => q.elim hp0 hd0)))
          have PC := put_calls g 13 L.N L.X A c l p S2.cnt w3 R3.out.tr R3.out.ct (Kd.F_mono (Kd.F_kept (by rw [HX.out.2.2]; exact HF.out) P3.out.kept (fun k hk => hk)) (fun k hk hf => hk (.inl hf))) HX.out.1 HX.out.2.1 I2.out.cnt
          rw [R3.out.vl, HX.out.2.2] at PC
          have PC := Aside0.mk PC
          clear hp0 hd0
          go_wp2_with (go_at_call 39; go_loud ((refine PC.out.mono ?_); rintro e w4 ⟨rfl, dn⟩; have DN := Aside0.mk (R3.out.done (S' := S2.putT l p) dn rfl rfl rfl); clear dn))
          go_ret3
          rw [PR.out]
          obtain ⟨X', r4, p4⟩ := DN.out
          exact ⟨rfl, X', L.N + 128, by omega, r4, P3.out.trans p4⟩
end Go.Proofs.Ythihgiaflbaigaa.ORouter
