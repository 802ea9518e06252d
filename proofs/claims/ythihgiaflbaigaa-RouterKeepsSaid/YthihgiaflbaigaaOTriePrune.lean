/- (*node).prune and (*Trie).Drop, walked by hand. Written by this session's program otprune.py. -/
import Derived.Test.YthihgiaflbaigaaOTriePut
import Derived.StillTailTactics
set_option linter.unusedVariables false
set_option linter.unusedSimpArgs false
namespace Go.Proofs.Ythihgiaflbaigaa.OTrie
open Go.RowKit Go.Proofs.YthihgiaflbaigaaW.PrintWords Go.Proofs.YthihgiaflbaigaaW.PrintLast Go.Proofs.YthihgiaflbaigaaW.PrintMore Go.Proofs.Ythihgiaflbaigaa.GQ Go.Proofs.Ythihgiaflbaigaa.OMap Go.Proofs.Ythihgiaflbaigaa.UTrie Go.Maps
theorem len_kids {W : World} {g o N : Nat} {X : TX} (h : TrieAt W g o N X) {p : Row} (hp : X.nd p ≠ none) :
    ∃ z : Int, (∀ ty, (Builtin.len_ #[73] ty #[.map (X.mp p)]).run Try.prog W = .ok (.int .i64 z) W) ∧ (z = 0 → ∀ y, X.nd (p ++ [y]) = none) := by
  cases hm : X.mp p with
  | none => exact ⟨0, fun ty => Maps.len_nil Try.underlying73 ty, fun _ y => h.nomap p hp hm y⟩
  | some m =>
    obtain ⟨D, h1, h2, h3⟩ := h.map p m hp hm
    refine ⟨(size D : Int), fun ty => h1.len Try.underlying73 ty, fun hz y => ?_⟩
    have := (empty_iff h1 h2 h3).1 (by omega) y
    unfold kidOf at this
    cases e : X.nd (p ++ [y]) with
    | none => rfl
    | some q => rw [e] at this; cases this
/-- What prune leaves: the row's value is gone; nodes that lie no deeper than the node's own row stay. -/
def Pruned (w : World) (g o N : Nat) (X : TX) (p t : Row) (e : Ending) (w' : World) : Prop :=
  ∃ (X' : TX) (em : Bool), e = .returned (.tuple #[.bool (X.val (p ++ t)).isSome, .bool em]) ∧ TrieAt w' g o N X' ∧ X'.val = upd X.val (p ++ t) none ∧ Post 3 w w' g o X X' ∧ X'.mp = X.mp ∧ (∀ q, q.length ≤ p.length → X'.nd q = X.nd q) ∧ (∀ q, X'.nd q ≠ none → X.nd q ≠ none) ∧ (em = true → X'.val p = none ∧ ∀ y, X'.nd (p ++ [y]) = none)
theorem upd_same_none {val : Row → Option Int} {p : Row} (h : val p = none) : upd val p none = val := by
  funext q
  unfold upd
  split
  · rename_i e; rw [e, h]
  · rfl
/-- The end of a call that found its node. -/
theorem pruned_here {w W : World} {g o N : Nat} {X X2 : TX} {p : Row} {r : Option Int} (hr : X.val p = r) (h : TrieAt W g o N X2) (hP : Post 3 w W g o X X2) (hX : X2 = { X with val := upd X.val p none }) (em : Bool) (he : em = true → X2.val p = none ∧ ∀ y, X2.nd (p ++ [y]) = none) :
    Pruned w g o N X p [] (.returned (.tuple #[.bool r.isSome, .bool em])) W := by
  subst hr
  refine ⟨X2, em, by rw [List.append_nil], h, by rw [hX, List.append_nil], hP, by rw [hX], fun q _ => by rw [hX], fun q hq => by rw [hX] at hq; exact hq, he⟩
/-- .. of one that found none to go on to. -/
theorem pruned_none {w W : World} {g o N : Nat} {X : TX} {p s : Row} {x : Int} (h : TrieAt W g o N X) (hk : X.nd (p ++ [x]) = none) (hP : Post 3 w W g o X X) (em : Bool) (he : em = true → X.val p = none ∧ ∀ y, X.nd (p ++ [y]) = none) :
    Pruned w g o N X p (x :: s) (.returned (.tuple #[.bool false, .bool em])) W := by
  have hv : X.val (p ++ x :: s) = none := by
    cases e : X.val (p ++ x :: s) with
    | none => rfl
    | some v =>
      have := h.there _ (by rw [e]; simp : X.val (p ++ x :: s) ≠ none)
      exact absurd hk (pre_all h s (p ++ [x]) (by rwa [List.append_assoc, List.singleton_append]))
  exact ⟨X, em, by rw [hv]; rfl, h, (upd_same_none hv).symm, hP, rfl, fun q _ => rfl, fun q hq => hq, he⟩
/-- .. of one that went on, and struck the node below it or not. -/
theorem pruned_on {w W : World} {g o N : Nat} {X X1 X2 : TX} {p s : Row} {x : Int} (h : TrieAt W g o N X2) (hP : Post 3 w W g o X X2) (hv : X1.val = upd X.val (p ++ [x] ++ s) none) (hv2 : X2.val = X1.val) (hm : X2.mp = X.mp) (hn : ∀ q, q.length ≤ p.length → X2.nd q = X.nd q) (hs : ∀ q, X2.nd q ≠ none → X.nd q ≠ none) (em : Bool) (he : em = true → X2.val p = none ∧ ∀ y, X2.nd (p ++ [y]) = none) :
    Pruned w g o N X p (x :: s) (.returned (.tuple #[.bool (X.val (p ++ [x] ++ s)).isSome, .bool em])) W :=
  ⟨X2, em, by rw [List.append_assoc, List.singleton_append], h, by rw [hv2, hv, List.append_assoc, List.singleton_append], hP, hm, hn, hs, he⟩
/-- The node below is struck. -/
theorem struck {w1 w3 : World} {g o N : Nat} {X1 : TX} {p : Row} {x : Int} {m : Nat} {D : DT} (h : TrieAt w1 g o N X1) (hpn : X1.nd p ≠ none) (hm : X1.mp p = some m) (hv : X1.val (p ++ [x]) = none) (hk : ∀ y, X1.nd (p ++ [x] ++ [y]) = none)
    (d2 : ∀ x, i64 x → has D (ik x) = (kidOf X1 p x).isSome) (d3 : ∀ x g, kidOf X1 p x = some g → i64 x ∧ D.atKey (ik x) pz = .lit (.int .i64 (g : Int))) (ho : w3.ownsMap Try.prog 3 pe m N (D.del (ik x))) (ht : w1.mapTurned w3 m) :
    ∃ X2 : TX, TrieAt w3 g o N X2 ∧ Post 3 w1 w3 g o X1 X2 ∧ X2.val = X1.val ∧ X2.mp = X1.mp ∧ (∀ q, q.length ≤ p.length → X2.nd q = X1.nd q) ∧ (∀ q, X2.nd q ≠ none → X1.nd q ≠ none) := by
  have hg := ht.grown
  refine ⟨_, h.lessKid hpn hm hv hk (MapAt.gone (W := w1) d2 d3 ho) (fun j hj hne => hg.block j (foot_lt h hj) (fun e => hne (by injection e))), ?_, rfl, rfl, fun q hq => ?_, fun q hq => ?_⟩
  · refine (Post.map (X := X1) ht (.inr ⟨p, hpn, hm⟩)).view (fun k hk => ?_)
    rcases hk with ⟨q, b', hq⟩ | ⟨q, hq, hmq⟩
    · have hq2 : (if q = p ++ [x] then none else X1.nd q) = some (k, b') := hq
      by_cases e : q = p ++ [x]
      · rw [if_pos e] at hq2; cases hq2
      · rw [if_neg e] at hq2; exact .inl (.inl ⟨q, b', hq2⟩)
    · have hq2 : (if q = p ++ [x] then none else X1.nd q) ≠ none := hq
      by_cases e : q = p ++ [x]
      · rw [if_pos e] at hq2; exact absurd rfl hq2
      · rw [if_neg e] at hq2; exact .inl (.inr ⟨q, hq2, hmq⟩)
  · exact if_neg (fun e => by rw [e, List.length_append, List.length_singleton] at hq; omega)
  · have hq2 : (if q = p ++ [x] then none else X1.nd q) ≠ none := hq
    by_cases e : q = p ++ [x]
    · rw [if_pos e] at hq2; exact absurd rfl hq2
    · rw [if_neg e] at hq2; exact hq2
abbrev away (X : TX) : Nat → Prop := fun k => ¬ foot X k
set_option maxHeartbeats 16000000 in
set_option maxRecDepth 100000 in
theorem prune_calls (g o N : Nat) : ∀ (t : List Int) (p : Row) (X : TX) (A : Option Addr) (c a b : Nat) (w : World), TrieAt w g o N X → X.nd p = some (a, b) → Kd.F kI w (away X) A t.length t → t.length ≤ c → (∀ x ∈ t, i64 x) →
    Calls Try.prog 50 #[.pointer (some ⟨a, b, none⟩), .slice A t.length c] w (Pruned w g o N X p t) := by
  intro t
  induction t with
  | nil =>
    intro p X A c a b w h hp hF hc hi
    obtain ⟨c0, c1, c2, c3⟩ := (h.node p a b hp).cells
    have z1 := c3 (b + 1)
    have z2 := c3 (b + 2)
    have S1 := Aside0.mk (put_at h hp none)
    simp only [Option.isSome_none, Option.getD_none] at S1
    obtain ⟨r, hr⟩ : ∃ r, X.val p = r := ⟨_, rfl⟩
    have HR := Aside0.mk hr
    have HP := Aside0.mk (show ({ X with val := upd X.val p none } : TX).nd p = some (a, b) from hp)
    rw [hr] at c1 c2
    clear h hp hF hc hi c0 c3 hr
    go_enter Try.func50, Try.ntmps50
    go_upto_region 11 with (fail)
    clear c1 c2 z1 z2
    obtain ⟨X2, hX2⟩ : ∃ X2 : TX, X2 = { X with val := upd X.val p none } := ⟨_, rfl⟩
    rw [← hX2] at S1 HP
    have HX2 := Aside0.mk hX2
    clear hX2
    generalize ((w.setCell ⟨a, b + 1, none⟩ (.bool false)).setCell ⟨a, b + 2, none⟩ (.int .i64 0)) = W at S1 ⊢
    have T2 := Aside0.mk S1.out.1
    obtain ⟨zz, hz, hz0⟩ := len_kids T2.out (p := p) (by rw [HP.out]; simp)
    obtain ⟨c0, c1, _, c3⟩ := (T2.out.node p a b HP.out).cells
    have HZ := Aside0.mk hz0
    generalize X2.mp p = mq at c0 hz
    clear hz0 c3
    cases hv : X2.val p with
    | some u =>
      rw [hv] at c1
      simp only [Option.isSome_some] at c1
      clear hv
      go_wp2
      go_ret2
      exact pruned_here HR.out T2.out S1.out.2 HX2.out false (fun h => by cases h)
    | none =>
      have HV := Aside0.mk hv
      rw [hv] at c1
      simp only [Option.isSome_none] at c1
      clear hv
      by_cases hzz : zz = 0
      · have q1 : (zz == 0) = true := beq_iff_eq.mpr hzz
        have HE := Aside0.mk (HZ.out hzz)
        subst hzz
        go_wp2
        go_ret2
        exact pruned_here HR.out T2.out S1.out.2 HX2.out true (fun _ => ⟨HV.out, HE.out⟩)
      · have q1 : (zz == 0) = false := beq_eq_false_iff_ne.mpr hzz
        go_wp2
        go_ret2
        exact pruned_here HR.out T2.out S1.out.2 HX2.out false (fun h => by cases h)
  | cons x s ih =>
    intro p X A c a b w h hp hF hc hi
    have IH := Aside0.mk ih
    clear ih
    have hlen : (x :: s).length = s.length + 1 := rfl
    obtain ⟨n, hn⟩ : ∃ n, s.length = n := ⟨_, rfl⟩
    rw [hlen, hn] at hc ⊢
    have HN := Aside0.mk hn
    obtain ⟨ad, eA, hx0⟩ := at_int (Kd.F_now hF) 0 (by rw [hlen]; omega)
    cases eA
    have ea0 : ad.add 0 = ad := by cases ad; simp [Addr.add]
    rw [ea0] at hx0
    replace hx0 : w.cell? ad = some (.int .i64 x) := hx0
    have HF := Aside0.mk hF
    have HI := Aside0.mk hi
    have HT := Aside0.mk h
    have HP := Aside0.mk hp
    obtain ⟨c0, c1, c2, c3⟩ := (h.node p a b hp).cells
    have hlk := look_kid h (p := p) (by rw [hp]; simp) (hi x List.mem_cons_self)
    have HX := Aside0.mk (hi x List.mem_cons_self)
    have hmax : n + 1 ≤ 9223372036854775807 := by rw [← hn]; exact (Kd.F_now hF).2.1
    have e1 : (((n + 1 : Nat) : Int) == 0) = false := beq_eq_false_iff_ne.mpr (by omega)
    have p2 : (0 : Int) < ((n + 1 : Nat) : Int) := by omega
    have HC := Aside0.mk hc
    obtain ⟨m, hm⟩ : ∃ m, X.mp p = m := ⟨_, rfl⟩
    have HM := Aside0.mk hm
    rw [hm] at c0 hlk
    cases hk : X.nd (p ++ [x]) with
    | none =>
      rw [hk] at hlk
      simp only [adr, Option.map_none] at hlk
      have HK := Aside0.mk hk
      have l1 : ∀ q, (Instr.lookup 73 (.map m) (.int .i64 x) false).run Try.prog (w.drewN q) = .ok (.pointer none) (w.drewN q) := fun q => by
        have h1 := look_kid (h.below (pw_below_drewN (Below.refl _ _) q)) (p := p) (by rw [hp]; simp) HX.out
        rw [hm, hk] at h1
        exact h1
      clear h hp hF hc hi c1 c2 c3 hlen hn hm hk
      go_enter Try.func50, Try.ntmps50
      go_wp2
      go_quiet (fail)
      rename_i nq
      go_upto_region 11 with (fail)
      clear c0 hx0 hlk l1
      have T2 := Aside0.mk (HT.out.below (pw_below_drewN (Below.refl w.heap.size w) nq))
      have PP := Aside0.mk (Post.of_below (n := 3) (g := g) (o := o) (X := X) (pw_below_drewN (Below.refl w.heap.size w) nq))
      generalize w.drewN nq = W at T2 PP ⊢
      obtain ⟨zz, hz, hz0⟩ := len_kids T2.out (p := p) (by rw [HP.out]; simp)
      obtain ⟨c0, c1, _, c3⟩ := (T2.out.node p a b HP.out).cells
      have HZ := Aside0.mk hz0
      generalize X.mp p = mq at c0 hz
      clear hz0 c3
      cases hv : X.val p with
      | some u =>
        rw [hv] at c1
        simp only [Option.isSome_some] at c1
        clear hv
        go_wp2
        go_ret2
        exact pruned_none T2.out HK.out PP.out false (fun h => by cases h)
      | none =>
        have HV := Aside0.mk hv
        rw [hv] at c1
        simp only [Option.isSome_none] at c1
        clear hv
        by_cases hzz : zz = 0
        · have q1 : (zz == 0) = true := beq_iff_eq.mpr hzz
          have HE := Aside0.mk (HZ.out hzz)
          subst hzz
          go_wp2
          go_ret2
          exact pruned_none T2.out HK.out PP.out true (fun _ => ⟨HV.out, HE.out⟩)
        · have q1 : (zz == 0) = false := beq_eq_false_iff_ne.mpr hzz
          go_wp2
          go_ret2
          exact pruned_none T2.out HK.out PP.out false (fun h => by cases h)
    | some q =>
      obtain ⟨a', b'⟩ := q
      rw [hk] at hlk
      simp only [adr, Option.map_some] at hlk
      have HK := Aside0.mk hk
      have l1 : ∀ q, (Instr.lookup 73 (.map m) (.int .i64 x) false).run Try.prog (w.drewN q) = .ok (.pointer (some ⟨a', b', none⟩)) (w.drewN q) := fun q => by
        have h1 := look_kid (h.below (pw_below_drewN (Below.refl _ _) q)) (p := p) (by rw [hp]; simp) HX.out
        rw [hm, hk] at h1
        exact h1
      clear h hp hF hc hi c1 c2 c3 hlen hn hm hk
      go_enter Try.func50, Try.ntmps50
      go_wp2
      go_quiet (fail)
      rename_i nq
      go_upto_region 8 with (fail)
      clear c0 hx0 hlk l1
      obtain ⟨mm, hmm⟩ : ∃ mm, m = some mm := by
        cases hq : m with
        | none =>
          have h1 := HT.out.nomap p (by rw [HP.out]; simp) (by rw [HM.out, hq]) x
          rw [HK.out] at h1
          cases h1
        | some mm => exact ⟨mm, rfl⟩
      subst hmm
      have T1 := Aside0.mk (HT.out.below (pw_below_drewN (Below.refl w.heap.size w) nq))
      have F1 := Aside0.mk (Kd.F_drewN HF.out nq)
      have PP := Aside0.mk (Post.of_below (n := 3) (g := g) (o := o) (X := X) (pw_below_drewN (Below.refl w.heap.size w) nq))
      generalize w.drewN nq = W1 at T1 F1 PP ⊢
      have FC := Kd.F_cut (m := 1) (c := c) F1.out (by rw [List.length_cons]; omega) (by rw [List.length_cons, HN.out]; exact HC.out)
      by_cases hc1 : c = 1
      · subst hc1
        have hn0 : n = 0 := by have := HC.out; omega
        subst hn0
        have CALL := Aside0.mk (IH.out (p ++ [x]) X (some ad) 0 a' b' W1 T1.out HK.out FC (by rw [HN.out]; omega) (fun y hy => HI.out y (List.mem_cons_of_mem _ hy)))
        rw [HN.out] at CALL
        clear FC
        obtain ⟨rr, hrr⟩ : ∃ rr, (X.val (p ++ [x] ++ s)).isSome = rr := ⟨_, rfl⟩
        have RR := Aside0.mk hrr
        clear hrr
        go_upto_region 9 with (go_at_call 50; go_loud ((refine CALL.out.mono ?_); rintro e w2 ⟨X1, em, he, t1, v1, p1, m1, n1, s1, e1⟩; rw [RR.out] at he; subst he; have TT := Aside0.mk t1; have VV := Aside0.mk v1; have P1 := Aside0.mk (PP.out.trans p1); have Q1 := Aside0.mk p1; have MV := Aside0.mk m1; have NV := Aside0.mk n1; have SV := Aside0.mk s1; have EV := Aside0.mk e1; clear t1 v1 p1 m1 n1 s1 e1))
        have HP1 := Aside0.mk (show X1.nd p = some (a, b) by rw [NV.out p (by rw [List.length_append]; omega)]; exact HP.out)
        clear CALL
        cases em with
        | false =>
          go_upto_region 11 with (fail)
          obtain ⟨zz, hz, hz0⟩ := len_kids TT.out (p := p) (by rw [HP1.out]; simp)
          obtain ⟨c0, c1, _, c3⟩ := (TT.out.node p a b HP1.out).cells
          have HZ := Aside0.mk hz0
          generalize X1.mp p = mq at c0 hz
          clear hz0 c3
          cases hv : X1.val p with
          | some u =>
            rw [hv] at c1
            simp only [Option.isSome_some] at c1
            clear hv
            go_wp2
            go_ret2
            exact (RR.out ▸ pruned_on (X1 := X1) TT.out P1.out VV.out rfl MV.out (fun q hq => NV.out q (by rw [List.length_append]; omega)) SV.out) false (fun h => by cases h)
          | none =>
            have HV := Aside0.mk hv
            rw [hv] at c1
            simp only [Option.isSome_none] at c1
            clear hv
            by_cases hzz : zz = 0
            · have q1 : (zz == 0) = true := beq_iff_eq.mpr hzz
              have HE := Aside0.mk (HZ.out hzz)
              subst hzz
              go_wp2
              go_ret2
              exact (RR.out ▸ pruned_on (X1 := X1) TT.out P1.out VV.out rfl MV.out (fun q hq => NV.out q (by rw [List.length_append]; omega)) SV.out) true (fun _ => ⟨HV.out, HE.out⟩)
            · have q1 : (zz == 0) = false := beq_eq_false_iff_ne.mpr hzz
              go_wp2
              go_ret2
              exact (RR.out ▸ pruned_on (X1 := X1) TT.out P1.out VV.out rfl MV.out (fun q hq => NV.out q (by rw [List.length_append]; omega)) SV.out) false (fun h => by cases h)
        | true =>
          have hx1 : w2.cell? ad = some (.int .i64 x) := by
            obtain ⟨ad2, eA2, h2⟩ := at_int (Kd.F_now (Kd.F_kept F1.out Q1.out.kept (fun k hk => hk))) 0 (by rw [List.length_cons]; omega)
            cases eA2
            rw [ea0] at h2
            exact h2
          obtain ⟨c0, _, _, _⟩ := (TT.out.node p a b HP1.out).cells
          have hm1 : X1.mp p = some mm := by rw [MV.out]; exact HM.out
          rw [hm1] at c0
          have HM1 := Aside0.mk hm1
          obtain ⟨D, d1, d2, d3⟩ := TT.out.map p mm (by rw [HP1.out]; simp) hm1
          have DO := Aside0.mk d1
          have D2 := Aside0.mk d2
          have D3 := Aside0.mk d3
          clear d1 d2 d3 hm1
          go_wp2
          go_still_tail 7, (by kernel_rfl)
          change wpList _ _ _ _ _ w2.drew
          go_upto_region 11 with (at_delete; go_loud ((refine wpList_delete_own _ rfl (.tmp 43) (.tmp 46) 73 3 rfl 110 K3 Try.underlying73 pe mm N D rfl (show w2.drew.ownsMap Try.prog 3 pe mm N D from DO.out) _ _ rfl (key3 HX.out) ?_); intro w3 ho ht; obtain ⟨X2, t2, p2, v2, m2, n2, s2⟩ := struck (w1 := w2.drew) (TT.out.below (Below.refl _ _).drew) (by rw [HP1.out]; simp) HM1.out (EV.out (by first | rfl | trivial)).1 (EV.out (by first | rfl | trivial)).2 D2.out D3.out ho ht; have T3 := Aside0.mk t2; have P3 := Aside0.mk ((P1.out.then_below (Below.refl _ _).drew).trans p2); have V3 := Aside0.mk v2; have M3 := Aside0.mk (m2.trans MV.out); have N3 := Aside0.mk (show ∀ q, q.length ≤ p.length → X2.nd q = X.nd q from fun q hq => (n2 q hq).trans (NV.out q (by rw [List.length_append]; omega))); have S3 := Aside0.mk (show ∀ q, X2.nd q ≠ none → X.nd q ≠ none from fun q hq => SV.out q (s2 q hq)); clear ho ht t2 p2 v2 m2 n2 s2))
          have HP3 := Aside0.mk (show X2.nd p = some (a, b) by rw [N3.out p (Nat.le_refl _)]; exact HP.out)
          clear c0 hx1
          obtain ⟨zz, hz, hz0⟩ := len_kids T3.out (p := p) (by rw [HP3.out]; simp)
          obtain ⟨c0, c1, _, c3⟩ := (T3.out.node p a b HP3.out).cells
          have HZ := Aside0.mk hz0
          generalize X2.mp p = mq at c0 hz
          clear hz0 c3
          cases hv : X2.val p with
          | some u =>
            rw [hv] at c1
            simp only [Option.isSome_some] at c1
            clear hv
            go_wp2
            go_ret2
            exact (RR.out ▸ pruned_on (X1 := X1) T3.out P3.out VV.out V3.out M3.out N3.out S3.out) false (fun h => by cases h)
          | none =>
            have HV := Aside0.mk hv
            rw [hv] at c1
            simp only [Option.isSome_none] at c1
            clear hv
            by_cases hzz : zz = 0
            · have q1 : (zz == 0) = true := beq_iff_eq.mpr hzz
              have HE := Aside0.mk (HZ.out hzz)
              subst hzz
              go_wp2
              go_ret2
              exact (RR.out ▸ pruned_on (X1 := X1) T3.out P3.out VV.out V3.out M3.out N3.out S3.out) true (fun _ => ⟨HV.out, HE.out⟩)
            · have q1 : (zz == 0) = false := beq_eq_false_iff_ne.mpr hzz
              go_wp2
              go_ret2
              exact (RR.out ▸ pruned_on (X1 := X1) T3.out P3.out VV.out V3.out M3.out N3.out S3.out) false (fun h => by cases h)
      · rw [if_neg hc1] at FC
        have CALL := Aside0.mk (IH.out (p ++ [x]) X (some (ad.add 1)) (c - 1) a' b' W1 T1.out HK.out FC (by rw [HN.out]; have := HC.out; omega) (fun y hy => HI.out y (List.mem_cons_of_mem _ hy)))
        have hE : ad.add 1 = ⟨ad.block, ad.off + 1, none⟩ := by simp [Addr.add]
        rw [HN.out, hE] at CALL
        clear FC hE
        obtain ⟨rr, hrr⟩ : ∃ rr, (X.val (p ++ [x] ++ s)).isSome = rr := ⟨_, rfl⟩
        have RR := Aside0.mk hrr
        clear hrr
        go_upto_region 9 with (go_at_call 50; go_loud ((refine CALL.out.mono ?_); rintro e w2 ⟨X1, em, he, t1, v1, p1, m1, n1, s1, e1⟩; rw [RR.out] at he; subst he; have TT := Aside0.mk t1; have VV := Aside0.mk v1; have P1 := Aside0.mk (PP.out.trans p1); have Q1 := Aside0.mk p1; have MV := Aside0.mk m1; have NV := Aside0.mk n1; have SV := Aside0.mk s1; have EV := Aside0.mk e1; clear t1 v1 p1 m1 n1 s1 e1))
        have HP1 := Aside0.mk (show X1.nd p = some (a, b) by rw [NV.out p (by rw [List.length_append]; omega)]; exact HP.out)
        clear CALL
        cases em with
        | false =>
          go_upto_region 11 with (fail)
          obtain ⟨zz, hz, hz0⟩ := len_kids TT.out (p := p) (by rw [HP1.out]; simp)
          obtain ⟨c0, c1, _, c3⟩ := (TT.out.node p a b HP1.out).cells
          have HZ := Aside0.mk hz0
          generalize X1.mp p = mq at c0 hz
          clear hz0 c3
          cases hv : X1.val p with
          | some u =>
            rw [hv] at c1
            simp only [Option.isSome_some] at c1
            clear hv
            go_wp2
            go_ret2
            exact (RR.out ▸ pruned_on (X1 := X1) TT.out P1.out VV.out rfl MV.out (fun q hq => NV.out q (by rw [List.length_append]; omega)) SV.out) false (fun h => by cases h)
          | none =>
            have HV := Aside0.mk hv
            rw [hv] at c1
            simp only [Option.isSome_none] at c1
            clear hv
            by_cases hzz : zz = 0
            · have q1 : (zz == 0) = true := beq_iff_eq.mpr hzz
              have HE := Aside0.mk (HZ.out hzz)
              subst hzz
              go_wp2
              go_ret2
              exact (RR.out ▸ pruned_on (X1 := X1) TT.out P1.out VV.out rfl MV.out (fun q hq => NV.out q (by rw [List.length_append]; omega)) SV.out) true (fun _ => ⟨HV.out, HE.out⟩)
            · have q1 : (zz == 0) = false := beq_eq_false_iff_ne.mpr hzz
              go_wp2
              go_ret2
              exact (RR.out ▸ pruned_on (X1 := X1) TT.out P1.out VV.out rfl MV.out (fun q hq => NV.out q (by rw [List.length_append]; omega)) SV.out) false (fun h => by cases h)
        | true =>
          have hx1 : w2.cell? ad = some (.int .i64 x) := by
            obtain ⟨ad2, eA2, h2⟩ := at_int (Kd.F_now (Kd.F_kept F1.out Q1.out.kept (fun k hk => hk))) 0 (by rw [List.length_cons]; omega)
            cases eA2
            rw [ea0] at h2
            exact h2
          obtain ⟨c0, _, _, _⟩ := (TT.out.node p a b HP1.out).cells
          have hm1 : X1.mp p = some mm := by rw [MV.out]; exact HM.out
          rw [hm1] at c0
          have HM1 := Aside0.mk hm1
          obtain ⟨D, d1, d2, d3⟩ := TT.out.map p mm (by rw [HP1.out]; simp) hm1
          have DO := Aside0.mk d1
          have D2 := Aside0.mk d2
          have D3 := Aside0.mk d3
          clear d1 d2 d3 hm1
          go_wp2
          go_still_tail 7, (by kernel_rfl)
          change wpList _ _ _ _ _ w2.drew
          go_upto_region 11 with (at_delete; go_loud ((refine wpList_delete_own _ rfl (.tmp 43) (.tmp 46) 73 3 rfl 110 K3 Try.underlying73 pe mm N D rfl (show w2.drew.ownsMap Try.prog 3 pe mm N D from DO.out) _ _ rfl (key3 HX.out) ?_); intro w3 ho ht; obtain ⟨X2, t2, p2, v2, m2, n2, s2⟩ := struck (w1 := w2.drew) (TT.out.below (Below.refl _ _).drew) (by rw [HP1.out]; simp) HM1.out (EV.out (by first | rfl | trivial)).1 (EV.out (by first | rfl | trivial)).2 D2.out D3.out ho ht; have T3 := Aside0.mk t2; have P3 := Aside0.mk ((P1.out.then_below (Below.refl _ _).drew).trans p2); have V3 := Aside0.mk v2; have M3 := Aside0.mk (m2.trans MV.out); have N3 := Aside0.mk (show ∀ q, q.length ≤ p.length → X2.nd q = X.nd q from fun q hq => (n2 q hq).trans (NV.out q (by rw [List.length_append]; omega))); have S3 := Aside0.mk (show ∀ q, X2.nd q ≠ none → X.nd q ≠ none from fun q hq => SV.out q (s2 q hq)); clear ho ht t2 p2 v2 m2 n2 s2))
          have HP3 := Aside0.mk (show X2.nd p = some (a, b) by rw [N3.out p (Nat.le_refl _)]; exact HP.out)
          clear c0 hx1
          obtain ⟨zz, hz, hz0⟩ := len_kids T3.out (p := p) (by rw [HP3.out]; simp)
          obtain ⟨c0, c1, _, c3⟩ := (T3.out.node p a b HP3.out).cells
          have HZ := Aside0.mk hz0
          generalize X2.mp p = mq at c0 hz
          clear hz0 c3
          cases hv : X2.val p with
          | some u =>
            rw [hv] at c1
            simp only [Option.isSome_some] at c1
            clear hv
            go_wp2
            go_ret2
            exact (RR.out ▸ pruned_on (X1 := X1) T3.out P3.out VV.out V3.out M3.out N3.out S3.out) false (fun h => by cases h)
          | none =>
            have HV := Aside0.mk hv
            rw [hv] at c1
            simp only [Option.isSome_none] at c1
            clear hv
            by_cases hzz : zz = 0
            · have q1 : (zz == 0) = true := beq_iff_eq.mpr hzz
              have HE := Aside0.mk (HZ.out hzz)
              subst hzz
              go_wp2
              go_ret2
              exact (RR.out ▸ pruned_on (X1 := X1) T3.out P3.out VV.out V3.out M3.out N3.out S3.out) true (fun _ => ⟨HV.out, HE.out⟩)
            · have q1 : (zz == 0) = false := beq_eq_false_iff_ne.mpr hzz
              go_wp2
              go_ret2
              exact (RR.out ▸ pruned_on (X1 := X1) T3.out P3.out VV.out V3.out M3.out N3.out S3.out) false (fun h => by cases h)
/-- The trie's own call. -/
def Dropped (w : World) (g o N : Nat) (X : TX) (l : Row) (cnt : Int) (e : Ending) (w' : World) : Prop :=
  e = .returned (.bool (X.val l).isSome) ∧ Done 4 w w' g o N X (upd X.val l none) (if (X.val l).isSome = true then cnt - 1 else cnt)
set_option maxHeartbeats 8000000 in
theorem drop_calls (g o N : Nat) (X : TX) (A : Option Addr) (c : Nat) (l : List Int) (cnt : Int) (w : World) (h : TrieAt w g o N X) (hc : CntAt w g o cnt) (hF : Kd.F kI w (away X) A l.length l) (hl : l.length ≤ c) (hi : ∀ x ∈ l, i64 x) (h0 : -1000000000 ≤ cnt ∧ cnt ≤ 1000000000) :
    Calls Try.prog 41 #[.pointer (some ⟨g, o, none⟩), .slice A l.length c] w (Dropped w g o N X l cnt) := by
  have HP := Aside0.mk (prune_calls g o N l [] X A c g o w h h.root hF hl hi)
  have HC := Aside0.mk hc
  obtain ⟨r, hr⟩ : ∃ r, (X.val l).isSome = r := ⟨_, rfl⟩
  have HR := Aside0.mk hr
  clear h hc hF hl hi
  go_enter Try.func41, Try.ntmps41
  go_upto_region 2 with (go_at_call 50; go_loud ((refine HP.out.mono ?_); rintro e w2 ⟨X1, em, he, t1, v1, p1, m1, n1, s1, e1⟩; rw [List.nil_append] at he v1; rw [HR.out] at he; subst he; have C1 := Aside0.mk (HC.out.post p1); have T1 := Aside0.mk t1; have V1 := Aside0.mk v1; have P1 := Aside0.mk p1; clear t1 v1 p1 m1 n1 s1 e1))
  obtain ⟨y0, y1⟩ := C1.out.cell
  have b1 := h0.1
  have b2 := h0.2
  cases r with
  | false =>
    clear y0 y1
    go_wp2
    go_ret
    exact ⟨by rw [HR.out]; rfl, X1, T1.out, by rw [HR.out]; exact C1.out, V1.out, P1.out.wide (by omega)⟩
  | true =>
    have D := Aside0.mk (show Done 4 w (w2.setCell ⟨g, o + 3, none⟩ (.int .i64 (cnt - 1))) g o N X (upd X.val l none) (cnt - 1) from by
      obtain ⟨t3, p3, c3⟩ := count_set T1.out C1.out (cnt - 1)
      exact ⟨X1, t3, c3, V1.out, (P1.out.wide (by omega)).trans p3⟩)
    go_wp2
    go_ret
    exact ⟨by rw [HR.out]; rfl, by rw [HR.out]; exact D.out⟩
end Go.Proofs.Ythihgiaflbaigaa.OTrie
