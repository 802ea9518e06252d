/- The pool's methods that write, walked by hand. -/
import Derived.Test.YtmbbaalpeomnlaaOPool2
set_option linter.unusedVariables false
set_option linter.unusedSimpArgs false
namespace Go.Proofs.Ytmbbaalpeomnlaa.OPool
open Go.RowKit Go.Proofs.YtmbbaalpeomnlaaW.PrintWords Go.Proofs.YtmbbaalpeomnlaaW.PrintLast Go.Proofs.YtmbbaalpeomnlaaW.PrintMore Go.Proofs.Ytmbbaalpeomnlaa.GQ
/-! ### The pool as plain lists -/
structure PX where
  pages : List PG
  idle : List Int
def iidx (x : Int) : List Int → Nat → Int
  | [], _ => -1
  | y :: ys, i => if x = y then (i : Int) else iidx x ys (i + 1)
def fidx : List PG → Nat → Int
  | [], _ => -1
  | p :: ps, i => if fre p = true then (i : Int) else fidx ps (i + 1)
def pset (ps : List PG) (i : Int) (p : PG) : List PG := ps.set i.toNat p
def pHold (X : PX) (i : Int) : PX × Int :=
  if there X.pages i = true then
    if (pg X.pages i).f0 ≥ 1000 then (X, 2)
    else (⟨pset X.pages i ⟨(pg X.pages i).f0 + 1, (pg X.pages i).f1, (pg X.pages i).f2⟩, if (pg X.pages i).f0 = 0 then X.idle.eraseIdx (iidx i X.idle 0).toNat else X.idle⟩, 0)
  else (X, 8)
def pSeal (X : PX) (i key : Int) : PX × Int :=
  if there X.pages i = true then
    if findB key X.pages = true ∨ (pg X.pages i).f1 = true then (X, 9)
    else (⟨pset X.pages i ⟨(pg X.pages i).f0, true, key⟩, X.idle⟩, 0)
  else (X, 8)
def pDrop (X : PX) (i : Int) : PX × Int :=
  if there X.pages i = true ∧ ¬ (pg X.pages i).f0 = 0 then
    (⟨pset X.pages i ⟨(pg X.pages i).f0 - 1, (pg X.pages i).f1, (pg X.pages i).f2⟩, if (pg X.pages i).f0 - 1 > 0 then X.idle else if (pg X.pages i).f1 = true then X.idle ++ [i] else X.idle⟩, 0)
  else (X, 8)
def pForget (X : PX) (i : Int) : PX × Int :=
  if iidx i X.idle 0 < 0 then (X, 8) else (⟨pset X.pages i z55, X.idle.eraseIdx (iidx i X.idle 0).toNat⟩, 0)
def pTake (X : PX) : PX × (Int × Int × Bool × Int) :=
  if 0 ≤ fidx X.pages 0 then (⟨pset X.pages (fidx X.pages 0) ⟨1, false, 0⟩, X.idle⟩, (fidx X.pages 0, 0, false, 0))
  else match X.idle with
    | [] => (X, (0, 0, false, 10))
    | i :: r => (⟨pset X.pages i ⟨1, false, 0⟩, r⟩, (i, (pg X.pages i).f2, true, 0))
/-! ### What is written -/
theorem pblock_set : ∀ (ps : List PG) (i j : Nat) (u : Value) (p' : PG), i < ps.length → j < 3 → pcells p' = (pcells (ps.getD i z55)).set j u → pblock (ps.set i p') = (pblock ps).setIfInBounds (i * 3 + j) u := by
  intro ps
  induction ps with
  | nil => intro i j u p' h; simp at h
  | cons p ps ih =>
    intro i j u p' h hj hp
    apply Array.toList_inj.mp
    rw [Array.toList_setIfInBounds]
    unfold pblock at ih ⊢
    show (_ : List Value) = _
    cases i with
    | zero =>
      rw [List.set_cons_zero, List.flatMap_cons, List.flatMap_cons, hp, List.set_append_left _ _ (by simp [pcells]; omega)]
      simp
    | succ i =>
      rw [List.set_cons_succ, List.flatMap_cons, List.flatMap_cons, List.set_append_right _ _ (by simp [pcells]; omega)]
      have := ih i j u p' (by simpa using h) hj (by simpa using hp)
      have h2 := congrArg Array.toList this
      rw [Array.toList_setIfInBounds] at h2
      rw [show (i + 1) * 3 + j - (pcells p).length = i * 3 + j by simp [pcells]; omega]
      exact congrArg (pcells p ++ ·) h2
theorem Raw.ne {W : World} {g b : Nat} {vi : Value} {ps : List PG} (h : Raw W g b vi ps) : g ≠ b := blk_ne h.1 h.2 (by decide)
theorem Raw.put {W : World} {g b : Nat} {vi : Value} {ps : List PG} (h : Raw W g b vi ps) (i : Int) (h0 : 0 ≤ i) (h1 : i < ps.length) (j : Nat) (hj : j < 3) (u : Value) (p' : PG) (hp : pcells p' = (pcells (pg ps i)).set j u) :
    Raw (W.setCell ⟨b, i.toNat * 3 + j, none⟩ u) g b vi (pset ps i p') := by
  have hl : (pset ps i p').length = ps.length := by unfold pset; simp
  refine ⟨?_, ?_⟩
  · rw [hl]; exact blk_far h.1 h.ne u
  · unfold pset
    rw [pblock_set ps i.toNat j u p' (by omega) hj hp]
    exact blk_set h.2 _ _
theorem Raw.field {W : World} {g b : Nat} {vi : Value} {ps : List PG} (h : Raw W g b vi ps) (v : Value) : Raw (W.setCell ⟨g, 1, none⟩ v) g b v ps := by
  refine ⟨?_, blk_far h.2 h.ne.symm v⟩
  have := blk_set h.1 1 v
  simpa using this
theorem Raw.step {W W' : World} {g b : Nat} {vi : Value} {ps : List PG} (h : Raw W g b vi ps) (hb : Below W.heap.size W W') : Raw W' g b vi ps := ⟨blk_below h.1 hb, blk_below h.2 hb⟩
theorem Raw.kept {W W' : World} {S : Nat → Prop} {g b : Nat} {vi : Value} {ps : List PG} (h : Raw W g b vi ps) (hk : Kept W W' S) (hg : ¬ S g) (hb : ¬ S b) : Raw W' g b vi ps := ⟨blk_kept h.1 hk hg, blk_kept h.2 hk hb⟩
theorem Raw.cells6 {W : World} {g b : Nat} {vi : Value} {ps : List PG} (h : Raw W g b vi ps) (i : Int) (h0 : 0 ≤ i) (h1 : i < ps.length) :
    W.cell? ⟨b, i.toNat * 3, none⟩ = some (.int .i64 (pg ps i).f0) ∧ W.cell? ⟨b, i.toNat * 3 + 1, none⟩ = some (.bool (pg ps i).f1) ∧ W.cell? ⟨b, i.toNat * 3 + 2, none⟩ = some (.int .i64 (pg ps i).f2) ∧
    W.frozen? ⟨b, i.toNat * 3, none⟩ = false ∧ W.frozen? ⟨b, i.toNat * 3 + 1, none⟩ = false ∧ W.frozen? ⟨b, i.toNat * 3 + 2, none⟩ = false := by
  obtain ⟨k0, k1, k2⟩ := h.cell i h0 h1
  exact ⟨k0, k1, k2, blk_frozen h.2 _, blk_frozen h.2 _, blk_frozen h.2 _⟩
def PoolAt (base : Nat) (ok : Nat → Prop) (W : World) (g : Nat) (X : PX) : Prop :=
  ∃ b A c, Raw W g b (.slice A X.idle.length c) X.pages ∧ base ≤ g ∧ ok g ∧ base ≤ b ∧ ok b ∧ (Kd.int .i64).Q 3 W base ok (.slice A X.idle.length c) X.idle ∧ X.pages.length ≤ 64 ∧ X.idle.length ≤ 64
def Post (base : Nat) (ok : Nat → Prop) (w w' : World) (g : Nat) (X : PX) : Prop := Below base w w' ∧ Kept w w' ok ∧ PoolAt base ok w' g X
theorem PoolAt.step {base : Nat} {ok : Nat → Prop} {W W' : World} {g : Nat} {X : PX} (h : PoolAt base ok W g X) (hb : Below W.heap.size W W') : PoolAt base ok W' g X := by
  obtain ⟨b, A, c, h1, h2, h3, h4, h5, h6, h7⟩ := h
  exact ⟨b, A, c, h1.step hb, h2, h3, h4, h5, Kd.Q_below h6 hb, h7⟩
theorem PoolAt.lt {base : Nat} {ok : Nat → Prop} {W : World} {g : Nat} {X : PX} (h : PoolAt base ok W g X) : base ≤ W.heap.size := by
  obtain ⟨b, A, c, h1, h2, _⟩ := h
  have := blk_lt h1.1
  omega
theorem PoolAt.same {base : Nat} {ok : Nat → Prop} {W W' : World} {g : Nat} {X : PX} (h : PoolAt base ok W g X) (hb : Below W.heap.size W W') : Post base ok W W' g X :=
  ⟨hb.mono h.lt, Kept.of_below hb ok, h.step hb⟩
theorem kept_set (w : World) (ok : Nat → Prop) (a : Addr) (u : Value) (h : ok a.block) : Kept w (w.setCell a u) ok :=
  ⟨by simp [World.setCell], fun k _ hn => Below.heap_setCell w a u k (fun e => hn (by rw [e]; exact h))⟩
set_option maxHeartbeats 2000000 in
theorem seal_calls (base : Nat) (ok : Nat → Prop) (g : Nat) (X : PX) (i key : Int) (w : World) (h : PoolAt base ok w g X) :
    Calls Try.prog 15 #[.pointer (some ⟨g, 0, none⟩), .int .i64 i, .int .i64 key] w fun e w' => e = .returned (.int .i64 (pSeal X i key).2) ∧ Post base ok w w' g (pSeal X i key).1 := by
  obtain ⟨b, A, c, h1, h2, h3, h4, h5, h6, h7, h8⟩ := h
  have hX : PoolAt base ok w g X := ⟨b, A, c, h1, h2, h3, h4, h5, h6, h7, h8⟩
  have H := Aside0.mk h1
  cases ht : there X.pages i
  · have e0 : pSeal X i key = (X, 8) := by unfold pSeal; rw [if_neg (by rw [ht]; decide)]
    rw [e0]
    have T := Aside0.mk ht
    have P := Aside0.mk (hX.same (Below.refl _ _))
    clear h1 h6 hX ht e0
    go_enter Try.func15, Try.ntmps15
    go_wp2_with (first | (go_at_call 22; refine (at_free g b _ X.pages i _ H.out T.out).mono ?_; rintro e w' ⟨rfl, rfl⟩))
    go_ret
    exact ⟨rfl, P.out⟩
  · have hi := there_iff ht
    have T := Aside0.mk ht
    cases hf : findB key X.pages
    · cases hs : (pg X.pages i).f1
      · have e0 : pSeal X i key = (⟨pset X.pages i ⟨(pg X.pages i).f0, true, key⟩, X.idle⟩, 0) := by
          unfold pSeal
          rw [if_pos ht, if_neg (by rw [hf, hs]; simp)]
        rw [e0]
        have F := Aside0.mk hf
        have P := Aside0.mk (fun (w1 : World) (hb : Below w.heap.size w w1) => show Post base ok w ((w1.setCell ⟨b, i.toNat * 3 + 1, none⟩ (.bool true)).setCell ⟨b, i.toNat * 3 + 2, none⟩ (.int .i64 key)) g ⟨pset X.pages i ⟨(pg X.pages i).f0, true, key⟩, X.idle⟩ from by
          have r1 := (h1.step hb).put i hi.1 hi.2.1 1 (by omega) (.bool true) ⟨(pg X.pages i).f0, true, (pg X.pages i).f2⟩ rfl
          have l1 : (pset X.pages i ⟨(pg X.pages i).f0, true, (pg X.pages i).f2⟩).length = X.pages.length := by unfold pset; simp
          have r2 := r1.put i hi.1 (by rw [l1]; exact hi.2.1) 2 (by omega) (.int .i64 key) ⟨(pg X.pages i).f0, true, key⟩ (by
            have : pg (pset X.pages i ⟨(pg X.pages i).f0, true, (pg X.pages i).f2⟩) i = ⟨(pg X.pages i).f0, true, (pg X.pages i).f2⟩ := by
              unfold pg pset
              rw [List.getD_eq_getElem?_getD, List.getElem?_set_self (by omega)]
              rfl
            rw [this]; rfl)
          rw [show pset (pset X.pages i ⟨(pg X.pages i).f0, true, (pg X.pages i).f2⟩) i ⟨(pg X.pages i).f0, true, key⟩ = pset X.pages i ⟨(pg X.pages i).f0, true, key⟩ by unfold pset; rw [List.set_set]] at r2
          refine ⟨((hb.mono (by have := blk_lt h1.1; omega)).setCell h4 _).setCell h4 _, (((Kept.of_below hb ok).then_ (kept_set _ ok _ _ h5) (fun _ h => .inl h)).then_ (kept_set _ ok _ _ h5) (fun _ h => .inl h)), b, A, c, r2, h2, h3, h4, h5, ?_, by unfold pset; simpa using h7, h8⟩
          exact Kd.Q_set (Kd.Q_set (Kd.Q_below h6 hb) (h1.step hb).2 (by decide) _ _) r1.2 (by decide) _ _)
        clear h1 h6 hX ht e0 hf
        go_enter Try.func15, Try.ntmps15
        go_wp2_with (first
          | (go_at_call 22; refine (at_there g b _ X.pages i _ H.out T.out).mono ?_; rintro e w' ⟨rfl, rfl⟩)
          | (go_at_call 17; refine (find_calls g b _ X.pages key _ H.out h7).mono ?_; rw [F.out]; rintro e w1 ⟨rfl, hb⟩; have P1 := Aside0.mk (P.out w1 hb); obtain ⟨k0, k1, k2, z0, z1, z2⟩ := (H.out.step hb).cells6 i hi.1 hi.2.1; rw [hs] at k1; clear hb))
        go_ret
        exact ⟨rfl, P1.out⟩
      · have e0 : pSeal X i key = (X, 9) := by
          unfold pSeal
          rw [if_pos ht, if_pos (.inr hs)]
        rw [e0]
        have F := Aside0.mk hf
        have P := Aside0.mk (fun (w1 : World) (hb : Below w.heap.size w w1) => hX.same hb)
        clear h1 h6 hX ht e0 hf
        go_enter Try.func15, Try.ntmps15
        go_wp2_with (first
          | (go_at_call 22; refine (at_there g b _ X.pages i _ H.out T.out).mono ?_; rintro e w' ⟨rfl, rfl⟩)
          | (go_at_call 17; refine (find_calls g b _ X.pages key _ H.out h7).mono ?_; rw [F.out]; rintro e w1 ⟨rfl, hb⟩; have P1 := Aside0.mk (P.out w1 hb); obtain ⟨k0, k1, k2, z0, z1, z2⟩ := (H.out.step hb).cells6 i hi.1 hi.2.1; rw [hs] at k1; clear hb))
        go_ret
        exact ⟨rfl, P1.out⟩
    · have e0 : pSeal X i key = (X, 9) := by
        unfold pSeal
        rw [if_pos ht, if_pos (.inl hf)]
      rw [e0]
      have F := Aside0.mk hf
      have P := Aside0.mk (fun (w1 : World) (hb : Below w.heap.size w w1) => hX.same hb)
      clear h1 h6 hX ht e0 hf
      go_enter Try.func15, Try.ntmps15
      go_wp2_with (first
        | (go_at_call 22; refine (at_there g b _ X.pages i _ H.out T.out).mono ?_; rintro e w' ⟨rfl, rfl⟩)
        | (go_at_call 17; refine (find_calls g b _ X.pages key _ H.out h7).mono ?_; rw [F.out]; rintro e w1 ⟨rfl, hb⟩; have P1 := Aside0.mk (P.out w1 hb); clear hb))
      go_ret
      exact ⟨rfl, P1.out⟩
end Go.Proofs.Ytmbbaalpeomnlaa.OPool
