/- The pool's reading methods over a whole pool; the awake call, walked by hand. -/
import Derived.Test.YtmbbaalpeomnlaaOPool6
set_option linter.unusedVariables false
set_option linter.unusedSimpArgs false
namespace Go.Proofs.Ytmbbaalpeomnlaa.OPool
open Go.RowKit Go.Proofs.YtmbbaalpeomnlaaW.PrintWords Go.Proofs.YtmbbaalpeomnlaaW.PrintLast Go.Proofs.YtmbbaalpeomnlaaW.PrintMore Go.Proofs.Ytmbbaalpeomnlaa.GQ
theorem refs_at (base : Nat) (ok : Nat → Prop) (g : Nat) (X : PX) (i : Int) (w : World) (h : PoolAt base ok w g X) :
    Calls Try.prog 12 #[.pointer (some ⟨g, 0, none⟩), .int .i64 i] w fun e w' => e = .returned (.int .i64 (refsV X.pages i)) ∧ w = w' := by
  obtain ⟨b, A, c, h1, _⟩ := h
  exact refs_calls g b _ X.pages i w h1
theorem open_at (base : Nat) (ok : Nat → Prop) (g : Nat) (X : PX) (i : Int) (w : World) (h : PoolAt base ok w g X) :
    Calls Try.prog 18 #[.pointer (some ⟨g, 0, none⟩), .int .i64 i] w fun e w' => e = .returned (.bool (openV X.pages i)) ∧ w = w' := by
  obtain ⟨b, A, c, h1, _⟩ := h
  exact open_calls g b _ X.pages i w h1
theorem find_at (base : Nat) (ok : Nat → Prop) (g : Nat) (X : PX) (key : Int) (w : World) (h : PoolAt base ok w g X) :
    Calls Try.prog 17 #[.pointer (some ⟨g, 0, none⟩), .int .i64 key] w fun e w' => e = .returned (.tuple #[.int .i64 (findI key X.pages), .bool (findB key X.pages)]) ∧ Post base ok w w' g X ∧ Below w.heap.size w w' := by
  have h0 := h
  obtain ⟨b, A, c, h1, h2, h3, h4, h5, h6, h7, h8⟩ := h
  refine (find_calls g b _ X.pages key w h1 h7).mono ?_
  rintro e w' ⟨rfl, hb⟩
  exact ⟨rfl, h0.same hb, hb⟩
theorem counts_at (base : Nat) (ok : Nat → Prop) (g : Nat) (X : PX) (w : World) (h : PoolAt base ok w g X) :
    Calls Try.prog 14 #[.pointer (some ⟨g, 0, none⟩)] w fun e w' => e = .returned (.tuple #[.int .i64 (cfre X.pages), .int .i64 ((X.pages.length : Int) - (cfre X.pages : Int) - (X.idle.length : Int)), .int .i64 (X.idle.length : Int)]) ∧ Post base ok w w' g X ∧ Below w.heap.size w w' := by
  have h0 := h
  obtain ⟨b, A, c, h1, h2, h3, h4, h5, h6, h7, h8⟩ := h
  refine (counts_calls g b A X.idle.length c X.pages w h1 h7 h8).mono ?_
  rintro e w' ⟨rfl, hb⟩
  exact ⟨rfl, h0.same hb, hb⟩
/-- The blocks from base on. -/
abbrev from_ (base : Nat) : Nat → Prop := fun k => base ≤ k
def one1 : PX := ⟨[⟨1, false, 0⟩], []⟩
theorem one_take : pTake (fresh 1) = (one1, (0, 0, false, 0)) := rfl
theorem one_full : pTake one1 = (one1, (0, 0, false, 10)) := rfl
theorem step_trans {B : Nat} {w w1 w2 : World} (h : Below B w w1) (h2 : Below B w1 w2) : Below B w w2 := h.trans h2
set_option maxHeartbeats 4000000 in
theorem awake_calls (w : World) : Calls Try.prog 8 #[] w fun e w' => e = .returned (.bool true) ∧ Below w.heap.size w w' := by
  have o1 : openV one1.pages 0 = true := rfl
  have r1 : refsV one1.pages 0 = 1 := rfl
  go_enter Try.func8, Try.ntmps8
  go_wp2_with (first
    | (go_at_call 9; refine (new_ok 1 w (by decide) (by decide)).mono ?_; rintro e w1 ⟨g, rfl, hP, hb⟩; have P1 := Aside0.mk hP; have B1 := Aside0.mk hb; clear hP hb)
    | (go_at_call 10; refine (take_calls _ _ g _ _ P1.out (by intro i hi; cases hi)).mono ?_; rw [one_take]; rintro e w2 ⟨rfl, hb, _, hP⟩; have P2 := Aside0.mk hP; have B2 := Aside0.mk (B1.out.trans hb); clear hP hb P1 B1)
    | (go_at_call 10; refine (take_calls _ _ g _ _ P2.out (by intro i hi; cases hi)).mono ?_; rw [one_full]; rintro e w3 ⟨rfl, hb, _, hP⟩; have P3 := Aside0.mk hP; have B3 := Aside0.mk (B2.out.trans hb); clear hP hb P2 B2)
    | (go_at_call 18; refine (open_at _ _ g _ 0 _ P3.out).mono ?_; rw [o1]; rintro e w4 ⟨rfl, rfl⟩)
    | (go_at_call 12; refine (refs_at _ _ g _ 0 _ P3.out).mono ?_; rw [r1]; rintro e w5 ⟨rfl, rfl⟩))
  go_ret
  exact ⟨rfl, B3.out⟩
end Go.Proofs.Ytmbbaalpeomnlaa.OPool
