/- The net's awake call, walked by hand. -/
import Derived.Test.YtmcdgachfkkpeaaONMove
set_option linter.unusedVariables false
set_option linter.unusedSimpArgs false
namespace Go.Proofs.Ytmcdgachfkkpeaa.ONet
open Go.RowKit Go.Proofs.YtmcdgachfkkpeaaW.PrintWords Go.Proofs.YtmcdgachfkkpeaaW.PrintLast Go.Proofs.YtmcdgachfkkpeaaW.PrintMore Go.Proofs.Ytmcdgachfkkpeaa.GQ
theorem nSend_ok {X : NX} {tg : Int} {f : ByteArray} (h0 : 0 ≤ tg) (h1 : tg < 8) (h2 : f.size ≤ 65536) (h3 : X.way.length < 256) : nSend X tg f = (⟨X.way ++ [⟨tg, f, false⟩], X.lost⟩, 0) := by
  unfold nSend
  rw [if_neg (by omega), if_neg (by omega), if_neg (by omega)]
/-- The blocks from base on. -/
abbrev from_ (base : Nat) : Nat → Prop := fun k => base ≤ k
theorem NetAt.start (w : World) : NetAt w.heap.size (from_ w.heap.size) (w.alloc (.cells #[.slice none 0 0, .int .i64 0] 25 (0, 0))) w.heap.size ⟨[], 0⟩ := NetAt.zero w _ _ (Nat.le_refl _) (Nat.le_refl _)
theorem up_ok {w w' : World} (h : Below w.heap.size w w') : ∀ k, w'.heap.size ≤ k → from_ w.heap.size k := fun k hk => Nat.le_trans h.size hk
abbrev ab : ByteArray := ⟨#[97, 98]⟩
abbrev cc : ByteArray := ⟨#[99]⟩
def aw1 : NX := ⟨[⟨1, ab, false⟩], 0⟩
def aw2 : NX := ⟨[⟨1, ab, false⟩, ⟨2, cc, false⟩], 0⟩
def aw3 : NX := ⟨[⟨2, cc, false⟩, ⟨1, ab, false⟩], 0⟩
def aw4 : NX := ⟨[⟨1, ab, false⟩], 0⟩
theorem ab1 : nSend ⟨[], 0⟩ 1 ab = (aw1, 0) := rfl
theorem ab2 : nSend aw1 2 cc = (aw2, 0) := rfl
theorem ab3 : nMove aw2 0 = (aw3, 0) := rfl
theorem ab4 : nTake aw3 0 = (aw4, ⟨2, cc, false⟩, 0) := rfl
set_option maxHeartbeats 4000000 in
theorem awake_calls (w : World) : Calls Try.prog 8 #[] w fun e w' => e = .returned (.bool true) ∧ Below w.heap.size w w' := by
  have P0 := Aside0.mk (NetAt.start w)
  have B0 := Aside0.mk (below_alloc (Below.refl w.heap.size w) (.cells #[.slice none 0 0, .int .i64 0] 25 (0, 0)))
  go_enter Try.func8, Try.ntmps8
  go_wp2_with (first
    | (go_at_call 9; refine (send_calls _ _ w.heap.size _ 1 (⟨#[97, 98]⟩ : ByteArray) _ P0.out (up_ok B0.out) (by decide)).mono ?_; rw [ab1]; rintro e w1 ⟨rfl, hb, _, hP⟩; have P1 := Aside0.mk hP; have B1 := Aside0.mk (B0.out.trans hb); clear hP hb P0 B0)
    | (go_at_call 9; refine (send_calls _ _ w.heap.size _ 2 (⟨#[99]⟩ : ByteArray) _ P1.out (up_ok B1.out) (by decide)).mono ?_; rw [ab2]; rintro e w2 ⟨rfl, hb, _, hP⟩; have P2 := Aside0.mk hP; have B2 := Aside0.mk (B1.out.trans hb); clear hP hb P1 B1)
    | (go_at_call 18; refine (move_calls _ _ w.heap.size _ 0 _ P2.out (up_ok B2.out)).mono ?_; rw [ab3]; rintro e w3 ⟨rfl, hb, _, hP⟩; have P3 := Aside0.mk hP; have B3 := Aside0.mk (B2.out.trans hb); clear hP hb P2 B2)
    | (go_at_call 10; refine (len_calls _ _ w.heap.size _ _ P3.out).mono ?_; rintro e w4 ⟨rfl, rfl⟩)
    | (go_at_call 13; refine (take_calls _ _ w.heap.size _ 0 _ P3.out (up_ok B3.out)).mono ?_; rw [ab4]; simp only [aggP]; rintro e w5 ⟨rfl, hb, _, hP⟩; have P5 := Aside0.mk hP; have B5 := Aside0.mk (B3.out.trans hb); clear hP hb P3 B3))
  go_ret
  exact ⟨rfl, B5.out.alloc B5.out.size _⟩
end Go.Proofs.Ytmcdgachfkkpeaa.ONet
