/- (*Router).next, walked by hand. -/
import Derived.Test.YthihgiaflbaigaaOR0
import Derived.LoopN
import Derived.BigQuiet
set_option linter.unusedVariables false
set_option linter.unusedSimpArgs false
namespace Go.Proofs.Ythihgiaflbaigaa.ORouter
open Go.RowKit Go.Proofs.YthihgiaflbaigaaW.PrintWords Go.Proofs.YthihgiaflbaigaaW.PrintLast Go.Proofs.YthihgiaflbaigaaW.PrintMore Go.Proofs.Ythihgiaflbaigaa.GQ Go.Proofs.Ythihgiaflbaigaa.OMap Go.Proofs.Ythihgiaflbaigaa.UTrie Go.Proofs.Ythihgiaflbaigaa.OTrie
/-- The next node in turn from a place, so many tries; the turn then. -/
def nextR (out : List Bool) (first n : Int) : Nat → Int → Int × Int
  | 0, t => (0, t)
  | k + 1, t => if out.getD (first + t).toNat false = true then nextR out first n k ((t + 1) % n) else (first + t, (t + 1) % n)
def RX.turn (S : RX) (b : Bool) : Int := if b then S.t1 else S.t0
def RX.setTurn (S : RX) (b : Bool) (t : Int) : RX := if b then { S with t1 := t } else { S with t0 := t }
theorem RX.turn_set (S : RX) (b : Bool) (t : Int) : (S.setTurn b t).turn b = t := by cases b <;> rfl
theorem RX.set_set (S : RX) (b : Bool) (t t' : Int) : (S.setTurn b t).setTurn b t' = S.setTurn b t' := by cases b <;> rfl
theorem RX.set_self (S : RX) (b : Bool) : S.setTurn b (S.turn b) = S := by cases b <;> rfl
theorem RX.set_out (S : RX) (b : Bool) (t : Int) : (S.setTurn b t).out = S.out := by cases b <;> rfl
def wh (b : Bool) : Nat := if b then 12 else 11
theorem RT.turn_cell {W : World} {g lo : Nat} {S : RX} {L : Lo} (h : RT W g lo S L) (b : Bool) : W.cell? ⟨g, wh b, none⟩ = some (.int .i64 (S.turn b)) ∧ W.frozen? ⟨g, wh b, none⟩ = false := by
  cases b
  · exact h.box.cell 11 rfl
  · exact h.box.cell 12 rfl
theorem RT.setTurn {W : World} {g lo : Nat} {S : RX} {L : Lo} (h : RT W g lo S L) (b : Bool) (t : Int) : RT (W.setCell ⟨g, wh b, none⟩ (.int .i64 t)) g lo (S.setTurn b t) L ∧ RPost lo W (W.setCell ⟨g, wh b, none⟩ (.int .i64 t)) L L := by
  cases b
  · exact h.put (S' := S.setTurn false t) 11 _ (by omega) rfl rfl rfl rfl rfl
  · exact h.put (S' := S.setTurn true t) 12 _ (by omega) rfl rfl rfl rfl rfl
theorem RPost.step {lo : Nat} {w w1 w2 : World} {L L1 : Lo} (h : RPost lo w w1 L L1) (hl : lo ≤ w1.heap.size) (hb : Below w1.heap.size w1 w2) : RPost lo w w2 L L1 := h.trans (RPost.of_below hl hb)
theorem RT.size {W : World} {g lo : Nat} {S : RX} {L : Lo} (h : RT W g lo S L) : lo ≤ W.heap.size := Nat.le_of_lt (Nat.lt_of_le_of_lt (h.lo g h.g) (h.hi g h.g))
theorem mod_lt {t n : Int} (hn : 1 ≤ n) : 0 ≤ t % n ∧ t % n < n := ⟨Int.emod_nonneg _ (by omega), Int.emod_lt_of_pos _ (by omega)⟩
set_option maxHeartbeats 4000000 in
set_option maxRecDepth 100000 in
theorem next_calls (g lo : Nat) (S : RX) (L : Lo) (b : Bool) (first : Int) (n : Nat) (w : World) (h : RT w g lo S L) (hn : 1 ≤ n) (hn8 : n ≤ 8) (hf : 0 ≤ first ∧ first ≤ 8) (hfn : first + (n : Int) ≤ (S.out.length : Int)) (ht : 0 ≤ S.turn b ∧ S.turn b < (n : Int)) :
    Calls Try.prog 38 #[.pointer (some ⟨g, 0, none⟩), .int .i64 (if b then 1 else 0), .int .i64 first, .int .i64 n] w fun e w' => e = .returned (.int .i64 (nextR S.out first n n (S.turn b)).1) ∧ RT w' g lo (S.setTurn b (nextR S.out first n n (S.turn b)).2) L ∧ RPost lo w w' L L := by
  obtain ⟨fin, hfin⟩ : ∃ f, nextR S.out first n n (S.turn b) = f := ⟨_, rfl⟩
  rw [hfin]
  have H := Aside0.mk h
  have HB := Aside0.mk (And.intro hn (And.intro hn8 (And.intro hf hfn)))
  have HT := Aside0.mk ht
  have HF := Aside0.mk hfin
  clear h hn hn8 hf hfn ht hfin
  cases b with
  | false =>
    go_enter Try.func38, Try.ntmps38
    go_upto_region 2 with (fail)
    go_loopg [11] n (fun kq v11 W => ∃ (j : Nat) (t : Int), v11 = .int .i64 (j : Int) ∧ Aside0 (j + kq = n) ∧ Aside0 (0 ≤ t ∧ t < (n : Int)) ∧ Aside0 (RT W g lo (S.setTurn false t) L) ∧ Aside0 (RPost lo w W L L) ∧ Aside0 (nextR S.out first n kq t = fin))
    case atStart => exact ⟨0, S.turn false, rfl, ⟨Nat.zero_add _⟩, HT, ⟨by rw [RX.set_self]; exact H.out⟩, ⟨RPost.refl⟩, HF⟩
    case round =>
      obtain ⟨j, t, rfl, HJ, TT, RR, PP, FF⟩ := hrel
      have hj := HJ.out
      obtain ⟨n1, n8, ⟨f0, f8⟩, fn⟩ := HB.out
      obtain ⟨t0, t1⟩ := TT.out
      cases gk with
      | succ k =>
        have e1 : decide ((j : Int) < (n : Int)) = true := decide_eq_true (by omega)
        have e3 : j < n := by omega
        have e4 : decide (j < n) = true := decide_eq_true e3
        obtain ⟨c1, c2⟩ := RR.out.turn_cell false
        rw [RX.turn_set] at c1
        simp only [wh, Bool.false_eq_true, if_false, if_true] at c1 c2
        have q1 : Int.tmod t (n : Int) = t := by rw [Int.tmod_eq_emod_of_nonneg t0]; exact Int.emod_eq_of_lt t0 t1
        have q2 : Int.tmod (t + 1) (n : Int) = (t + 1) % (n : Int) := Int.tmod_eq_emod_of_nonneg (by omega)
        have w1 : IntKind.i64.wrap (t + 1) = t + 1 := by rw [IntKind.wrap_i64]; omega
        have w2 : IntKind.i64.wrap (first + t) = first + t := by rw [IntKind.wrap_i64]; omega
        have w3 := mod_lt (t := t + 1) (n := (n : Int)) (by omega)
        have w4 : IntKind.i64.wrap ((t + 1) % (n : Int)) = (t + 1) % (n : Int) := by rw [IntKind.wrap_i64]; omega
        have w5 : IntKind.i64.wrap t = t := by rw [IntKind.wrap_i64]; omega
        have z1 : ((n : Int) == 0) = false := beq_eq_false_iff_ne.mpr (by omega)
        have z3 : ¬ n = 0 := by omega
        have z4 : 0 ≤ first + t := by omega
        have z5 : first + t < (S.out.length : Int) := by omega
        have W3 := Aside0.mk w3
        clear hj w3
        go_upto_region 4 with (fail)
        go_region_with (fail)
        go_upto_region 5 with (fail)
        obtain ⟨R1, P1⟩ := RR.out.setTurn false ((t + 1) % (n : Int))
        rw [RX.set_set] at R1
        simp only [wh, Bool.false_eq_true, if_false, if_true] at R1 P1
        have R2 := Aside0.mk (R1.below (below_drew (Below.refl _ _)))
        have P2 := Aside0.mk ((PP.out.trans P1).step R1.size (below_drew (Below.refl _ _)))
        clear R1 P1 c1 c2 RR PP
        generalize (wr.setCell ⟨g, 11, none⟩ (.int .i64 ((t + 1) % (n : Int)))).drew = w2 at R2 P2 ⊢
        have x1 := (R2.out.box.cell 10 rfl).1
        have x2 := (Kd.R_celln false R2.out.out (first + t) z4 (by rw [RX.set_out]; omega)).1
        rw [RX.set_out] at x1 x2
        obtain ⟨ob, hob⟩ : ∃ ob, rdOf false S.out (first + t) = ob := ⟨_, rfl⟩
        rw [hob] at x2
        have hob2 : S.out.getD (first + t).toNat false = ob := hob
        have FF2 := FF.out
        rw [nextR, hob2] at FF2
        clear hob hob2 FF
        cases ob with
        | true =>
          rw [if_pos rfl] at FF2
          have FF3 := Aside0.mk FF2
          clear FF2
          go_wp2
          go_roundg k
          case measure => omega
          case rel => exact ⟨j + 1, (t + 1) % (n : Int), rfl, ⟨by have := HJ.out; omega⟩, W3, R2, P2, FF3⟩
        | false =>
          rw [if_neg (by decide)] at FF2
          have FF3 := Aside0.mk FF2
          clear FF2
          go_wp2
          go_ret
          have hff := FF3.out
          subst hff
          exact ⟨rfl, R2.out, P2.out⟩
      | zero =>
        have e1 : decide ((j : Int) < (n : Int)) = false := decide_eq_false (by omega)
        have e3 : ¬ j < n := by omega
        have e4 : decide (j < n) = false := decide_eq_false e3
        clear hj
        go_wp2
        go_ret
        have hff := FF.out
        rw [nextR] at hff
        subst hff
        exact ⟨rfl, RR.out, PP.out⟩
  | true =>
    go_enter Try.func38, Try.ntmps38
    go_upto_region 2 with (fail)
    go_loopg [11] n (fun kq v11 W => ∃ (j : Nat) (t : Int), v11 = .int .i64 (j : Int) ∧ Aside0 (j + kq = n) ∧ Aside0 (0 ≤ t ∧ t < (n : Int)) ∧ Aside0 (RT W g lo (S.setTurn true t) L) ∧ Aside0 (RPost lo w W L L) ∧ Aside0 (nextR S.out first n kq t = fin))
    case atStart => exact ⟨0, S.turn true, rfl, ⟨Nat.zero_add _⟩, HT, ⟨by rw [RX.set_self]; exact H.out⟩, ⟨RPost.refl⟩, HF⟩
    case round =>
      obtain ⟨j, t, rfl, HJ, TT, RR, PP, FF⟩ := hrel
      have hj := HJ.out
      obtain ⟨n1, n8, ⟨f0, f8⟩, fn⟩ := HB.out
      obtain ⟨t0, t1⟩ := TT.out
      cases gk with
      | succ k =>
        have e1 : decide ((j : Int) < (n : Int)) = true := decide_eq_true (by omega)
        have e3 : j < n := by omega
        have e4 : decide (j < n) = true := decide_eq_true e3
        obtain ⟨c1, c2⟩ := RR.out.turn_cell true
        rw [RX.turn_set] at c1
        simp only [wh, Bool.false_eq_true, if_false, if_true] at c1 c2
        have q1 : Int.tmod t (n : Int) = t := by rw [Int.tmod_eq_emod_of_nonneg t0]; exact Int.emod_eq_of_lt t0 t1
        have q2 : Int.tmod (t + 1) (n : Int) = (t + 1) % (n : Int) := Int.tmod_eq_emod_of_nonneg (by omega)
        have w1 : IntKind.i64.wrap (t + 1) = t + 1 := by rw [IntKind.wrap_i64]; omega
        have w2 : IntKind.i64.wrap (first + t) = first + t := by rw [IntKind.wrap_i64]; omega
        have w3 := mod_lt (t := t + 1) (n := (n : Int)) (by omega)
        have w4 : IntKind.i64.wrap ((t + 1) % (n : Int)) = (t + 1) % (n : Int) := by rw [IntKind.wrap_i64]; omega
        have w5 : IntKind.i64.wrap t = t := by rw [IntKind.wrap_i64]; omega
        have z1 : ((n : Int) == 0) = false := beq_eq_false_iff_ne.mpr (by omega)
        have z3 : ¬ n = 0 := by omega
        have z4 : 0 ≤ first + t := by omega
        have z5 : first + t < (S.out.length : Int) := by omega
        have W3 := Aside0.mk w3
        clear hj w3
        go_upto_region 4 with (fail)
        go_region_with (fail)
        go_upto_region 5 with (fail)
        obtain ⟨R1, P1⟩ := RR.out.setTurn true ((t + 1) % (n : Int))
        rw [RX.set_set] at R1
        simp only [wh, Bool.false_eq_true, if_false, if_true] at R1 P1
        have R2 := Aside0.mk (R1.below (below_drew (Below.refl _ _)))
        have P2 := Aside0.mk ((PP.out.trans P1).step R1.size (below_drew (Below.refl _ _)))
        clear R1 P1 c1 c2 RR PP
        generalize (wr.setCell ⟨g, 12, none⟩ (.int .i64 ((t + 1) % (n : Int)))).drew = w2 at R2 P2 ⊢
        have x1 := (R2.out.box.cell 10 rfl).1
        have x2 := (Kd.R_celln false R2.out.out (first + t) z4 (by rw [RX.set_out]; omega)).1
        rw [RX.set_out] at x1 x2
        obtain ⟨ob, hob⟩ : ∃ ob, rdOf false S.out (first + t) = ob := ⟨_, rfl⟩
        rw [hob] at x2
        have hob2 : S.out.getD (first + t).toNat false = ob := hob
        have FF2 := FF.out
        rw [nextR, hob2] at FF2
        clear hob hob2 FF
        cases ob with
        | true =>
          rw [if_pos rfl] at FF2
          have FF3 := Aside0.mk FF2
          clear FF2
          go_wp2
          go_roundg k
          case measure => omega
          case rel => exact ⟨j + 1, (t + 1) % (n : Int), rfl, ⟨by have := HJ.out; omega⟩, W3, R2, P2, FF3⟩
        | false =>
          rw [if_neg (by decide)] at FF2
          have FF3 := Aside0.mk FF2
          clear FF2
          go_wp2
          go_ret
          have hff := FF3.out
          subst hff
          exact ⟨rfl, R2.out, P2.out⟩
      | zero =>
        have e1 : decide ((j : Int) < (n : Int)) = false := decide_eq_false (by omega)
        have e3 : ¬ j < n := by omega
        have e4 : decide (j < n) = false := decide_eq_false e3
        clear hj
        go_wp2
        go_ret
        have hff := FF.out
        rw [nextR] at hff
        subst hff
        exact ⟨rfl, RR.out, PP.out⟩
end Go.Proofs.Ythihgiaflbaigaa.ORouter
