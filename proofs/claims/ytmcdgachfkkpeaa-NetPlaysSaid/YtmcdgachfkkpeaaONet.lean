/- A net in memory; Send, Len, Lost, Look, walked by hand. -/
import Derived.Test.YtmcdgachfkkpeaaGQx1
import Derived.Test.YtmcdgachfkkpeaaWKept
import Derived.Test.YtmcdgachfkkpeaaWQPut
import Derived.Outline
import Derived.OwnWalk
import Derived.BigQuiet
import Derived.Deep.QuietTactic
set_option linter.unusedVariables false
set_option linter.unusedSimpArgs false
namespace Go.Proofs.Ytmcdgachfkkpeaa.ONet
open Go.RowKit Go.Proofs.YtmcdgachfkkpeaaW.PrintWords Go.Proofs.YtmcdgachfkkpeaaW.PrintLast Go.Proofs.YtmcdgachfkkpeaaW.PrintMore Go.Proofs.Ytmcdgachfkkpeaa.GQ
abbrev PC := S35
abbrev kP := k35
def zP : PC := ⟨0, (⟨#[]⟩ : ByteArray), false⟩
structure NX where
  way : List PC
  lost : Int
def NetAt (base : Nat) (ok : Nat → Prop) (W : World) (g : Nat) (X : NX) : Prop :=
  ∃ A c, W.heap[g]? = some (.cells #[.slice A X.way.length c, .int .i64 X.lost] 25 (0, 0)) ∧ base ≤ g ∧ ok g ∧ kP.R 35 W base ok (.slice A X.way.length c) X.way ∧ X.way.length ≤ 256
def Post (base : Nat) (ok : Nat → Prop) (w w' : World) (g : Nat) (X : NX) : Prop := Below base w w' ∧ Kept w w' ok ∧ NetAt base ok w' g X
theorem NetAt.step {base : Nat} {ok : Nat → Prop} {W W' : World} {g : Nat} {X : NX} (h : NetAt base ok W g X) (hb : Below W.heap.size W W') : NetAt base ok W' g X := by
  obtain ⟨A, c, h1, h2, h3, h4, h5⟩ := h
  exact ⟨A, c, blk_below h1 hb, h2, h3, Kd.R_below h4 hb, h5⟩
theorem NetAt.lt {base : Nat} {ok : Nat → Prop} {W : World} {g : Nat} {X : NX} (h : NetAt base ok W g X) : base ≤ W.heap.size := by
  obtain ⟨A, c, h1, h2, _⟩ := h
  have := blk_lt h1
  omega
theorem NetAt.same {base : Nat} {ok : Nat → Prop} {W W' : World} {g : Nat} {X : NX} (h : NetAt base ok W g X) (hb : Below W.heap.size W W') : Post base ok W W' g X :=
  ⟨hb.mono h.lt, Kept.of_below hb ok, h.step hb⟩
theorem NetAt.mono {base : Nat} {ok ok' : Nat → Prop} {W : World} {g : Nat} {X : NX} (h : NetAt base ok W g X) (hs : ∀ k, ok k → ok' k) : NetAt base ok' W g X := by
  obtain ⟨A, c, h1, h2, h3, h4, h5⟩ := h
  exact ⟨A, c, h1, h2, hs _ h3, Kd.R_mono h4 hs, h5⟩
theorem kept_set (w : World) (ok : Nat → Prop) (a : Addr) (u : Value) (h : ok a.block) : Kept w (w.setCell a u) ok :=
  ⟨by simp [World.setCell], fun k _ hn => Below.heap_setCell w a u k (fun e => hn (by rw [e]; exact h))⟩
/-- A zero net, laid anew. -/
theorem NetAt.zero (W : World) (base : Nat) (ok : Nat → Prop) (hb : base ≤ W.heap.size) (hok : ok W.heap.size) : NetAt base ok (W.alloc (.cells #[.slice none 0 0, .int .i64 0] 25 (0, 0))) W.heap.size ⟨[], 0⟩ :=
  ⟨none, 0, heap_alloc_new W _, hb, hok, Kd.R_nil _ _ _ _ _, Nat.zero_le _⟩
def nSend (X : NX) (tg : Int) (f : ByteArray) : NX × Int :=
  if tg < 0 ∨ tg ≥ 8 then (X, 1)
  else if (f.size : Int) > 65536 then (X, 2)
  else if X.way.length ≥ 256 then (⟨X.way, X.lost + 1⟩, 10)
  else (⟨X.way ++ [⟨tg, f, false⟩], X.lost⟩, 0)
set_option maxHeartbeats 4000000 in
theorem send_calls (base : Nat) (ok : Nat → Prop) (g : Nat) (X : NX) (tg : Int) (f : ByteArray) (w : World) (h : NetAt base ok w g X) (hfresh : ∀ k, w.heap.size ≤ k → ok k) (hl : 0 ≤ X.lost ∧ X.lost ≤ 1000000000) :
    Calls Try.prog 9 #[.pointer (some ⟨g, 0, none⟩), .int .i64 tg, .string f] w fun e w' => e = .returned (.int .i64 (nSend X tg f).2) ∧ Post base ok w w' g (nSend X tg f).1 := by
  have hX := h
  obtain ⟨A, c, h1, h2, h3, h4, h5⟩ := h
  have g0 := blk_cell h1 0
  have g1 := blk_cell h1 1
  have z0 := blk_frozen h1 0
  have z1 := blk_frozen h1 1
  simp at g0 g1
  have P0 := Aside0.mk (hX.same (Below.refl _ _))
  have hl1 := hl.1
  have hl2 := hl.2
  clear hl
  by_cases c1 : tg < 0
  · have e0 : nSend X tg f = (X, 1) := by unfold nSend; rw [if_pos (.inl c1)]
    rw [e0]
    have d1 : decide (tg < 0) = true := decide_eq_true c1
    clear h1 h4 hX e0 c1
    go_enter Try.func9, Try.ntmps9
    go_wp2
    go_ret
    exact ⟨rfl, P0.out⟩
  have d1 : decide (tg < 0) = false := decide_eq_false c1
  by_cases c2 : tg ≥ 8
  · have e0 : nSend X tg f = (X, 1) := by unfold nSend; rw [if_pos (.inr c2)]
    rw [e0]
    have d2 : decide (tg ≥ 8) = true := decide_eq_true c2
    clear h1 h4 hX e0 c1 c2
    go_enter Try.func9, Try.ntmps9
    go_wp2
    go_ret
    exact ⟨rfl, P0.out⟩
  have d2 : decide (tg ≥ 8) = false := decide_eq_false c2
  by_cases c3 : (f.size : Int) > 65536
  · have e0 : nSend X tg f = (X, 2) := by unfold nSend; rw [if_neg (by omega), if_pos c3]
    rw [e0]
    have d3 : decide ((f.size : Int) > 65536) = true := decide_eq_true c3
    have d3' : 65536 < f.size := by omega
    clear h1 h4 hX e0 c1 c2 c3
    go_enter Try.func9, Try.ntmps9
    go_wp2
    go_ret
    exact ⟨rfl, P0.out⟩
  have d3 : decide ((f.size : Int) > 65536) = false := decide_eq_false c3
  have d3' : ¬ 65536 < f.size := by omega
  by_cases c4 : X.way.length ≥ 256
  · have e0 : nSend X tg f = (⟨X.way, X.lost + 1⟩, 10) := by unfold nSend; rw [if_neg (by omega), if_neg c3, if_pos c4]
    rw [e0]
    have d4 : decide ((X.way.length : Int) ≥ 256) = true := decide_eq_true (by omega)
    have d4' : 256 ≤ X.way.length := c4
    have P := Aside0.mk (show Post base ok w (w.setCell ⟨g, 1, none⟩ (.int .i64 (X.lost + 1))) g ⟨X.way, X.lost + 1⟩ from
      ⟨(Below.refl _ _).setCell h2 _, kept_set _ ok _ _ h3, A, c, by simpa using blk_set h1 1 (.int .i64 (X.lost + 1)), h2, h3, Kd.R_set h4 h1 (by decide) _ _, h5⟩)
    clear h1 h4 hX e0 c1 c2 c3 c4
    go_enter Try.func9, Try.ntmps9
    go_wp2
    go_ret
    exact ⟨rfl, P.out⟩
  have d4 : decide ((X.way.length : Int) ≥ 256) = false := decide_eq_false (by omega)
  have d4' : ¬ 256 ≤ X.way.length := c4
  have e0 : nSend X tg f = (⟨X.way ++ [⟨tg, f, false⟩], X.lost⟩, 0) := by unfold nSend; rw [if_neg (by omega), if_neg c3, if_neg c4]
  rw [e0]
  have H1 := Aside0.mk h1
  have H4 := Aside0.mk h4
  have HL := Aside0.mk c4
  have LT := Aside0.mk (show base ≤ w.heap.size from hX.lt)
  clear h1 h4 hX e0 c1 c2 c3 c4
  go_enter Try.func9, Try.ntmps9
  go_wp2_with ((with_reducible refine gate_builtin (b := .append) (xs := #[.tmp 36, .tmp 40]) rfl ?_); refine Kd.R_append kP (w0 := w) base rfl (.tmp 36) (.tmp 40) 23 35 (.agg #[.int .i64 0, .string ⟨#[]⟩, .bool false]) 32 rfl Try.underlying23 info35 rfl (by decide) (by omega) (.slice A X.way.length c) X.way ⟨tg, f, false⟩ [.int .i64 tg, .string f, .bool false] ok (fun _ => False) rfl rfl ?aP (fun _ hk => hk.elim) ?aF ?aO ?aB ?aS ?aL ?_; (case aP => exact k35_mkM _ _ _ ⟨tg, f, false⟩); (case aF => exact hfresh); (case aO => exact H4.out); (case aB => exact Below.refl _ _); (case aS => exact LT.out); (case aL => have := HL.out; omega); intro v1 w2 ho hb hg hat; obtain ⟨A2, c2, rfl⟩ := Kd.R_slice ho; have hg1 := blk_grown H1.out hg (Kd.R_ne H4.out H1.out (by decide)); have y4 := blk_frozen hg1 0; have y5 := blk_cell hg1 0; simp at y5; have P := Aside0.mk (And.intro ho (And.intro hb (And.intro hg1 (Kept.of_grown hg (Kept.refl w ok) (fun k hk => .inl (H4.out.1 k hk)))))); clear ho hb hg hat hg1)
  go_ret
  obtain ⟨ho, hb, hg1, hk⟩ := P.out
  have hl : (X.way ++ [(⟨tg, f, false⟩ : PC)]).length = X.way.length + 1 := by simp
  refine ⟨rfl, hb.setCell h2 _, hk.then_ (kept_set _ ok _ _ h3) (fun _ h => .inl h), A2, c2, ?_, h2, h3, ?_, ?_⟩
  · show _ = some (Obj.cells #[.slice A2 (X.way ++ [(⟨tg, f, false⟩ : PC)]).length c2, .int .i64 X.lost] 25 (0, 0))
    rw [hl]
    simpa using blk_set hg1 0 (.slice A2 (X.way.length + 1) c2)
  · exact Kd.R_set ho hg1 (by decide) _ _
  · show (X.way ++ [(⟨tg, f, false⟩ : PC)]).length ≤ 256
    have := HL.out
    rw [hl]
    omega
theorem len_calls (base : Nat) (ok : Nat → Prop) (g : Nat) (X : NX) (w : World) (h : NetAt base ok w g X) :
    Calls Try.prog 10 #[.pointer (some ⟨g, 0, none⟩)] w fun e w' => e = .returned (.int .i64 (X.way.length : Int)) ∧ w = w' := by
  obtain ⟨A, c, h1, h2, h3, h4, h5⟩ := h
  have g0 := blk_cell h1 0
  simp at g0
  clear h1 h4
  go_enter Try.func10, Try.ntmps10
  go_wp2
  go_ret
  exact ⟨rfl, rfl⟩
theorem lost_calls (base : Nat) (ok : Nat → Prop) (g : Nat) (X : NX) (w : World) (h : NetAt base ok w g X) :
    Calls Try.prog 11 #[.pointer (some ⟨g, 0, none⟩)] w fun e w' => e = .returned (.int .i64 X.lost) ∧ w = w' := by
  obtain ⟨A, c, h1, h2, h3, h4, h5⟩ := h
  have g1 := blk_cell h1 1
  simp at g1
  clear h1 h4
  go_enter Try.func11, Try.ntmps11
  go_wp2
  go_ret
  exact ⟨rfl, rfl⟩
def pcl (xs : List PC) (i : Int) : PC := xs.getD i.toNat z35
def nLook (X : NX) (i : Int) : PC × Int := if i < 0 ∨ i ≥ X.way.length then (z35, 8) else (pcl X.way i, 0)
def aggP (p : PC) : Value := .agg #[.int .i64 p.f0, .string p.f1, .bool p.f2]
set_option maxHeartbeats 4000000 in
theorem look_calls (base : Nat) (ok : Nat → Prop) (g : Nat) (X : NX) (i : Int) (w : World) (h : NetAt base ok w g X) :
    Calls Try.prog 15 #[.pointer (some ⟨g, 0, none⟩), .int .i64 i] w fun e w' => e = .returned (.tuple #[aggP (nLook X i).1, .int .i64 (nLook X i).2]) ∧ Below w.heap.size w w' := by
  obtain ⟨A, c, h1, h2, h3, h4, h5⟩ := h
  have g0 := blk_cell h1 0
  simp at g0
  have hlt := blk_lt h1
  by_cases c1 : i < 0
  · have e0 : nLook X i = (z35, 8) := by unfold nLook; rw [if_pos (.inl c1)]
    rw [e0]
    have d1 : decide (i < 0) = true := decide_eq_true c1
    clear h1 h4 e0 c1
    go_enter Try.func15, Try.ntmps15
    go_wp2
    exact bodyPost_ret (v := .tuple #[aggP z35, .int .i64 8]) (by simp [results, Try.results15, go_sem, aggP, z35]) rfl ⟨rfl, (Below.refl _ _).alloc (Nat.le_refl _) _⟩
  have d1 : decide (i < 0) = false := decide_eq_false c1
  by_cases c2 : i ≥ X.way.length
  · have e0 : nLook X i = (z35, 8) := by unfold nLook; rw [if_pos (.inr c2)]
    rw [e0]
    have d2 : decide (i ≥ (X.way.length : Int)) = true := decide_eq_true c2
    clear h1 h4 e0 c1 c2
    go_enter Try.func15, Try.ntmps15
    go_wp2
    exact bodyPost_ret (v := .tuple #[aggP z35, .int .i64 8]) (by simp [results, Try.results15, go_sem, aggP, z35]) rfl ⟨rfl, (Below.refl _ _).alloc (Nat.le_refl _) _⟩
  · have e0 : nLook X i = (pcl X.way i, 0) := by unfold nLook; rw [if_neg (by omega)]
    rw [e0]
    have d2 : decide (i ≥ (X.way.length : Int)) = false := decide_eq_false c2
    have p1 : 0 ≤ i := by omega
    have q1 : i < (X.way.length : Int) := by omega
    obtain ⟨_, hcap, hC⟩ := Kd.R_reads' h4
    obtain ⟨ad, ea, k0, k1, k2⟩ := at_T35 hC i p1 q1
    have hp : rd_T35 X.way i = pcl X.way i := rfl
    rw [hp] at k0 k1 k2
    have p2 := eq_true p1
    have q2 := eq_true q1
    have hb := World.block_lt_of_cell? w _ k0
    have hk : ∀ (o : Obj) (a : Addr) (u : Value), w.cell? a = some u → (w.alloc o).cell? a = some u := fun o a u hu => (World.cell?_alloc_lt _ _ _ (World.block_lt_of_cell? w _ hu)).trans hu
    have m0 := hk (.cells #[.int .i64 0, .string ⟨#[]⟩, .bool false] 35 (0, 0)) _ _ k0
    have m1 := hk (.cells #[.int .i64 0, .string ⟨#[]⟩, .bool false] 35 (0, 0)) _ _ k1
    have m2 := hk (.cells #[.int .i64 0, .string ⟨#[]⟩, .bool false] 35 (0, 0)) _ _ k2
    generalize pcl X.way i = p at k0 k1 k2 m0 m1 m2 ⊢
    clear h1 h4 e0 c1 c2 hC hp hcap p1 q1 hk hb
    cases ea
    go_enter Try.func15, Try.ntmps15
    go_wp2
    exact bodyPost_ret (v := .tuple #[aggP p, .int .i64 0]) (by simp [results, Try.results15, go_sem, aggP]) rfl ⟨rfl, (Below.refl _ _).alloc (Nat.le_refl _) _⟩
end Go.Proofs.Ytmcdgachfkkpeaa.ONet
