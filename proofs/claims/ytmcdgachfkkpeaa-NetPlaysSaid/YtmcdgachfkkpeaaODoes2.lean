/- tillerlaw16.does at no known kind, walked by hand. -/
import Derived.Test.YtmcdgachfkkpeaaODoes
set_option linter.unusedVariables false
set_option linter.unusedSimpArgs false
namespace Go.Proofs.Ytmcdgachfkkpeaa.ONet
open Go.RowKit Go.Proofs.YtmcdgachfkkpeaaW.PrintWords Go.Proofs.YtmcdgachfkkpeaaW.PrintLast Go.Proofs.YtmcdgachfkkpeaaW.PrintMore Go.Proofs.Ytmcdgachfkkpeaa.GQ
set_option maxHeartbeats 8000000 in
set_option maxRecDepth 100000 in
theorem does_other (base : Nat) (S T : Nat → Prop) (g : Nat) (X : NX) (A : Option Addr) (c : Nat) (K I At : Int) (F : ByteArray) (B : Int) (w : World) (hN : NetAt base (ap base T) w g X) (hR : Ref S w A c X.way) (hST : ∀ k, S k → T k) (hT : ∀ k, T k → k < w.heap.size) (hb : base ≤ w.heap.size) (hK : ¬ K = 1 ∧ ¬ K = 2 ∧ ¬ K = 3 ∧ ¬ K = 4 ∧ ¬ K = 5 ∧ ¬ K = 6) :
    Calls Try.prog 17 #[.pointer (some ⟨g, 0, none⟩), .agg #[.slice A X.way.length c, .int .i64 X.lost], .agg #[.int .i64 K, .int .i64 I, .int .i64 At, .string F, .int .u32 B]] w fun e w' => DPost base S T w g X e w' := by
  have HN := Aside0.mk hN
  have HR := Aside0.mk hR
  have HST := Aside0.mk hST
  have HTT := Aside0.mk hT
  clear hST hT
  have HB := Aside0.mk hb
  have k1 : (K == 1) = false := beq_eq_false_iff_ne.mpr hK.1
  have k2 : (K == 2) = false := beq_eq_false_iff_ne.mpr hK.2.1
  have k3 : (K == 3) = false := beq_eq_false_iff_ne.mpr hK.2.2.1
  have k4 : (K == 4) = false := beq_eq_false_iff_ne.mpr hK.2.2.2.1
  have k5 : (K == 5) = false := beq_eq_false_iff_ne.mpr hK.2.2.2.2.1
  have k6 : (K == 6) = false := beq_eq_false_iff_ne.mpr hK.2.2.2.2.2
  have hW := (((Below.refl w.heap.size w).alloc (Nat.le_refl _) (.cells #[.slice A X.way.length c, .int .i64 X.lost] 47 (0, 0))).alloc (by rw [World.size_alloc]; omega) (.cells (boxA K I At F B) 52 (0, 0))).alloc (by rw [World.size_alloc, World.size_alloc]; omega) (.cells #[.slice A X.way.length c, .int .i64 X.lost] 47 (0, 0))
  have e1 : (w.alloc (.cells #[.slice A X.way.length c, .int .i64 X.lost] 47 (0, 0))).heap.size = w.heap.size + 1 := World.size_alloc _ _
  have e2 : ((w.alloc (.cells #[.slice A X.way.length c, .int .i64 X.lost] 47 (0, 0))).alloc (.cells (boxA K I At F B) 52 (0, 0))).heap.size = w.heap.size + 1 + 1 := by rw [World.size_alloc, e1]
  have m6 := blk_new ((w.alloc (.cells #[.slice A X.way.length c, .int .i64 X.lost] 47 (0, 0))).alloc (.cells (boxA K I At F B) 52 (0, 0))) (.cells #[.slice A X.way.length c, .int .i64 X.lost] 47 (0, 0))
  rw [e2] at m6
  have M6 := Aside0.mk m6
  have BW := Aside0.mk hW
  clear hN hR hb hK hW e1 e2 m6
  go_enter Try.func17, Try.ntmps17
  go_wp2
  refine bodyPost_ret (results_ct rfl _ _ (w.heap.size + 1 + 1) 47 #[.slice A X.way.length c, .int .i64 X.lost] (0, 0) _ rfl M6.out Try.underlying47 rfl (by kernel_rfl)) rfl ⟨S, _, A, c, rfl, HN.out.beside_new BW.out, HR.out.below BW.out, fun k hk => .inl hk, fun k hk => hk.elim (fun h => .inl (HST.out k h)) .inl, fun k hk => hk.elim (fun h => Nat.lt_of_lt_of_le (HTT.out k h) BW.out.size) (fun h => h.2), BW.out.mono HB.out, Kept.of_below BW.out _⟩
end Go.Proofs.Ytmcdgachfkkpeaa.ONet
