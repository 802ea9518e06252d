/- tillerref16.Take at any place. -/
import Derived.Test.YtmcdgachfkkpeaaODoes
set_option linter.unusedVariables false
set_option linter.unusedSimpArgs false
namespace Go.Proofs.Ytmcdgachfkkpeaa.ONet
open Go.RowKit Go.Proofs.YtmcdgachfkkpeaaW.PrintWords Go.Proofs.YtmcdgachfkkpeaaW.PrintLast Go.Proofs.YtmcdgachfkkpeaaW.PrintMore Go.Proofs.Ytmcdgachfkkpeaa.GQ
theorem rtake_any (S : Nat → Prop) (A : Option Addr) (c : Nat) (X : NX) (i : Int) (w : World) (h : Ref S w A c X.way) (hl : X.way.length ≤ 256) :
    Calls Try.prog 24 #[.agg #[.slice A X.way.length c, .int .i64 X.lost], .int .i64 i] w fun e w' => ∃ A' c', e = .returned (.tuple #[.agg #[.slice A' (nTake X i).1.way.length c', .int .i64 (nTake X i).1.lost], .agg #[.int .i64 (nTake X i).2.1.f0, .string (nTake X i).2.1.f1, .bool (nTake X i).2.1.f2], .int .i64 (nTake X i).2.2]) ∧ Ref (grew S w w') w' A' c' (nTake X i).1.way ∧ Below w.heap.size w w' := by
  obtain ⟨hc, hC⟩ := h.reads
  by_cases hi : i < 0 ∨ i ≥ X.way.length
  · have e0 : nTake X i = (X, z35, 8) := by unfold nTake; rw [if_pos hi]
    rw [e0]
    refine (rtake_none A X.way.length c X.way X.lost i w hC hc hi).mono ?_
    rintro e w' ⟨rfl, hb⟩
    exact ⟨A, c, rfl, h.grow hb, hb⟩
  · obtain ⟨n, rfl⟩ : ∃ n : Nat, i = (n : Int) := ⟨i.toNat, (Int.toNat_of_nonneg (by omega)).symm⟩
    have e0 : nTake X (n : Int) = (⟨X.way.eraseIdx n, X.lost⟩, pcl X.way n, 0) := by unfold nTake; rw [if_neg hi, Int.toNat_natCast]
    rw [e0]
    refine (rtake_some A c X.way X.lost n w hC hc (by omega) hl).mono ?_
    rintro e w' ⟨v0, rfl, hR, hb⟩
    obtain ⟨A', c', rfl, h2⟩ := Ref.new (S := S) h.2 hb (Kd.V_mono (Kd.R_V (Kd.R_bound hR)) (fun k hk => .inr hk.2.1))
    exact ⟨A', c', rfl, h2, hb⟩
end Go.Proofs.Ytmcdgachfkkpeaa.ONet
