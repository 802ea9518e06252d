/- The calls that a law is handed: rows of three numbers. -/
import Derived.Test.YtmbbaalpeomnlaaOInv
import Derived.Test.YtmbbaalpeomnlaaOAwake
set_option linter.unusedVariables false
set_option linter.unusedSimpArgs false
namespace Go.Proofs.Ytmbbaalpeomnlaa.GQ
open Go.RowKit Go.Proofs.YtmbbaalpeomnlaaW.PrintWords Go.Proofs.YtmbbaalpeomnlaaW.PrintLast Go.Proofs.YtmbbaalpeomnlaaW.PrintMore
def act (xs : List S47) (i : Int) : S47 := xs.getD i.toNat z47
theorem at_act {w : World} {A : Option Addr} {n : Nat} {xs : List S47} (h : Kd.C k47 w A n xs) (i : Int) (h0 : 0 ≤ i) (h1 : i < n) : ∃ ad , A = some ad ∧ w.cell? (ad.add (i.toNat * 3)) = some (.int .i64 (act xs i).f0) ∧ w.cell? ⟨(ad.add (i.toNat * 3)).block, (ad.add (i.toNat * 3)).off + 1, none⟩ = some (.int .i64 (act xs i).f1) ∧ w.cell? ⟨(ad.add (i.toNat * 3)).block, (ad.add (i.toNat * 3)).off + 2, none⟩ = some (.int .i64 (act xs i).f2) :=
  at_T47 h i h0 h1
end Go.Proofs.Ytmbbaalpeomnlaa.GQ
namespace Go.Proofs.Ytmbbaalpeomnlaa.OPool
open Go.RowKit Go.Proofs.YtmbbaalpeomnlaaW.PrintWords Go.Proofs.YtmbbaalpeomnlaaW.PrintLast Go.Proofs.YtmbbaalpeomnlaaW.PrintMore Go.Proofs.Ytmbbaalpeomnlaa.GQ
theorem PoolAt.mono {base : Nat} {ok ok' : Nat → Prop} {W : World} {g : Nat} {X : PX} (h : PoolAt base ok W g X) (hs : ∀ k, ok k → ok' k) : PoolAt base ok' W g X := by
  obtain ⟨b, A, c, h1, h2, h3, h4, h5, h6, h7⟩ := h
  exact ⟨b, A, c, h1, h2, hs _ h3, h4, hs _ h5, Kd.Q_mono h6 hs, h7⟩
/-- A block that is laid beside the pool is none of its own. -/
theorem PoolAt.beside {base : Nat} {ok : Nat → Prop} {W : World} {g : Nat} {X : PX} (h : PoolAt base ok W g X) (o : Obj) : PoolAt base (fun k => ok k ∧ k ≠ W.heap.size) (W.alloc o) g X := by
  obtain ⟨b, A, c, h1, h2, h3, h4, h5, h6, h7⟩ := h
  have l1 := blk_lt h1.1
  have l2 := blk_lt h1.2
  exact ⟨b, A, c, h1.step (below_alloc (Below.refl _ _) o), h2, ⟨h3, by omega⟩, h4, ⟨h5, by omega⟩, Kd.Q_alloc (Kd.Q_elderB h6 _ (Nat.le_refl _)) o, h7⟩
end Go.Proofs.Ytmbbaalpeomnlaa.OPool
