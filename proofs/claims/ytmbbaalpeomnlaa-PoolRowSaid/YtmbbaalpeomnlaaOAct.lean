/- The calls that a law is handed: rows of three numbers. -/
import Derived.Test.YtmbbaalpeomnlaaOInv
import Derived.Test.YtmbbaalpeomnlaaOAwake
set_option linter.unusedVariables false
set_option linter.unusedSimpArgs false
namespace Go.Proofs.Ytmbbaalpeomnlaa.GQ
open Go.RowKit Go.Proofs.YtmbbaalpeomnlaaW.PrintWords Go.Proofs.YtmbbaalpeomnlaaW.PrintLast Go.Proofs.YtmbbaalpeomnlaaW.PrintMore
structure S47 where
  f0 : Int
  f1 : Int
  f2 : Int
def z47 : S47 := ⟨(0 : Int), (0 : Int), (0 : Int)⟩
def k47 : Kd S47 := Kd.iso (Kd.pair (Kd.int .i64) (Kd.pair (Kd.int .i64) (Kd.int .i64))) (fun x : S47 => (x.f0, x.f1, x.f2))
theorem k47_open {w : World} {x : S47} {cs : List Value} (h : k47.K w x cs) : cs = [.int .i64 x.f0, .int .i64 x.f1, .int .i64 x.f2] := by
  obtain ⟨_, _, rfl, rfl, ⟨_, _, rfl, rfl, rfl⟩⟩ := h
  exact rfl
def act (xs : List S47) (i : Int) : S47 := xs.getD i.toNat z47
theorem at_act {w : World} {A : Option Addr} {n : Nat} {xs : List S47} (h : Kd.C k47 w A n xs) (i : Int) (h0 : 0 ≤ i) (h1 : i < n) : ∃ ad , A = some ad ∧ w.cell? (ad.add (i.toNat * 3)) = some (.int .i64 (act xs i).f0) ∧ w.cell? ⟨(ad.add (i.toNat * 3)).block, (ad.add (i.toNat * 3)).off + 1, none⟩ = some (.int .i64 (act xs i).f1) ∧ w.cell? ⟨(ad.add (i.toNat * 3)).block, (ad.add (i.toNat * 3)).off + 2, none⟩ = some (.int .i64 (act xs i).f2) := by
  obtain ⟨ad, c, e, _, hK, hc0⟩ := Kd.C_get h z47 i h0 h1
  have hc : ∀ j u, c[j]? = some u → w.cell? (ad.add (i.toNat * 3 + j)) = some u := hc0
  obtain rfl := k47_open hK
  exact ⟨ad, e, hc 0 _ rfl, by rw [← add_field _ _ 1 (by omega)]; exact hc 1 _ rfl, by rw [← add_field _ _ 2 (by omega)]; exact hc 2 _ rfl⟩
end Go.Proofs.Ytmbbaalpeomnlaa.GQ
namespace Go.Proofs.Ytmbbaalpeomnlaa.OPool
open Go.RowKit Go.Proofs.YtmbbaalpeomnlaaW.PrintWords Go.Proofs.YtmbbaalpeomnlaaW.PrintLast Go.Proofs.YtmbbaalpeomnlaaW.PrintMore Go.Proofs.Ytmbbaalpeomnlaa.GQ
theorem PoolAt.mono {base : Nat} {ok ok' : Nat → Prop} {W : World} {g : Nat} {X : PX} (h : PoolAt base ok W g X) (hs : ∀ k, ok k → ok' k) : PoolAt base ok' W g X := by
  obtain ⟨b, A, c, h1, h2, h3, h4, h5, h6, h7⟩ := h
  exact ⟨b, A, c, h1, h2, hs _ h3, h4, hs _ h5, Kd.Q_mono h6 hs, h7⟩
/-- A block that is laid beside the pool is none of its own. -/
theorem PoolAt.beside {base : Nat} {ok : Nat → Prop} {W : World} {g : Nat} {X : PX} (h : PoolAt base ok W g X) (o : Obj) : PoolAt base (fun k => ok k ∧ k ≠ W.heap.size) (W.alloc o) g X := by
  obtain ⟨b, A, c, h1, h2, h3, h4, h5, h6, h7⟩ := h
  have l1 := blk_lt h1.1
  have l2 := blk_lt h1.2
  exact ⟨b, A, c, h1.step (below_alloc (Below.refl _ _) o), h2, ⟨h3, by omega⟩, h4, ⟨h5, by omega⟩, Kd.Q_alloc (Kd.Q_elderB h6 _ (Nat.le_refl _)) o, h7⟩
end Go.Proofs.Ytmbbaalpeomnlaa.OPool
