/- A router's entries as rows of numbers and of slices (the slices' own rows apart). -/
import Derived.Test.YthihgiaflbaigaaGQx0
import Derived.Test.YthihgiaflbaigaaOTrieAll
import Derived.Outline
set_option linter.unusedVariables false
set_option linter.unusedSimpArgs false
namespace Go.Proofs.Ythihgiaflbaigaa.ORouter
open Go.RowKit Go.Proofs.YthihgiaflbaigaaW.PrintWords Go.Proofs.YthihgiaflbaigaaW.PrintLast Go.Proofs.YthihgiaflbaigaaW.PrintMore Go.Proofs.Ythihgiaflbaigaa.GQ Go.Proofs.Ythihgiaflbaigaa.OMap Go.Proofs.Ythihgiaflbaigaa.UTrie Go.Proofs.Ythihgiaflbaigaa.OTrie
abbrev kB := Kd.bool
/-- A slice as it stands in a cell. -/
abbrev SL := Option Addr × Nat × Nat
def SL.v (x : SL) : Value := .slice x.1 x.2.1 x.2.2
def kSl : Kd SL := Kd.scalar SL.v (fun _ => rfl)
/-- An entry's cells. -/
structure ME where
  req : Int
  tr : Int
  pf : Int
  dc : Int
  pr : SL
  most : Int
  at_ : Int
  en : Int
  an : SL
def zM : ME := ⟨0, 0, 0, 0, (none, 0, 0), 0, 0, 0, (none, 0, 0)⟩
def kE : Kd ME := Kd.iso (Kd.pair (Kd.int .i64) (Kd.pair (Kd.int .i64) (Kd.pair (Kd.int .i64) (Kd.pair (Kd.int .i64) (Kd.pair kSl (Kd.pair (Kd.int .i64) (Kd.pair (Kd.int .i64) (Kd.pair (Kd.int .i64) kSl)))))))) (fun x : ME => (x.req, x.tr, x.pf, x.dc, x.pr, x.most, x.at_, x.en, x.an))
/-- The cells of an entry. -/
def ME.cells (x : ME) : List Value := [.int .i64 x.req, .int .i64 x.tr, .int .i64 x.pf, .int .i64 x.dc, x.pr.v, .int .i64 x.most, .int .i64 x.at_, .int .i64 x.en, x.an.v]
theorem kE_open {w : World} {x : ME} {cs : List Value} (h : kE.K w x cs) : cs = x.cells := by
  obtain ⟨_, _, rfl, rfl, ⟨_, _, rfl, rfl, ⟨_, _, rfl, rfl, ⟨_, _, rfl, rfl, ⟨_, _, rfl, rfl, ⟨_, _, rfl, rfl, ⟨_, _, rfl, rfl, ⟨_, _, rfl, rfl, rfl⟩⟩⟩⟩⟩⟩⟩⟩ := h
  rfl
theorem kE_mkM (w : World) (base : Nat) (ok : Nat → Prop) (x : ME) : kE.M w base ok x x.cells :=
  ⟨[.int .i64 x.req], [.int .i64 x.tr, .int .i64 x.pf, .int .i64 x.dc, x.pr.v, .int .i64 x.most, .int .i64 x.at_, .int .i64 x.en, x.an.v], rfl, rfl, ⟨[.int .i64 x.tr], [.int .i64 x.pf, .int .i64 x.dc, x.pr.v, .int .i64 x.most, .int .i64 x.at_, .int .i64 x.en, x.an.v], rfl, rfl, ⟨[.int .i64 x.pf], [.int .i64 x.dc, x.pr.v, .int .i64 x.most, .int .i64 x.at_, .int .i64 x.en, x.an.v], rfl, rfl, ⟨[.int .i64 x.dc], [x.pr.v, .int .i64 x.most, .int .i64 x.at_, .int .i64 x.en, x.an.v], rfl, rfl, ⟨[x.pr.v], [.int .i64 x.most, .int .i64 x.at_, .int .i64 x.en, x.an.v], rfl, rfl, ⟨[.int .i64 x.most], [.int .i64 x.at_, .int .i64 x.en, x.an.v], rfl, rfl, ⟨[.int .i64 x.at_], [.int .i64 x.en, x.an.v], rfl, rfl, ⟨[.int .i64 x.en], [x.an.v], rfl, rfl, rfl⟩⟩⟩⟩⟩⟩⟩⟩
theorem kE_mk (w : World) (x : ME) : kE.K w x x.cells :=
  ⟨[.int .i64 x.req], [.int .i64 x.tr, .int .i64 x.pf, .int .i64 x.dc, x.pr.v, .int .i64 x.most, .int .i64 x.at_, .int .i64 x.en, x.an.v], rfl, rfl, ⟨[.int .i64 x.tr], [.int .i64 x.pf, .int .i64 x.dc, x.pr.v, .int .i64 x.most, .int .i64 x.at_, .int .i64 x.en, x.an.v], rfl, rfl, ⟨[.int .i64 x.pf], [.int .i64 x.dc, x.pr.v, .int .i64 x.most, .int .i64 x.at_, .int .i64 x.en, x.an.v], rfl, rfl, ⟨[.int .i64 x.dc], [x.pr.v, .int .i64 x.most, .int .i64 x.at_, .int .i64 x.en, x.an.v], rfl, rfl, ⟨[x.pr.v], [.int .i64 x.most, .int .i64 x.at_, .int .i64 x.en, x.an.v], rfl, rfl, ⟨[.int .i64 x.most], [.int .i64 x.at_, .int .i64 x.en, x.an.v], rfl, rfl, ⟨[.int .i64 x.at_], [.int .i64 x.en, x.an.v], rfl, rfl, ⟨[.int .i64 x.en], [x.an.v], rfl, rfl, rfl⟩⟩⟩⟩⟩⟩⟩⟩
def rdE (xs : List ME) (i : Int) : ME := xs.getD i.toNat zM
theorem at_E {w : World} {A : Option Addr} {n : Nat} {xs : List ME} (h : Kd.C kE w A n xs) (i : Int) (h0 : 0 ≤ i) (h1 : i < n) : ∃ ad, A = some ad ∧ w.cell? (ad.add (i.toNat * 9)) = some (.int .i64 (rdE xs i).req) ∧ w.cell? ⟨(ad.add (i.toNat * 9)).block, (ad.add (i.toNat * 9)).off + 1, none⟩ = some (.int .i64 (rdE xs i).tr) ∧ w.cell? ⟨(ad.add (i.toNat * 9)).block, (ad.add (i.toNat * 9)).off + 2, none⟩ = some (.int .i64 (rdE xs i).pf) ∧ w.cell? ⟨(ad.add (i.toNat * 9)).block, (ad.add (i.toNat * 9)).off + 3, none⟩ = some (.int .i64 (rdE xs i).dc) ∧ w.cell? ⟨(ad.add (i.toNat * 9)).block, (ad.add (i.toNat * 9)).off + 4, none⟩ = some (rdE xs i).pr.v ∧ w.cell? ⟨(ad.add (i.toNat * 9)).block, (ad.add (i.toNat * 9)).off + 5, none⟩ = some (.int .i64 (rdE xs i).most) ∧ w.cell? ⟨(ad.add (i.toNat * 9)).block, (ad.add (i.toNat * 9)).off + 6, none⟩ = some (.int .i64 (rdE xs i).at_) ∧ w.cell? ⟨(ad.add (i.toNat * 9)).block, (ad.add (i.toNat * 9)).off + 7, none⟩ = some (.int .i64 (rdE xs i).en) ∧ w.cell? ⟨(ad.add (i.toNat * 9)).block, (ad.add (i.toNat * 9)).off + 8, none⟩ = some (rdE xs i).an.v := by
  obtain ⟨ad, c, e, _, hK, hc0⟩ := Kd.C_get h zM i h0 h1
  have hk := kE_open hK
  subst hk
  have hc : ∀ j u, (rdE xs i).cells[j]? = some u → w.cell? (ad.add (i.toNat * 9 + j)) = some u := fun j u hj => hc0 j u hj
  exact ⟨ad, e, hc 0 _ rfl, by rw [← add_field _ _ 1 (by omega)]; exact hc 1 _ rfl, by rw [← add_field _ _ 2 (by omega)]; exact hc 2 _ rfl, by rw [← add_field _ _ 3 (by omega)]; exact hc 3 _ rfl, by rw [← add_field _ _ 4 (by omega)]; exact hc 4 _ rfl, by rw [← add_field _ _ 5 (by omega)]; exact hc 5 _ rfl, by rw [← add_field _ _ 6 (by omega)]; exact hc 6 _ rfl, by rw [← add_field _ _ 7 (by omega)]; exact hc 7 _ rfl, by rw [← add_field _ _ 8 (by omega)]; exact hc 8 _ rfl⟩
end Go.Proofs.Ythihgiaflbaigaa.ORouter
