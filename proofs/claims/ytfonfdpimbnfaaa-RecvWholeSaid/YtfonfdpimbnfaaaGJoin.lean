/- strings.Join as the prints take it: over the shelf's contract. -/
import Derived.Test.YtfonfdpimbnfaaaLJoin
import Derived.Test.YtfonfdpimbnfaaaWExtra
set_option linter.unusedVariables false
set_option linter.unusedSimpArgs false
namespace Go.Proofs.Ytfonfdpimbnfaaa.GJoin
open Go.Proofs Go.RowKit Go.Proofs.YtfonfdpimbnfaaaW.PrintWords Go.Proofs.YtfonfdpimbnfaaaW.PrintLast Go.Proofs.YtfonfdpimbnfaaaW.PrintMore
/-- What is joined. -/
def joined (l : List ByteArray) (sep : ByteArray) : List UInt8 := Lib.join (l.map (·.data.toList)) sep.data.toList
def strings_Join.f (l : List ByteArray) (sep : ByteArray) : Option ByteArray := if l.length ≤ 140737488355328 ∧ (joined l sep).length ≤ 140737488355328 then some ⟨(joined l sep).toArray⟩ else none
theorem strings_Join.calls (A0 : Option Addr) (c0 : Nat) (l0 : List ByteArray) (a1 : ByteArray) (r : ByteArray) (w : World) (hr0 : Kd.C Kd.string w A0 l0.length l0) (hc0 : l0.length ≤ c0) (h : strings_Join.f l0 a1 = some r) : Calls Try.prog 35 #[.slice A0 l0.length c0, .string a1] w fun e w' => e = .returned (.string r) ∧ Below w.heap.size w w' := by
  unfold strings_Join.f at h
  split at h
  · rename_i hb
    cases h
    cases hl : l0 with
    | nil =>
      refine (GLib.strings_Join_none A0 c0 a1 w).mono ?_
      rintro e w' ⟨rfl, rfl⟩
      exact ⟨rfl, Below.refl _ _⟩
    | cons x l =>
      have h0 : 0 < l0.length := by rw [hl]; simp
      obtain ⟨ad, rfl, hc⟩ := hr0.2.2 h0
      have cells : ∀ (j : Nat) y, l0[j]? = some y → w.cell? (ad.add j) = some (.string y) := by
        intro j y hy
        obtain ⟨c, hc1, hk, hcell⟩ := hc j y hy
        have hk' : c = [.string y] := hk
        subst hk'
        have : w.cell? (ad.add (j * 1 + 0)) = some (.string y) := hcell 0 _ rfl
        simpa using this
      have c00 := cells 0 x (by rw [hl]; rfl)
      obtain ⟨bk, o, sp⟩ := ad
      have hsp : sp = none := by
        cases sp with
        | none => rfl
        | some s =>
          exfalso
          unfold Addr.add World.cell? at c00
          simp at c00
          split at c00 <;> simp at c00
      subst hsp
      have hbk : bk < w.heap.size := by
        rcases Nat.lt_or_ge bk w.heap.size with h | h
        · exact h
        · exfalso
          unfold Addr.add World.cell? at c00
          simp [Array.getElem?_eq_none h] at c00
      rw [← hl]
      refine GLib.strings_Join bk o c0 l0 a1 w (fun j y hy => ?_) hbk hb.1 hc0 hb.2
      have := cells j y hy
      unfold Addr.add at this
      split at this
      · rename_i hj
        subst hj
        simpa using this
      · exact this
  · cases h
end Go.Proofs.Ytfonfdpimbnfaaa.GJoin
