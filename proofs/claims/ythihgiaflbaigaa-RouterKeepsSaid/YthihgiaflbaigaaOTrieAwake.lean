/- A trie that is new; awake. -/
import Derived.Test.YthihgiaflbaigaaOTrieAll
set_option linter.unusedVariables false
set_option linter.unusedSimpArgs false
namespace Go.Proofs.Ythihgiaflbaigaa.OTrie
open Go.RowKit Go.Proofs.YthihgiaflbaigaaW.PrintWords Go.Proofs.YthihgiaflbaigaaW.PrintLast Go.Proofs.YthihgiaflbaigaaW.PrintMore Go.Proofs.Ythihgiaflbaigaa.GQ Go.Proofs.Ythihgiaflbaigaa.OMap Go.Proofs.Ythihgiaflbaigaa.UTrie Go.Maps
/-- A row of numbers that lies in a block of its own. -/
theorem lit_F {w : World} {b : Nat} {l : List Int} (h : w.heap[b]? = some (.cells (l.map (Value.int .i64)).toArray 3 (0, 0))) (hl : l.length ≤ 1000) : Kd.F kI w (fun k => k = b) (some ⟨b, 0, none⟩) l.length l := by
  have hr : w.ownsRow 0 3 1 (.slice (some ⟨b, 0, none⟩) l.length l.length) l.length (encs (Value.int .i64) l) :=
    ⟨by simp [encs], .inr ⟨b, l.length, _, rfl, Nat.zero_le _, h, Nat.le_refl _, by unfold maxLen; omega, by simp, by rw [Nat.mul_one, List.take_of_length_le (by simp)]; rfl⟩⟩
  exact Kd.R_F (Kd.R_of_own (enc := Value.int .i64) (h1 := fun _ => rfl) (ok := fun k => k = b) hr (fun k hk => by simpa [Value.ownBlock] using hk.symm))
def zX (g o : Nat) : TX := ⟨fun p => if p = [] then some (g, o) else none, fun _ => none, fun _ => none⟩
/-- A trie without rows. -/
theorem TrieAt.zero {w : World} {g o : Nat} (h : NodeAt w g o none none) : TrieAt w g o 0 (zX g o) := by
  have hn : ∀ (p : Row) (x : Int), (zX g o).nd (p ++ [x]) = none := fun p x => if_neg (by simp)
  refine ⟨by show (if ([] : Row) = [] then some (g, o) else none) = _; rw [if_pos rfl], fun p x hp => absurd (hn p x) hp, fun p a b hp => ?_, fun p x a b hp => ?_, fun p hp => absurd rfl hp, fun p _ _ x => hn p x, fun p m _ hm => ?_, fun p q a b b' hp hq => ?_, fun p q m _ _ hm => ?_, fun p hp => ?_⟩
  · have hp2 : (if p = [] then some (g, o) else none) = some (a, b) := hp
    by_cases e : p = []
    · rw [if_pos e] at hp2; cases hp2; exact h
    · rw [if_neg e] at hp2; cases hp2
  · rw [hn p x] at hp; cases hp
  · cases hm
  · have hp2 : (if p = [] then some (g, o) else none) = some (a, b) := hp
    have hq2 : (if q = [] then some (g, o) else none) = some (a, b') := hq
    by_cases e : p = []
    · by_cases e' : q = []
      · rw [e, e']
      · rw [if_neg e'] at hq2; cases hq2
    · rw [if_neg e] at hp2; cases hp2
  · cases hm
  · have hp2 : (if p = [] then some (g, o) else none) ≠ none := hp
    by_cases e : p = []
    · rw [e]; exact Nat.zero_le _
    · rw [if_neg e] at hp2; exact absurd rfl hp2
theorem foot_zero {g o k : Nat} (h : foot (zX g o) k) : k = g := by
  rcases h with ⟨p, b, hp⟩ | ⟨p, _, hm⟩
  · have hp2 : (if p = [] then some (g, o) else none) = some (k, b) := hp
    by_cases e : p = []
    · rw [if_pos e] at hp2; cases hp2; rfl
    · rw [if_neg e] at hp2; cases hp2
  · cases hm
abbrev zcells : Array Value := #[.map none, .bool false, .int .i64 0, .int .i64 0]
theorem zero_at {w : World} {g : Nat} (h : w.heap[g]? = some (.cells zcells 77 (0, 0))) : TrieAt w g 0 0 (zX g 0) ∧ CntAt w g 0 0 :=
  ⟨TrieAt.zero ⟨_, _, h, rfl, rfl, rfl⟩, ⟨_, _, h, rfl⟩⟩
theorem put_new (X : TX) (hv : X.val = fun _ => none) : tPut X.val 0 [1, 2] 7 = (upd (fun _ => none) [1, 2] (some 7), 1, true, 0) := by
  rw [hv]; rfl
theorem long_new : long (upd (fun _ => none) [1, 2] (some 7)) [1, 2, 3] 3 = (2, 7) := by rfl
theorem small_i64 {l : List Int} (h : ∀ x ∈ l, 0 ≤ x ∧ x ≤ 1000000) : ∀ x ∈ l, i64 x := fun x hx => by have := h x hx; unfold i64; omega
/-- A trie that a law made: its values, how many, and where it lies. -/
structure Tr (W : World) (g N : Nat) (cnt : Int) (val : Row → Option Int) (lo : Nat) (X : TX) : Prop where
  tr : TrieAt W g 0 N X
  ct : CntAt W g 0 cnt
  vl : X.val = val
  lo : ∀ k, foot X k → lo ≤ k
theorem Tr.below {W W' : World} {g N : Nat} {cnt : Int} {val : Row → Option Int} {lo : Nat} {X : TX} (h : Tr W g N cnt val lo X) (hb : Below W.heap.size W W') : Tr W' g N cnt val lo X :=
  ⟨h.tr.below hb, h.ct.below hb, h.vl, h.lo⟩
theorem Tr.zero {W : World} {g : Nat} (h : W.heap[g]? = some (.cells zcells 77 (0, 0))) : Tr W g 0 0 (fun _ => none) g (zX g 0) :=
  ⟨(zero_at h).1, (zero_at h).2, rfl, fun k hk => by have := foot_zero hk; omega⟩
/-- Behind a call. -/
theorem Tr.then_ {W W' : World} {g N N' n : Nat} {cnt cnt' : Int} {val val' : Row → Option Int} {lo : Nat} {X : TX} (h : Tr W g N cnt val lo X) (hl : lo ≤ W.heap.size) (d : Done n W W' g 0 N' X val' cnt') :
    ∃ X', Tr W' g N' cnt' val' lo X' ∧ Post n W W' g 0 X X' ∧ Below lo W W' := by
  obtain ⟨X', t, c, v, p⟩ := d
  exact ⟨X', ⟨t, c, v, fun k hk => (p.foot k hk).elim (h.lo k) (fun hq => by omega)⟩, p, p.below lo hl h.lo⟩
end Go.Proofs.Ythihgiaflbaigaa.OTrie
