/- Two tries side by side; a map of bools. -/
import Derived.Test.YtfnogcppbhggpaaOTTold
set_option linter.unusedVariables false
set_option linter.unusedSimpArgs false
namespace Go.Proofs.Ytfnogcppbhggpaa.OTrie
open Go.RowKit Go.Proofs.YtfnogcppbhggpaaW.PrintWords Go.Proofs.YtfnogcppbhggpaaW.PrintLast Go.Proofs.YtfnogcppbhggpaaW.PrintMore Go.Proofs.Ytfnogcppbhggpaa.GQ Go.Proofs.Ytfnogcppbhggpaa.OMap Go.Proofs.Ytfnogcppbhggpaa.UTrie Go.Proofs.Ytfnogcppbhggpaa.UTold Go.Maps
def apart (X Y : TX) : Prop := ∀ k, foot X k → ¬ foot Y k
theorem Tr.beside {W W' : World} {g g' N n : Nat} {cnt : Int} {val : Row → Option Int} {lo : Nat} {X X' Y : TX} (h : Tr W g N cnt val lo Y) (p : Post n W W' g' 0 X X') (ap : apart X Y) : Tr W' g N cnt val lo Y :=
  ⟨h.tr.kept p.kept (fun k hk hf => ap k hf hk), by
    obtain ⟨cs, t, h1, h2⟩ := h.ct
    exact ⟨cs, t, (p.kept.2 g (blk_lt h1) (fun hf => ap g hf (foot_root h.tr))).trans h1, h2⟩, h.vl, h.lo⟩
theorem apart_then {W W' : World} {g g' o o' N n : Nat} {X X' Y : TX} (ap : apart X Y) (p : Post n W W' g o X X') (h : TrieAt W g' o' N Y) : apart X' Y := fun k hk hf => by
  rcases p.foot k hk with q | q
  · exact ap k q hf
  · have := foot_lt h hf; omega
theorem apart_symm {X Y : TX} (h : apart X Y) : apart Y X := fun k hy hx => h k hx hy
/-- A map block stays behind a trie's call. -/
theorem map_beside {W W' : World} {g n m : Nat} {X X' : TX} {o : Obj} (hm : W.heap[m]? = some o) (p : Post n W W' g 0 X X') (hf : ¬ foot X m) : W'.heap[m]? = some o :=
  (p.kept.2 m (blk_lt hm) hf).trans hm
/-- The values, as a list of at most m rows. -/
def hasL (val : Row → Option Int) (cnt : Int) (m : Nat) : Prop := ∃ l, Rep l val ∧ cnt = (l.length : Int) ∧ l.length ≤ m
theorem hasL_zero : hasL (fun _ => none) 0 0 := ⟨[], rep_empty, rfl, Nat.le_refl _⟩
theorem hasL.mono {val : Row → Option Int} {cnt : Int} {m m' : Nat} (h : hasL val cnt m) (hm : m ≤ m') : hasL val cnt m' := by
  obtain ⟨l, h1, h2, h3⟩ := h
  exact ⟨l, h1, h2, Nat.le_trans h3 hm⟩
theorem hasL.put {val : Row → Option Int} {cnt : Int} {m : Nat} (h : hasL val cnt m) (t : Row) (v : Int) : hasL (tPut val cnt t v).1 (tPut val cnt t v).2.1 (m + 1) := by
  obtain ⟨l, h1, rfl, h3⟩ := h
  obtain ⟨l', r1, r2, r3⟩ := put_rep h1 t v
  exact ⟨l', r1, r2, by omega⟩
theorem hasL.drop {val : Row → Option Int} {cnt : Int} {m : Nat} (h : hasL val cnt m) (t : Row) : hasL (upd val t none) (if (val t).isSome = true then cnt - 1 else cnt) m := by
  obtain ⟨l, h1, rfl, h3⟩ := h
  cases hv : val t with
  | none =>
    rw [if_neg (by simp)]
    exact ⟨l, by rw [upd_same_none hv]; exact h1, rfl, h3⟩
  | some u =>
    rw [if_pos (show (some u).isSome = true from rfl)]
    have hd := del_length h1.1 ((h1.2 t u).2 hv)
    exact ⟨del t l, rep_del h1 t, by omega, by omega⟩
theorem hasL.same {val : Row → Option Int} {cnt cnt' : Int} {m m' : Nat} (h : hasL val cnt m) (h' : hasL val cnt' m') : cnt = cnt' := by
  obtain ⟨l, h1, rfl, h3⟩ := h
  obtain ⟨l', h1', rfl, h3'⟩ := h'
  rw [rep_uniq h1 h1']
theorem hasL.range {val : Row → Option Int} {cnt : Int} {m : Nat} (h : hasL val cnt m) : 0 ≤ cnt ∧ cnt ≤ m := by
  obtain ⟨l, h1, rfl, h3⟩ := h
  omega
/-- All and told, of a trie. -/
theorem all_told {W : World} {g N : Nat} {cnt : Int} {val : Row → Option Int} {lo : Nat} {X : TX} {l : List Ent} (h : Tr W g N cnt val lo X) (hr : Rep l val) (hN : N ≤ 10000000000) (hl : l.length ≤ 1000000) :
    Calls Try.prog 15 #[.pointer (some ⟨g, 0, none⟩)] W (Told W l) :=
  all_calls g 0 N X l W h.tr (by rw [h.vl]; exact hr) hN (by omega)
end Go.Proofs.Ytfnogcppbhggpaa.OTrie
