/- A node's map in memory: which numbers go on to which nodes. -/
import Derived.Test.YthihgiaflbaigaaProg
import Derived.Test.YthihgiaflbaigaaWKept
import Derived.Maps.OwnSet
import Derived.Maps.Ext
import Derived.Lib.SlKeysI
set_option linter.unusedVariables false
set_option linter.unusedSimpArgs false
namespace Go.Proofs.Ythihgiaflbaigaa.OMap
open Go.RowKit Go.Proofs.YthihgiaflbaigaaW.PrintWords Go.Maps
abbrev DT := DataW Unit
def pz : DT := .lit (.int .i64 (-1))
/-- How a pointer to a whole block reads. -/
def pe : Value → Option (DT × List MemPlace)
  | .pointer none => some (pz, [])
  | .pointer (some ⟨g, 0, none⟩) => some (.lit (.int .i64 (g : Int)), [])
  | _ => none
abbrev ptr (g : Option Nat) : Value := .pointer (g.map fun g => ⟨g, 0, none⟩)
theorem pe_none : pe (.pointer none) = some (pz, []) := rfl
theorem pe_some (g : Nat) : pe (.pointer (some ⟨g, 0, none⟩)) = some (.lit (.int .i64 (g : Int)), []) := rfl
theorem pe_inv {v : Value} {z : DT × List MemPlace} (h : pe v = some z) : (v = .pointer none ∧ z = (pz, [])) ∨ ∃ g : Nat, v = .pointer (some ⟨g, 0, none⟩) ∧ z = (.lit (.int .i64 (g : Int)), []) := by
  unfold pe at h
  split at h
  · cases h; exact .inl ⟨rfl, rfl⟩
  · cases h; exact .inr ⟨_, rfl, rfl⟩
  · cases h
abbrev ik (x : Int) : Lit := .int .i64 x
def i64 (x : Int) : Prop := -9223372036854775808 ≤ x ∧ x ≤ 9223372036854775807
theorem ik_wf {x : Int} (h : i64 x) : (ik x).wf = true := by
  unfold i64 at h
  simp [Lit.wf, IntKind.min, IntKind.max, IntKind.signed, IntKind.bits]
  omega
theorem wf_ik {x : Int} (h : (ik x).wf = true) : i64 x := by
  unfold i64
  simp [Lit.wf, IntKind.min, IntKind.max, IntKind.signed, IntKind.bits] at h
  omega
theorem K3 : Keyed Try.prog 3 := int_keyed Try.underlying3
theorem key3 {x : Int} (h : i64 x) : keyOf Try.prog 3 (.int .i64 x) = some (ik x) := keyOf_int_mk Try.underlying3 (ik_wf h)
/-- Block m is a map of at most N entries; a number that goes on goes on to a whole block. -/
def MapAt (W : World) (m N : Nat) (kid : Int → Option Nat) : Prop :=
  ∃ D : DT, W.ownsMap Try.prog 3 pe m N D ∧ (∀ x, i64 x → has D (ik x) = (kid x).isSome) ∧ (∀ x g, kid x = some g → i64 x ∧ D.atKey (ik x) pz = .lit (.int .i64 (g : Int)))
theorem MapAt.lt {W : World} {m N : Nat} {kid : Int → Option Nat} (h : MapAt W m N kid) : m < W.heap.size := by
  obtain ⟨D, h1, _⟩ := h
  exact h1.lt
theorem MapAt.mono {W : World} {m N N' : Nat} {kid : Int → Option Nat} (h : MapAt W m N kid) (hn : N ≤ N') : MapAt W m N' kid := by
  obtain ⟨D, h1, h2⟩ := h
  exact ⟨D, h1.mono hn, h2⟩
theorem MapAt.congr {W : World} {m N : Nat} {kid kid' : Int → Option Nat} (h : MapAt W m N kid) (he : ∀ x, kid x = kid' x) : MapAt W m N kid' := by
  have : kid = kid' := funext he
  exact this ▸ h
theorem MapAt.block {W W' : World} {m N : Nat} {kid : Int → Option Nat} (h : MapAt W m N kid) (he : W'.heap[m]? = W.heap[m]?) : MapAt W' m N kid := by
  obtain ⟨D, ⟨es, clock, hb, r⟩, h2⟩ := h
  exact ⟨D, ⟨es, clock, he.trans hb, r⟩, h2⟩
theorem MapAt.isMap {W : World} {m N : Nat} {kid : Int → Option Nat} (h : MapAt W m N kid) : ∃ es clock, W.heap[m]? = some (.map es clock) := by
  obtain ⟨D, ⟨es, clock, hb, r⟩, h2⟩ := h
  exact ⟨es, clock, hb⟩
theorem MapAt.made (W : World) : MapAt (W.alloc (.map #[] 0)) W.heap.size 0 (fun _ => none) :=
  ⟨.map [], World.ownsMap_made _ _ _ _, fun x _ => rfl, fun x g h => by cases h⟩
theorem zero_ptr (W : World) : (zeroValue 110).run Try.prog W = .ok (.pointer none) W := by kernel_rfl
theorem MapAt.look {W : World} {m N : Nat} {kid : Int → Option Nat} (h : MapAt W m N kid) {x : Int} (hx : i64 x) :
    (Instr.lookup 73 (.map (some m)) (.int .i64 x) false).run Try.prog W = .ok (ptr (kid x)) W := by
  obtain ⟨D, h1, h2, h3⟩ := h
  obtain ⟨v, ps, hrun, hv⟩ := h1.lookup K3 Try.underlying73 (zero_ptr W) pe_none (key3 hx)
  rw [hrun]
  refine congrArg (fun u => Result.ok u W) ?_
  have hs := h2 x hx
  cases hk : kid x with
  | none =>
    rw [hk] at hs
    rw [atKey_of_not_has hs] at hv
    rcases pe_inv hv with ⟨rfl, _⟩ | ⟨g, rfl, e⟩
    · rfl
    · simp [pz] at e
  | some g =>
    rw [(h3 x g hk).2] at hv
    rcases pe_inv hv with ⟨rfl, e⟩ | ⟨g', rfl, e⟩
    · simp [pz] at e
    · simp at e
      have e1 : g = g' := by omega
      rw [e1]
      rfl
theorem look_nil (W : World) {x : Int} (hx : i64 x) :
    (Instr.lookup 73 (.map none) (.int .i64 x) false).run Try.prog W = .ok (.pointer none) W :=
  Maps.look_nil false K3 Try.underlying73 (zero_ptr W) (key3 hx)
/-- One number goes on elsewhere. -/
def turn (kid : Int → Option Nat) (x : Int) (g : Option Nat) : Int → Option Nat := fun y => if y = x then g else kid y
theorem ik_ne {x y : Int} (h : y ≠ x) : ik y ≠ ik x := fun e => h (by injection e)
theorem MapAt.put {W : World} {m N : Nat} {kid : Int → Option Nat} {D : DT} (h1 : W.ownsMap Try.prog 3 pe m N D) (h2 : ∀ x, i64 x → has D (ik x) = (kid x).isSome) (h3 : ∀ x g, kid x = some g → i64 x ∧ D.atKey (ik x) pz = .lit (.int .i64 (g : Int)))
    {x : Int} (hx : i64 x) (g : Nat) {W' : World} (h4 : W'.ownsMap Try.prog 3 pe m (N + 1) (D.put (ik x) (.lit (.int .i64 (g : Int))))) : MapAt W' m (N + 1) (turn kid x (some g)) := by
  have hD := h1.isMap
  refine ⟨_, h4, fun y hy => ?_, fun y g' hg => ?_⟩
  · unfold turn
    by_cases e : y = x
    · subst e
      rw [if_pos rfl, has_put_same hD (show WideAt.IsKeyLit (ik y) from trivial)]; rfl
    · rw [if_neg e, has_put_other (ik_ne e), h2 y hy]
  · unfold turn at hg
    by_cases e : y = x
    · subst e
      rw [if_pos rfl] at hg
      cases hg
      exact ⟨hx, atKey_put_same hD (show WideAt.IsKeyLit (ik y) from trivial) _ _⟩
    · rw [if_neg e] at hg
      rw [atKey_put_other (ik_ne e)]
      exact h3 y g' hg
theorem MapAt.gone {W W' : World} {m N : Nat} {kid : Int → Option Nat} {D : DT} (h2 : ∀ x, i64 x → has D (ik x) = (kid x).isSome) (h3 : ∀ x g, kid x = some g → i64 x ∧ D.atKey (ik x) pz = .lit (.int .i64 (g : Int)))
    {x : Int} (h4 : W'.ownsMap Try.prog 3 pe m N (D.del (ik x))) : MapAt W' m N (turn kid x none) := by
  refine ⟨_, h4, fun y hy => ?_, fun y g' hg => ?_⟩
  · unfold turn
    by_cases e : y = x
    · subst e
      rw [if_pos rfl, has_del_same]; rfl
    · rw [if_neg e, has_del_other (ik_ne e), h2 y hy]
  · unfold turn at hg
    by_cases e : y = x
    · subst e
      rw [if_pos rfl] at hg
      cases hg
    · rw [if_neg e] at hg
      rw [atKey_del_other (ik_ne e)]
      exact h3 y g' hg
/-- Its entries, as the datum has them: by the key's number. -/
theorem own_form {W : World} {m N : Nat} {D : DT} (h : W.ownsMap Try.prog 3 pe m N D) : ∃ es, D = .map es ∧ es.Pairwise (fun p q => p.1 ≠ q.1) ∧ (∀ p ∈ es, ∃ x, p.1 = ik x ∧ i64 x) ∧ es.length ≤ N := by
  obtain ⟨es, hD, hp, _⟩ := h.canon K3
  refine ⟨es, hD, apart_of_rising hp, fun p hp => ?_, by have := h.size_le; rw [hD] at this; exact this⟩
  obtain ⟨es', clock, _, F, _, rfl⟩ := h
  injection hD with hD
  rw [← hD] at hp
  obtain ⟨y, hy⟩ := fit_keys F p (mem_sorted.1 hp)
  obtain ⟨x, _, h2, h3⟩ := keyOf_i64 Try.underlying3 hy
  exact ⟨x, h2, wf_ik h3⟩
theorem has_mem {es : List (Lit × DT)} (hk : ∀ p ∈ es, ∃ x, p.1 = ik x ∧ i64 x) (x : Int) : has (.map es) (ik x) = true ↔ x ∈ intKeys (.map es) := by
  rw [has_eq, List.any_eq_true]
  show _ ↔ x ∈ es.map fun p => intOf p.1
  rw [List.mem_map]
  constructor
  · rintro ⟨p, hp, hs⟩
    obtain ⟨a, ha, _⟩ := hk p hp
    rw [ha] at hs
    exact ⟨p, hp, by rw [ha]; simpa [Lit.sameKey, intOf] using hs⟩
  · rintro ⟨p, hp, rfl⟩
    obtain ⟨a, ha, _⟩ := hk p hp
    exact ⟨p, hp, by rw [ha]; simp [Lit.sameKey, intOf]⟩
/-- Its keys, in order. -/
theorem keys_in_order {W : World} {m N : Nat} {kid : Int → Option Nat} {D : DT} (h1 : W.ownsMap Try.prog 3 pe m N D) (h2 : ∀ x, i64 x → has D (ik x) = (kid x).isSome) (h3 : ∀ x g, kid x = some g → i64 x ∧ D.atKey (ik x) pz = .lit (.int .i64 (g : Int)))
    {ss : List Int} (hs : ss.Perm (intKeys D)) : (ss.mergeSort (fun x y => decide (x ≤ y))).Pairwise (· < ·) ∧ (∀ x, x ∈ ss.mergeSort (fun x y => decide (x ≤ y)) ↔ kid x ≠ none) ∧ (ss.mergeSort (fun x y => decide (x ≤ y))).length ≤ N := by
  obtain ⟨es, rfl, hp, hk, hl⟩ := own_form h1
  have hperm := (List.mergeSort_perm ss (fun x y => decide (x ≤ y))).trans hs
  have hnd : (intKeys (.map es : DT)).Nodup := by
    show (es.map fun p => intOf p.1).Nodup
    refine List.pairwise_map.2 (hp.imp_of_mem fun {p q} hp' hq' hne e => hne ?_)
    obtain ⟨a, ha, _⟩ := hk p hp'
    obtain ⟨b, hb, _⟩ := hk q hq'
    rw [ha, hb] at e ⊢
    exact congrArg _ e
  have tr : ∀ a b c : Int, (fun x y : Int => decide (x ≤ y)) a b = true → (fun x y : Int => decide (x ≤ y)) b c = true → (fun x y : Int => decide (x ≤ y)) a c = true := fun a b c h1 h2 => by simp only [decide_eq_true_eq] at *; exact Int.le_trans h1 h2
  have ttl : ∀ a b : Int, ((fun x y : Int => decide (x ≤ y)) a b || (fun x y : Int => decide (x ≤ y)) b a) = true := fun a b => by simp only [Bool.or_eq_true, decide_eq_true_eq]; exact Int.le_total a b
  have hsort := List.pairwise_mergeSort tr ttl ss
  have hnd2 : (ss.mergeSort (fun x y => decide (x ≤ y))).Nodup := hperm.nodup_iff.2 hnd
  refine ⟨?_, fun x => ?_, ?_⟩
  · refine (List.pairwise_and_iff.2 ⟨hsort, hnd2⟩).imp ?_
    rintro a b ⟨h1, h2⟩
    simp only [decide_eq_true_eq] at h1
    omega
  · rw [hperm.mem_iff, ← has_mem hk]
    constructor
    · intro h e
      obtain ⟨p, hp', hq⟩ := List.mem_map.1 ((has_mem hk x).1 h)
      obtain ⟨a, ha, hw⟩ := hk p hp'
      rw [ha] at hq
      have : a = x := hq
      subst this
      rw [h2 a hw, e] at h
      cases h
    · intro h
      obtain ⟨g, hg⟩ := Option.ne_none_iff_exists'.1 h
      rw [h2 x (h3 x g hg).1, hg]
      rfl
  · rw [hperm.length_eq]
    show (es.map fun p => intOf p.1).length ≤ N
    rw [List.length_map]
    exact hl
theorem empty_iff {W : World} {m N : Nat} {kid : Int → Option Nat} {D : DT} (h1 : W.ownsMap Try.prog 3 pe m N D) (h2 : ∀ x, i64 x → has D (ik x) = (kid x).isSome) (h3 : ∀ x g, kid x = some g → i64 x ∧ D.atKey (ik x) pz = .lit (.int .i64 (g : Int))) : size D = 0 ↔ ∀ x, kid x = none := by
  obtain ⟨es, rfl, hp, hk, hl⟩ := own_form h1
  show es.length = 0 ↔ _
  constructor
  · intro h x
    have : es = [] := List.eq_nil_of_length_eq_zero h
    subst this
    cases hg : kid x with
    | none => rfl
    | some g => have := h2 x (h3 x g hg).1; rw [hg] at this; cases this
  · intro h
    cases es with
    | nil => rfl
    | cons p es =>
      obtain ⟨x, hx, hw⟩ := hk p List.mem_cons_self
      have := h2 x hw
      rw [h x] at this
      rw [has_eq, List.any_cons, hx] at this
      simp [Lit.sameKey] at this
end Go.Proofs.Ythihgiaflbaigaa.OMap
