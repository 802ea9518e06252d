/- The closure of (*Trie).All, and a node's keys in order. -/
import Derived.Test.YthihgiaflbaigaaOTriePrune
import Derived.Test.YthihgiaflbaigaaLIter
import Derived.CallsIn
set_option linter.unusedVariables false
set_option linter.unusedSimpArgs false
namespace Go.Proofs.Ythihgiaflbaigaa.OTrie
open Go.RowKit Go.Proofs.YthihgiaflbaigaaW.PrintWords Go.Proofs.YthihgiaflbaigaaW.PrintLast Go.Proofs.YthihgiaflbaigaaW.PrintMore Go.Proofs.Ythihgiaflbaigaa.GQ Go.Proofs.Ythihgiaflbaigaa.OMap Go.Proofs.Ythihgiaflbaigaa.UTrie Go.Maps
/-- A row and its value, in memory. -/
def kE : Kd Ent := Kd.pair (Kd.slice 3 kI) kI
theorem kE_open {w : World} {x : Ent} {cs : List Value} (h : kE.K w x cs) : ∃ A0 c0, cs = [.slice A0 x.1.length c0, .int .i64 x.2] ∧ x.1.length ≤ c0 ∧ kI.C w A0 x.1.length x.1 := by
  obtain ⟨_, _, rfl, ⟨A0, c0, rfl, h1, h2⟩, rfl⟩ := h
  exact ⟨A0, c0, rfl, h1, h2⟩
theorem kE_mkM (w : World) (base : Nat) (ok : Nat → Prop) (x : Ent) {v0 : Value} (g0 : kI.R 3 w base ok v0 x.1) : kE.M w base ok x [v0, .int .i64 x.2] := ⟨[v0], [.int .i64 x.2], rfl, ⟨v0, rfl, g0⟩, rfl⟩
theorem kE_openM {w : World} {base : Nat} {ok : Nat → Prop} {x : Ent} {cs : List Value} (h : kE.M w base ok x cs) : ∃ v0, cs = [v0, .int .i64 x.2] ∧ kI.R 3 w base ok v0 x.1 := by
  obtain ⟨_, _, rfl, ⟨v0, rfl, h1⟩, rfl⟩ := h
  exact ⟨v0, rfl, h1⟩
theorem infoE : (Try.prog.info? 101).map (fun i => (i.zero, i.size, i.bytes)) = some (some (.agg #[(.slice none 0 0), (.int .i64 0)]), 2, 32) := by kernel_rfl
theorem infoI : (Try.prog.info? 3).map (fun i => (i.zero, i.size, i.bytes)) = some (some (.int .i64 0), 1, 8) := by kernel_rfl
/-- The row under way: the variable's block, the row. -/
structure OutAt (W : World) (B base : Nat) (v : Value) (out : List Ent) : Prop where
  box : W.heap[B]? = some (.cells #[v] 98 (0, 0))
  row : kE.R 101 W base (fun _ => True) v out
  lo : base ≤ B
/-- What an append to the row under way leaves. -/
structure Grew (w w' : World) (B base : Nat) (v v' : Value) : Prop where
  kept : Kept w w' (fun k => k = B ∨ some k = v.ownBlock)
  at_ : v'.ownBlock = v.ownBlock ∨ ∃ k, v'.ownBlock = some k ∧ w.heap.size ≤ k
  bel : Below base w w'
theorem OutAt.below {W W' : World} {B base : Nat} {v : Value} {out : List Ent} (h : OutAt W B base v out) (hb : Below W.heap.size W W') : OutAt W' B base v out :=
  ⟨blk_below h.box hb, Kd.R_below h.row hb, h.lo⟩
theorem OutAt.lt {W : World} {B base : Nat} {v : Value} {out : List Ent} (h : OutAt W B base v out) : base ≤ W.heap.size := by
  have := blk_lt h.box
  have := h.lo
  omega
theorem Grew.of_below {w w' : World} {B base : Nat} {v : Value} (hb : Below w.heap.size w w') (hl : base ≤ w.heap.size) : Grew w w' B base v v :=
  ⟨Kept.of_below hb _, .inl rfl, hb.mono hl⟩
theorem Grew.trans {w w1 w2 : World} {B base : Nat} {v v1 v2 : Value} (h : Grew w w1 B base v v1) (k : Grew w1 w2 B base v1 v2) : Grew w w2 B base v v2 := by
  have hs := h.kept.1
  refine ⟨h.kept.then_ k.kept (fun j hj => ?_), ?_, h.bel.trans k.bel⟩
  · rcases hj with hj | hj
    · exact .inl (.inl hj)
    · rcases h.at_ with e | ⟨q, e, hq⟩
      · exact .inl (.inr (by rw [hj, e]))
      · rw [e] at hj
        cases hj
        exact .inr hq
  · rcases k.at_ with e | ⟨q, e, hq⟩
    · rcases h.at_ with e' | ⟨q, e', hq⟩
      · exact .inl (e.trans e')
      · exact .inr ⟨q, e.trans e', hq⟩
    · exact .inr ⟨q, e, by omega⟩
abbrev see (B : Nat) : Value := .func (.func 49) #[] #[.pointer (some ⟨B, 0, none⟩)]
theorem see_enters : ∀ args w, (callFunc 49 args).run Try.prog w = .ok (.enter 49 args) w := enters_of Try.func49 (by kernel_rfl) rfl
def Seen (w : World) (B base : Nat) (v : Value) (out : List Ent) (e : Ending) (w' : World) : Prop := (∃ r, e = .returned r) ∧ ∃ v', OutAt w' B base v' out ∧ Grew w w' B base v v'
set_option maxHeartbeats 4000000 in
theorem see_calls (B base : Nat) (out : List Ent) (v : Value) (p : Row) (x : Int) (A : Option Addr) (c : Nat) (okp : Nat → Prop) (w : World) (h : OutAt w B base v out) (hp : kI.R 3 w base okp (.slice A p.length c) p) (hokp : ∀ k, okp k → some k ≠ v.ownBlock) (hl : (out.length + 1) * 32 ≤ 140737488355328) :
    Calls Try.prog 49 #[.agg #[.slice A p.length c, .int .i64 x], .pointer (some ⟨B, 0, none⟩)] w (Seen w B base v (out ++ [(p, x)])) := by
  have hlt := blk_lt h.box
  have b1 := below_alloc (Below.refl w.heap.size w) (.cells #[.slice A p.length c, .int .i64 x] 101 (0, 0))
  have H := Aside0.mk h
  have H1 := Aside0.mk (h.below b1)
  have HP := Aside0.mk (Kd.R_below hp b1)
  have HK := Aside0.mk hokp
  have HL := Aside0.mk hl
  have B1 := Aside0.mk b1
  have c0 := (blk_cell h.box 0).trans (show #[v][0]? = some v from rfl)
  have c1 := (blk_cell H1.out.box 0).trans (show #[v][0]? = some v from rfl)
  have ne := Aside0.mk (Kd.R_ne H1.out.row H1.out.box (by decide))
  obtain ⟨A0, cc, hv⟩ := Kd.R_slice h.row
  clear h hp hokp hl b1
  subst hv
  go_enter Try.func49, Try.ntmps49
  go_wp2_with ((with_reducible refine gate_builtin (b := .append) (xs := #[.tmp 3, .tmp 5]) rfl ?_); go_loud ((refine Kd.R_append kE (w0 := w) base rfl (.tmp 3) (.tmp 5) 98 101 (.agg #[(.slice none 0 0), (.int .i64 0)]) 32 rfl Try.underlying98 infoE rfl (by decide) (by omega) (.slice A0 out.length cc) out (p, x) [.slice A p.length c, .int .i64 x] (fun _ => True) okp rfl (by rw [World.size_alloc]; rfl) (kE_mkM _ _ _ (p, x) HP.out) (fun k hk => ⟨trivial, HK.out k hk⟩) (fun _ _ => trivial) H1.out.row (B1.out.mono H.out.lt) (by have := H.out.lt; rw [World.size_alloc]; omega) HL.out ?_); intro v1 w1 hN hB hg hat; obtain ⟨A1, k1, e1⟩ := Kd.R_slice hN; subst e1; have G1 := blk_grown H1.out.box hg ne.out; have y0 := (blk_cell G1 0).trans (show #[Value.slice A0 out.length cc][0]? = some (Value.slice A0 out.length cc) from rfl); have y1 := blk_frozen G1 0; have P := Aside0.mk (And.intro hN (And.intro hB (And.intro hg (And.intro hat G1)))); clear hN hB hg hat G1))
  refine bodyPost_end (results_none rfl _ _ _) rfl ?_
  obtain ⟨hN, hB, hg, hat, G1⟩ := P.out
  rw [show (out ++ [(p, x)]).length = out.length + 1 by simp] at hN hat
  refine ⟨⟨_, rfl⟩, .slice A1 (out.length + 1) k1, ⟨?_, ?_, H.out.lo⟩, ⟨?_, ?_, ?_⟩⟩
  · simpa using blk_set G1 0 _
  · exact Kd.R_set hN G1 (by decide) _ _
  · refine Kept.setCell (Kept.of_grown hg (Kept.of_below B1.out _) (fun k hk => .inl (.inr hk.symm))) (.inl (.inl rfl)) _
  · rcases hat with e | ⟨q, e, hq⟩
    · exact .inl e
    · exact .inr ⟨q, e, by rw [World.size_alloc] at hq; omega⟩
  · exact hB.setCell (p := ⟨B, 0, none⟩) H.out.lo _
/-- maps.Keys: an iterator over a new block that holds the map. -/
theorem keys_calls (mb : Option Nat) (W : World) : Calls Try.prog 54 #[.map mb] W fun e w' => e = .returned (.func (.func 57) #[] #[.pointer (some ⟨W.heap.size, 0, none⟩)]) ∧ w' = W.alloc (.cells #[.map mb] 73) :=
  (callsIn_wide (n := 5)).1 (AnyZI.keys_in GLib.keysA Fence.wide 5 trivial rfl mb W)
/-- What slices.Sorted answers of a node's keys. -/
def Sorts (w : World) (N : Nat) (kid : Int → Option Nat) (e : Ending) (w' : World) : Prop :=
  ∃ (A : Option Addr) (c : Nat) (ks : List Int), e = .returned (.slice A ks.length c) ∧ ks.Pairwise (· < ·) ∧ (∀ x, x ∈ ks ↔ kid x ≠ none) ∧ ks.length ≤ N ∧ kI.R 3 w' w.heap.size (fun _ => True) (.slice A ks.length c) ks ∧ Below w.heap.size w w'
theorem encs_Z (l : List Int) : l.map encZ = encs (Value.int .i64) l := rfl
theorem sorted_form {w w' : World} {v : Value} {ss : List Int} (hr : w'.ownsRow w.heap.size 3 1 v ss.length ((ss.mergeSort (fun x y => decide (x ≤ y))).map encZ)) :
    ∃ A c, v = .slice A (ss.mergeSort (fun x y => decide (x ≤ y))).length c ∧ kI.R 3 w' w.heap.size (fun _ => True) (.slice A (ss.mergeSort (fun x y => decide (x ≤ y))).length c) (ss.mergeSort (fun x y => decide (x ≤ y))) := by
  rw [← List.length_mergeSort (le := fun x y => decide (x ≤ y)) ss] at hr
  have h := Kd.R_of_own (enc := Value.int .i64) (h1 := fun _ => rfl) (ok := fun _ => True) hr (fun _ _ => trivial)
  obtain ⟨A, c, e⟩ := Kd.R_slice h
  subst e
  exact ⟨A, c, rfl, h⟩
theorem enters_keys : ∀ args w, (callFunc 57 args).run Try.prog w = .ok (.enter 57 args) w := enters_of Try.func57 (by kernel_rfl) rfl
theorem enters_sort : ∀ args w, (callFunc 56 args).run Try.prog w = .ok (.enter 56 args) w := enters_of Try.func56 (by kernel_rfl) rfl
theorem sorted_calls {w : World} {m N : Nat} {kid : Int → Option Nat} (h : MapAt w m N kid) (hN : N ≤ 10000000000) :
    Calls Try.prog 53 #[.func (.func 57) #[] #[.pointer (some ⟨w.heap.size, 0, none⟩)]] (w.alloc (.cells #[.map (some m)] 73)) (Sorts (w.alloc (.cells #[.map (some m)] 73)) N kid) := by
  obtain ⟨D, h1, h2, h3⟩ := h
  have hsz := h1.size_le
  have hseq : SeqGives Fence.wide 2 Try.prog 57 #[.pointer (some ⟨w.heap.size, 0, none⟩)] encZ (fun ss => ss.Perm (intKeys D)) (size D) (w.alloc (.cells #[.map (some m)] 73)) :=
    AnyZI.keys_gives (ρ := GLib.keysA_ren) { GLib.keysA with } Fence.wide _ trivial rfl (by omega) w.heap.size m N D _ (by simp) (by simp) (by
      obtain ⟨es, clock, hb, Ft, hs, hD⟩ := h1
      exact ⟨es, clock, (Below.heap_alloc _ _ m (Array.getElem?_eq_some_iff.1 hb).1).trans hb, Ft, hs, hD⟩)
  have cS := AnyZI.sorted_in GLib.sortedA Fence.wide 5 trivial trivial trivial trivial rfl (by omega) (GLib.sortsA _) enters_sort 57 #[.pointer (some ⟨w.heap.size, 0, none⟩)] trivial enters_keys _ _ (by unfold maxLen; omega) (by omega) _ hseq
  refine ((callsIn_wide (n := 5)).1 cS).mono ?_
  rintro e w' ⟨v, ss, rfl, hS, hrow, hnil, hb⟩
  obtain ⟨A, c, rfl, hR⟩ := sorted_form hrow
  obtain ⟨k1, k2, k3⟩ := keys_in_order h1 h2 h3 hS
  exact ⟨A, c, _, rfl, k1, k2, k3, hR, hb⟩
theorem sorted_nil (w : World) :
    Calls Try.prog 53 #[.func (.func 57) #[] #[.pointer (some ⟨w.heap.size, 0, none⟩)]] (w.alloc (.cells #[.map none] 73)) (Sorts (w.alloc (.cells #[.map none] 73)) 0 (fun _ => none)) := by
  have hseq : SeqGives Fence.wide 2 Try.prog 57 #[.pointer (some ⟨w.heap.size, 0, none⟩)] encZ (fun ss : List Int => ss = []) 0 (w.alloc (.cells #[.map none] 73)) :=
    AnyZI.keys_gives_nil (ρ := GLib.keysA_ren) { GLib.keysA with } Fence.wide _ trivial rfl w.heap.size _ (by simp) (by simp)
  have cS := AnyZI.sorted_in GLib.sortedA Fence.wide 5 trivial trivial trivial trivial rfl (by omega) (GLib.sortsA _) enters_sort 57 #[.pointer (some ⟨w.heap.size, 0, none⟩)] trivial enters_keys _ _ (by unfold maxLen; omega) (by omega) _ hseq
  refine ((callsIn_wide (n := 5)).1 cS).mono ?_
  rintro e w' ⟨v, ss, rfl, hS, hrow, hnil, hb⟩
  have hS : ss = [] := hS
  subst hS
  obtain ⟨A, c, rfl, hR⟩ := sorted_form hrow
  exact ⟨A, c, _, rfl, by rw [List.mergeSort_nil]; exact List.Pairwise.nil, fun x => by rw [List.mergeSort_nil]; simp, by rw [List.mergeSort_nil]; exact Nat.le_refl _, hR, hb⟩
end Go.Proofs.Ythihgiaflbaigaa.OTrie
