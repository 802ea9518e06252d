/- A trie that is new; awake. -/
import Derived.Test.YtfnogcppbhggpaaOTrieAll
set_option linter.unusedVariables false
set_option linter.unusedSimpArgs false
namespace Go.Proofs.Ytfnogcppbhggpaa.OTrie
open Go.RowKit Go.Proofs.YtfnogcppbhggpaaW.PrintWords Go.Proofs.YtfnogcppbhggpaaW.PrintLast Go.Proofs.YtfnogcppbhggpaaW.PrintMore Go.Proofs.Ytfnogcppbhggpaa.GQ Go.Proofs.Ytfnogcppbhggpaa.OMap Go.Proofs.Ytfnogcppbhggpaa.UTrie Go.Maps
/-- A row of numbers that lies in a block of its own. -/
theorem lit_F {w : World} {b : Nat} {l : List Int} (h : w.heap[b]? = some (.cells (l.map (Value.int .i64)).toArray 3 (0, 0))) (hl : l.length ≤ 1000) : Kd.F kI w (fun k => k = b) (some ⟨b, 0, none⟩) l.length l := by
  have hr : w.ownsRow 0 3 1 (.slice (some ⟨b, 0, none⟩) l.length l.length) l.length (encs (Value.int .i64) l) :=
    ⟨by simp [encs], .inr ⟨b, l.length, _, rfl, Nat.zero_le _, h, Nat.le_refl _, by unfold maxLen; omega, by simp, by rw [Nat.mul_one, List.take_of_length_le (by simp)]; rfl⟩⟩
  exact Kd.R_F (Kd.R_of_own (enc := Value.int .i64) (h1 := fun _ => rfl) (ok := fun k => k = b) hr (fun k hk => by simpa [Value.ownBlock] using hk.symm))
def zX (g o : Nat) : TX := ⟨fun p => if p = [] then some (g, o) else none, fun _ => none, fun _ => none⟩
/-- A trie without rows. -/
theorem TrieAt.zero {w : World} {g o : Nat} (h : NodeAt w g o none none) : TrieAt w g o 0 (zX g o) := by
  have hn : ∀ (p : Row) (x : Int), (zX g o).nd (p ++ [x]) = none := fun p x => if_neg (by simp)
  refine ⟨by show (if ([] : Row) = [] then some (g, o) else none) = _; rw [if_pos rfl], fun p x hp => absurd (hn p x) hp, fun p a b hp => ?_, fun p x a b hp => ?_, fun p hp => absurd rfl hp, fun p _ _ x => hn p x, fun p m _ hm => ?_, fun p q a b b' hp hq => ?_, fun p q m _ _ hm => ?_, fun p hp => ?_⟩
  · have hp2 : (if p = [] then some (g, o) else none) = some (a, b) := hp
    by_cases e : p = []
    · rw [if_pos e] at hp2; cases hp2; exact h
    · rw [if_neg e] at hp2; cases hp2
  · rw [hn p x] at hp; cases hp
  · cases hm
  · have hp2 : (if p = [] then some (g, o) else none) = some (a, b) := hp
    have hq2 : (if q = [] then some (g, o) else none) = some (a, b') := hq
    by_cases e : p = []
    · by_cases e' : q = []
      · rw [e, e']
      · rw [if_neg e'] at hq2; cases hq2
    · rw [if_neg e] at hp2; cases hp2
  · cases hm
  · have hp2 : (if p = [] then some (g, o) else none) ≠ none := hp
    by_cases e : p = []
    · rw [e]; exact Nat.zero_le _
    · rw [if_neg e] at hp2; exact absurd rfl hp2
theorem foot_zero {g o k : Nat} (h : foot (zX g o) k) : k = g := by
  rcases h with ⟨p, b, hp⟩ | ⟨p, _, hm⟩
  · have hp2 : (if p = [] then some (g, o) else none) = some (k, b) := hp
    by_cases e : p = []
    · rw [if_pos e] at hp2; cases hp2; rfl
    · rw [if_neg e] at hp2; cases hp2
  · cases hm
abbrev zcells : Array Value := #[.map none, .bool false, .int .i64 0, .int .i64 0]
theorem zero_at {w : World} {g : Nat} (h : w.heap[g]? = some (.cells zcells 27 (0, 0))) : TrieAt w g 0 0 (zX g 0) ∧ CntAt w g 0 0 :=
  ⟨TrieAt.zero ⟨_, _, h, rfl, rfl, rfl⟩, ⟨_, _, h, rfl⟩⟩
theorem put_new (X : TX) (hv : X.val = fun _ => none) : tPut X.val 0 [1, 2] 7 = (upd (fun _ => none) [1, 2] (some 7), 1, true, 0) := by
  rw [hv]; rfl
theorem long_new : long (upd (fun _ => none) [1, 2] (some 7)) [1, 2, 3] 3 = (2, 7) := by rfl
theorem small_i64 {l : List Int} (h : ∀ x ∈ l, 0 ≤ x ∧ x ≤ 1000000) : ∀ x ∈ l, i64 x := fun x hx => by have := h x hx; unfold i64; omega
set_option maxHeartbeats 4000000 in
theorem awake_calls (w : World) : Calls Try.prog 9 #[] w fun e w' => e = .returned (.bool true) ∧ Below w.heap.size w w' := by
  obtain ⟨w1, hw1⟩ : ∃ w1, w1 = w.alloc (.cells zcells 27 (0, 0)) := ⟨_, rfl⟩
  have b1 : Below w.heap.size w w1 := by rw [hw1]; exact below_alloc (Below.refl _ _) _
  have Z := zero_at (w := w1) (g := w.heap.size) (by rw [hw1]; exact blk_new _ _)
  have s1 : w1.heap.size = w.heap.size + 1 := by rw [hw1]; exact World.size_alloc _ _
  have hb2 := below_alloc (Below.refl w1.heap.size w1) (.cells #[.int .i64 1, .int .i64 2] 3 (0, 0))
  have F2 := lit_F (l := [1, 2]) (blk_new w1 (.cells #[.int .i64 1, .int .i64 2] 3 (0, 0))) (by decide)
  have P := put_calls w.heap.size 0 0 (zX w.heap.size 0) (some ⟨w1.heap.size, 0, none⟩) 2 [1, 2] 7 0 _ (Z.1.below hb2) (Z.2.below hb2) (Kd.F_mono F2 (fun k hk hf => by have := foot_zero hf; omega)) (small_i64 (by decide)) (by omega) (by omega)
  rw [put_new _ rfl] at P
  have HP := Aside0.mk P
  have B1 := Aside0.mk b1
  have B2 := Aside0.mk hb2
  have S1 := Aside0.mk s1
  clear P F2 Z b1 hb2 s1
  go_enter Try.func9, Try.ntmps9
  go_upto_region 2 with (fail)
  rw [← hw1]
  clear hw1
  go_wp2_with (first
    | (go_at_call 10; go_loud ((refine HP.out.mono ?_); rintro e w2 ⟨rfl, X2, t2, cc2, v2, p2⟩; have T2 := Aside0.mk t2; have C2 := Aside0.mk cc2; have V2 := Aside0.mk v2; have E2 := Aside0.mk (show Below w.heap.size w w2 from (B1.out.trans (B2.out.mono B1.out.size)).trans (p2.below w.heap.size (by have := B2.out.size; have := S1.out; omega) (fun k hk => by have := foot_zero hk; omega))); clear t2 cc2 v2 p2))
    | (go_at_call 14; go_loud ((refine (longest_calls w.heap.size 0 (0 + 128) X2 (some ⟨w2.heap.size, 0, none⟩) 3 [1, 2, 3] (w2.alloc (.cells #[.int .i64 1, .int .i64 2, .int .i64 3] 3 (0, 0))) (T2.out.below (below_alloc (Below.refl _ _) _)) (Kd.F_now (lit_F (l := [1, 2, 3]) (blk_new w2 _) (by decide))) (small_i64 (by decide))).mono ?_); rw [V2.out, show ([1, 2, 3] : List Int).length = 3 from rfl, long_new]; rintro e w3 ⟨rfl, hb⟩; have C3 := Aside0.mk ((C2.out.below (below_alloc (Below.refl _ _) (.cells #[.int .i64 1, .int .i64 2, .int .i64 3] 3 (0, 0)))).below hb); have E3 := Aside0.mk (E2.out.trans (((below_alloc (Below.refl w2.heap.size w2) (.cells #[.int .i64 1, .int .i64 2, .int .i64 3] 3 (0, 0))).trans (hb.mono (by rw [World.size_alloc]; omega))).mono E2.out.size)); clear hb))
    | (go_at_call 12; go_loud ((refine (count_calls w.heap.size 0 1 w3 C3.out).mono ?_); rintro e w4 ⟨rfl, rfl⟩)))
  go_ret
  exact ⟨rfl, E3.out⟩
/-- A trie that a law made: its values, how many, and where it lies. -/
structure Tr (W : World) (g N : Nat) (cnt : Int) (val : Row → Option Int) (lo : Nat) (X : TX) : Prop where
  tr : TrieAt W g 0 N X
  ct : CntAt W g 0 cnt
  vl : X.val = val
  lo : ∀ k, foot X k → lo ≤ k
theorem Tr.below {W W' : World} {g N : Nat} {cnt : Int} {val : Row → Option Int} {lo : Nat} {X : TX} (h : Tr W g N cnt val lo X) (hb : Below W.heap.size W W') : Tr W' g N cnt val lo X :=
  ⟨h.tr.below hb, h.ct.below hb, h.vl, h.lo⟩
theorem Tr.zero {W : World} {g : Nat} (h : W.heap[g]? = some (.cells zcells 27 (0, 0))) : Tr W g 0 0 (fun _ => none) g (zX g 0) :=
  ⟨(zero_at h).1, (zero_at h).2, rfl, fun k hk => by have := foot_zero hk; omega⟩
/-- Behind a call. -/
theorem Tr.then_ {W W' : World} {g N N' n : Nat} {cnt cnt' : Int} {val val' : Row → Option Int} {lo : Nat} {X : TX} (h : Tr W g N cnt val lo X) (hl : lo ≤ W.heap.size) (d : Done n W W' g 0 N' X val' cnt') :
    ∃ X', Tr W' g N' cnt' val' lo X' ∧ Post n W W' g 0 X X' ∧ Below lo W W' := by
  obtain ⟨X', t, c, v, p⟩ := d
  exact ⟨X', ⟨t, c, v, fun k hk => (p.foot k hk).elim (h.lo k) (fun hq => by omega)⟩, p, p.below lo hl h.lo⟩
end Go.Proofs.Ytfnogcppbhggpaa.OTrie
