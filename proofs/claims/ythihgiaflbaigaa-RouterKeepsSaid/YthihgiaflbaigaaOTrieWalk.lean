/- (*node).walk, (*Trie).All, walked by hand. -/
import Derived.Test.YthihgiaflbaigaaGQx2
import Derived.Test.YthihgiaflbaigaaOTrieSee
import Derived.Deep.RegionHeld3
set_option linter.unusedVariables false
set_option linter.unusedSimpArgs false
namespace Go.Proofs.Ythihgiaflbaigaa.OTrie
open Go.RowKit Go.Proofs.YthihgiaflbaigaaW.PrintWords Go.Proofs.YthihgiaflbaigaaW.PrintLast Go.Proofs.YthihgiaflbaigaaW.PrintMore Go.Proofs.Ythihgiaflbaigaa.GQ Go.Proofs.Ythihgiaflbaigaa.OMap Go.Proofs.Ythihgiaflbaigaa.UTrie Go.Maps
theorem TrieAt.grew {w w' : World} {g o N : Nat} {X : TX} {B base : Nat} {v v' : Value} {out : List Ent} (h : TrieAt w g o N X) (hO : OutAt w B base v out) (hb : ∀ k, foot X k → k < base) (hg : Grew w w' B base v v') : TrieAt w' g o N X :=
  h.kept hg.kept (fun k hk hS => by
    have h1 := hb k hk
    rcases hS with e | e
    · have := hO.lo; omega
    · obtain ⟨inner, hi⟩ := Kd.R_own hO.row
      have := own_base hi k e.symm
      omega)
theorem out_lt {w : World} {B base : Nat} {v : Value} {out : List Ent} (hO : OutAt w B base v out) : ∀ k, (k = B ∨ some k = v.ownBlock) → k < w.heap.size := by
  rintro k (e | e)
  · have := blk_lt hO.box; omega
  · obtain ⟨inner, hi⟩ := Kd.R_own hO.row
    exact own_lt hi k e.symm
/-- Rows that lie elsewhere stay. -/
theorem far_grew {w w' : World} {B base : Nat} {v v' : Value} {A : Option Addr} {n : Nat} {xs : List Int} {ok : Nat → Prop} (h : Kd.F kI w ok A n xs) (hok : ∀ k, ok k → ¬ (k = B ∨ some k = v.ownBlock)) (hg : Grew w w' B base v v') : Kd.F kI w' ok A n xs :=
  Kd.F_kept h hg.kept hok
theorem at_node {W : World} {g o N : Nat} {X : TX} (h : TrieAt W g o N X) {p : Row} {a b m : Nat} (hp : X.nd p = some (a, b)) (hm : X.mp p = some m) {x : Int} (hx : i64 x) {k : Nat} (hk : X.nd (p ++ [x]) = some (k, 0)) :
    W.cell? ⟨a, b, none⟩ = some (.map (some m)) ∧ (Instr.lookup 73 (.map (some m)) (.int .i64 x) false).run Try.prog W = .ok (.pointer (some ⟨k, 0, none⟩)) W := by
  have h1 := (h.node p a b hp).cells.1
  have h2 := look_kid h (p := p) (by rw [hp]; simp) hx
  rw [hm] at h1 h2
  rw [hk] at h2
  exact ⟨h1, h2⟩
theorem clone_eq (l : List Int) (h : l.length ≤ 1000000) : slices_Clone_int_int.f l = some l := by
  unfold slices_Clone_int_int.f
  rw [Option.bind_some, if_pos (by simp; omega)]
  rfl
/-- A node's row when a map is kept under it. -/
theorem kid_wf {W : World} {g o N : Nat} {X : TX} (h : TrieAt W g o N X) {p : Row} {x : Int} (hk : X.nd (p ++ [x]) ≠ none) : ∃ m, X.mp p = some m ∧ i64 x ∧ ∃ k, X.nd (p ++ [x]) = some (k, 0) := by
  have hp := h.pre p x hk
  cases hm : X.mp p with
  | none => exact absurd (h.nomap p hp hm x) hk
  | some m =>
    obtain ⟨D, h1, h2, h3⟩ := h.map p m hp hm
    cases e : X.nd (p ++ [x]) with
    | none => exact absurd e hk
    | some q =>
      obtain ⟨k, b⟩ := q
      have hb := h.kid p x k b e
      subst hb
      exact ⟨m, rfl, (h3 x k (by unfold kidOf; rw [e]; rfl)).1, k, rfl⟩
/-- What walk adds. -/
structure WPre (w : World) (g o N : Nat) (X : TX) (l : List Ent) (p : Row) (a b : Nat) (B base : Nat) (v : Value) (out : List Ent) (A : Option Addr) (c : Nat) : Prop where
  tr : TrieAt w g o N X
  nd : X.nd p = some (a, b)
  fr : Kd.F kI w (fun k => ¬ (k = B ∨ some k = v.ownBlock)) A p.length p
  le : p.length ≤ c
  outAt : OutAt w B base v out
  far : ∀ k, foot X k → k < base
  len : out.length + (sub p l).length ≤ 1000000000
theorem take_flat (ks : List Int) (f : Int → List Ent) (i : Nat) (hi : i < ks.length) : (ks.take (i + 1)).flatMap f = (ks.take i).flatMap f ++ f (rd ks i) := by
  rw [take_snoc ks i hi, List.flatMap_append]
  simp
theorem sub_le {l : List Ent} (p : Row) : (sub p l).length ≤ l.length := List.length_filter_le _ _
theorem flat_le {l : List Ent} {val : Row → Option Int} (hr : Rep l val) (p : Row) (ks : List Int) (hk : ks.Pairwise (· < ·)) (hin : ∀ x s v, val (p ++ x :: s) = some v → x ∈ ks) (i : Nat) (hi : i < ks.length) :
    (own val p).length + ((ks.take i).flatMap (fun x => sub (p ++ [x]) l)).length + (sub (p ++ [rd ks i]) l).length ≤ (sub p l).length := by
  rw [sub_walk hr p ks hk hin]
  have e : ks.flatMap (fun x => sub (p ++ [x]) l) = (ks.take (i + 1)).flatMap (fun x => sub (p ++ [x]) l) ++ (ks.drop (i + 1)).flatMap (fun x => sub (p ++ [x]) l) := by
    rw [← List.flatMap_append, List.take_append_drop]
  rw [e, take_flat ks _ i hi]
  simp only [List.length_append]
  omega
theorem one_C {w : World} {b : Nat} {x : Int} (h : w.heap[b]? = some (.cells #[.int .i64 x] 3 (0, 0))) : kI.C w (some ⟨b, 0, none⟩) 1 [x] := by
  have hr : w.ownsRow 0 3 1 (.slice (some ⟨b, 0, none⟩) 1 1) [x].length (encs (Value.int .i64) [x]) := ⟨rfl, .inr ⟨b, 1, #[.int .i64 x], rfl, Nat.zero_le _, h, Nat.le_refl _, by unfold maxLen; omega, rfl, rfl⟩⟩
  exact (Kd.R_reads' (Kd.R_of_own (enc := Value.int .i64) (h1 := fun _ => rfl) (ok := fun _ => True) hr (fun _ _ => trivial))).2.2
theorem sorted_any {W : World} {g o N : Nat} {X : TX} (h : TrieAt W g o N X) (hN : N ≤ 10000000000) {p : Row} (hp : X.nd p ≠ none) :
    Calls Try.prog 53 #[.func (.func 57) #[] #[.pointer (some ⟨W.heap.size, 0, none⟩)]] (W.alloc (.cells #[.map (X.mp p)] 73)) (Sorts (W.alloc (.cells #[.map (X.mp p)] 73)) N (kidOf X p)) := by
  cases hm : X.mp p with
  | none =>
    have e : kidOf X p = fun _ => none := funext (fun x => by unfold kidOf; rw [h.nomap p hp hm x]; rfl)
    rw [e]
    refine (sorted_nil W).mono ?_
    rintro e w' ⟨A, c, ks, r1, r2, r3, r4, r5⟩
    exact ⟨A, c, ks, r1, r2, r3, Nat.le_trans r4 (Nat.zero_le _), r5⟩
  | some m => exact sorted_calls (h.map p m hp hm) hN
theorem far_next {w w' : World} {B base : Nat} {v v' : Value} (hg : Grew w w' B base v v') {k : Nat} (h : ¬ (k = B ∨ some k = v.ownBlock) ∧ k < w.heap.size) : ¬ (k = B ∨ some k = v'.ownBlock) := by
  rintro (e | e)
  · exact h.1 (.inl e)
  · rcases hg.at_ with e' | ⟨q, e', hq⟩
    · exact h.1 (.inr (by rw [e, e']))
    · rw [e'] at e
      cases e
      omega
set_option maxHeartbeats 16000000 in
set_option maxRecDepth 100000 in
theorem walk_calls (g o N : Nat) (X : TX) (l : List Ent) (hr : Rep l X.val) (hN : N ≤ 10000000000) : ∀ (d : Nat) (p : Row) (a b B base : Nat) (v : Value) (out : List Ent) (A : Option Addr) (c : Nat) (w : World), p.length + d = 129 → WPre w g o N X l p a b B base v out A c →
    Calls Try.prog 48 #[.pointer (some ⟨a, b, none⟩), .slice A p.length c, see B] w (Seen w B base v (out ++ sub p l)) := by
  intro d
  induction d with
  | zero =>
    intro p a b B base v out A c w hd hW
    have := hW.tr.len p (by rw [hW.nd]; simp)
    omega
  | succ d ih =>
    intro p a b B base v out A c w hd hW
    have IH := Aside0.mk ih
    have HW := Aside0.mk hW
    have eg := see_enters
    obtain ⟨c00, c1, c2, _⟩ := (hW.tr.node p a b hW.nd).cells
    clear c00
    have HD := Aside0.mk (show p.length + (d + 1) = 129 ∧ p.length ≤ 128 from ⟨hd, by have := hW.tr.len p (by rw [hW.nd]; simp); exact this⟩)
    have FR := Aside0.mk (Kd.F_bound hW.fr)
    have HLE := Aside0.mk hW.le
    clear ih hd
    cases hv : X.val p with
    | none =>
      rw [hv] at c1
      simp only [Option.isSome_none] at c1
      have O1 := Aside0.mk (show OutAt w B base v (out ++ own X.val p) by unfold own; rw [hv, List.append_nil]; exact hW.outAt)
      have G1 := Aside0.mk (Grew.of_below (B := B) (v := v) (Below.refl w.heap.size w) hW.outAt.lt)
      clear hW c2 hv
      go_enter Try.func48, Try.ntmps48
      go_upto_region 2 with (fail)
      clear c1
      have T1 := Aside0.mk (HW.out.tr.grew HW.out.outAt HW.out.far G1.out)
      obtain ⟨c0, _, _, _⟩ := (T1.out.node p a b HW.out.nd).cells
      have SA := Aside0.mk (sorted_any T1.out hN (p := p) (by rw [HW.out.nd]; simp))
      obtain ⟨mq, hmq⟩ : ∃ mq, X.mp p = mq := ⟨_, rfl⟩
      have HMQ := Aside0.mk hmq
      rw [hmq] at c0 SA
      clear hmq
      go_wp2_with (first
        | (go_at_call 54; go_loud ((refine (keys_calls mq _).mono ?_); rintro e w2 ⟨rfl, rfl⟩))
        | (go_at_call 53; go_loud ((refine SA.out.mono ?_); rintro e w3 ⟨Ak, ck, ks, rfl, k1, k2, k3, hR, hb⟩; have B3 := Aside0.mk ((below_alloc (Below.refl w.heap.size w) (.cells #[.map mq] 73)).trans (hb.mono (by rw [World.size_alloc]; omega))); have FK := Aside0.mk (Kd.F_mono (ok' := fun k => w.heap.size ≤ k) (Kd.R_F (Kd.R_bound hR)) (fun k hk => by have := hk.2.1; rw [World.size_alloc] at this; omega)); have KK := Aside0.mk (And.intro k1 (And.intro k2 k3)); clear k1 k2 k3 hR hb)))
      have O3 := Aside0.mk (O1.out.below B3.out)
      have G3 := Aside0.mk (G1.out.trans (Grew.of_below (B := B) (v := v) B3.out O1.out.lt))
      have KIN := Aside0.mk (show ∀ x s v, X.val (p ++ x :: s) = some v → x ∈ ks from fun x s v hv => (KK.out.2.1 x).2 (by
        have h1 := HW.out.tr.there (p ++ x :: s) (by rw [hv]; simp)
        have h2 := pre_all HW.out.tr s (p ++ [x]) (by rwa [List.append_assoc, List.singleton_append])
        unfold kidOf
        cases e : X.nd (p ++ [x]) with
        | none => exact absurd e h2
        | some q => simp))
      obtain ⟨nk, hnk⟩ : ∃ nk, ks.length = nk := ⟨_, rfl⟩
      have HNK := Aside0.mk hnk
      have hnk2 : nk ≤ 10000000000 := by rw [← hnk]; have := KK.out.2.2; omega
      rw [hnk]
      clear hnk c0 SA
      go_loopg [28] nk (fun kq v28 w' => ∃ (i : Nat) (v3 : Value), v28 = .int .i64 (i : Int) ∧ Aside0 (i + kq = nk) ∧ Aside0 (OutAt w' B base v3 (out ++ own X.val p ++ (ks.take i).flatMap (fun x => sub (p ++ [x]) l))) ∧ Aside0 (Grew w w' B base v v3) ∧ Aside0 (Grew w3 w' B base v v3))
      case atStart => exact ⟨0, v, rfl, ⟨Nat.zero_add _⟩, ⟨by rw [List.take_zero, List.flatMap_nil, List.append_nil]; exact O3.out⟩, G3, ⟨Grew.of_below (Below.refl _ _) O3.out.lt⟩⟩
      case round =>
        obtain ⟨i, v3, rfl, HJ, OW, GT, GW⟩ := hrel
        have hj := HJ.out
        cases gk with
        | succ k =>
          have e1 : decide (i < nk) = true := decide_eq_true (by omega)
          have p1 : 0 ≤ (i : Int) := by omega
          have q1 : (i : Int) < (nk : Int) := by omega
          have q2 : (nk : Int) ≤ 10000000000 := by omega
          have hi := Aside0.mk (show i < ks.length by rw [HNK.out]; omega)
          obtain ⟨ad, e0, hx0⟩ := at_int (Kd.F_now (far_grew FK.out (fun k hk e => by have := out_lt O1.out k e; omega) GW.out)) i hi.out
          cases e0
          have TR := Aside0.mk (HW.out.tr.grew HW.out.outAt HW.out.far GT.out)
          have KX := (KK.out.2.1 _).1 (rd_mem ks i hi.out)
          have FL := Aside0.mk (take_flat ks (fun x => sub (p ++ [x]) l) i hi.out)
          have LE := Aside0.mk (flat_le hr p ks KK.out.1 KIN.out i hi.out)
          obtain ⟨x, hx⟩ : ∃ x, rd ks i = x := ⟨_, rfl⟩
          rw [hx] at hx0 KX FL LE
          obtain ⟨mm, hm, hxw, kk, hkk⟩ := kid_wf TR.out (p := p) (x := x) (fun e => KX (by unfold kidOf; rw [e]; rfl))
          have HMM := Aside0.mk hm
          have HXW := Aside0.mk hxw
          have HKK := Aside0.mk hkk
          have FP := Aside0.mk (Kd.F_now (Kd.F_drew (Kd.F_kept FR.out GT.out.kept (fun k hk => hk.1))))
          have FPB := Aside0.mk (Kd.F_now (Kd.F_drew (Kd.F_alloc (Kd.F_kept FR.out GT.out.kept (fun k hk => hk.1)) (.cells #[.int .i64 x] 3))))
          have sn0 := at_node (TR.out.below (Below.refl _ _).drew) HW.out.nd hm hxw hkk
          obtain ⟨W, hWW⟩ : ∃ W, W = wr := ⟨_, rfl⟩
          subst hWW
          have hpl : p.length ≤ 128 := by have := HD.out; omega
          clear hj hx KX hm hxw hkk
          go_wp2
          go_region_held3 (fun w' => w'.cell? ⟨a, b, none⟩ = some (.map (some mm)) ∧ (Instr.lookup 73 (.map (some mm)) (.int .i64 x) false).run Try.prog w' = .ok (.pointer (some ⟨kk, 0, none⟩)) w')
            (first | exact sn3 | exact sn2 | exact at_node (TR.out.below (below_alloc BC.out _)) HW.out.nd HMM.out HXW.out HKK.out | exact sn1 | exact sn0 | exact at_node (TR.out.below ((below_alloc (Below.refl W.heap.size W) _).drew)) HW.out.nd HMM.out HXW.out HKK.out)
            (first
              | (go_at_call 30; ((with_reducible refine (slices_Clone_int_int.calls A c p p W.drew FP.out HLE.out (clone_eq p (by have := HD.out; omega))).mono ?_); rintro e wc ⟨v0, rfl, hR, hb⟩; obtain ⟨A0, c0, e0⟩ := Kd.R_slice hR; subst e0; have RC := Aside0.mk (show kI.R 3 wc W.heap.size (fun _ => True) (.slice A0 p.length c0) p from hR); have BC := Aside0.mk ((Below.refl W.heap.size W).drew.trans hb); have sn1 := at_node (TR.out.below BC.out) HW.out.nd HMM.out HXW.out HKK.out; clear hR hb))
              | (go_at_call 30; go_loud ((refine (slices_Clone_int_int.calls A c p p (W.alloc (.cells #[.int .i64 x] 3)).drew FPB.out HLE.out (clone_eq p (by have := HD.out; omega))).mono ?_); rintro e wc ⟨v0, rfl, hR, hb⟩; obtain ⟨A0, c0, e0⟩ := Kd.R_slice hR; subst e0; have RC := Aside0.mk (Kd.R_lower (base' := W.heap.size) hR (by show W.heap.size ≤ (W.alloc (.cells #[.int .i64 x] 3)).heap.size; rw [World.size_alloc]; omega)); have XB := Aside0.mk (blk_below (show (W.alloc (.cells #[.int .i64 x] 3)).drew.heap[W.heap.size]? = some (.cells #[.int .i64 x] 3 (0, 0)) from blk_new W _) hb); have BC := Aside0.mk ((below_alloc (Below.refl W.heap.size W) (.cells #[.int .i64 x] 3)).drew.trans (hb.mono (by show W.heap.size ≤ (W.alloc (.cells #[.int .i64 x] 3)).heap.size; rw [World.size_alloc]; omega))); have sn1 := at_node (TR.out.below BC.out) HW.out.nd HMM.out HXW.out HKK.out; clear hR hb))
              | (go_at_call 48; go_loud ((refine (IC.out).mono ?_); rintro e w6 ⟨⟨re, rfl⟩, v6, hO, hG⟩; have O6 := Aside0.mk hO; have G6 := Aside0.mk ((Grew.of_below (B := B) (v := v3) B5.out OW.out.lt).trans hG); have sn3 := at_node (HW.out.tr.grew HW.out.outAt HW.out.far (GT.out.trans G6.out)) HW.out.nd HMM.out HXW.out HKK.out; clear hO hG))
              | (refine Kd.R_append_rows_step kI (Rr := kI.K (wc.alloc (.cells #[.int .i64 x] 3))) (w0 := W) W.heap.size (by rfl) (.tmp 39) (.tmp 41) 22 3 (.int .i64 0) 8 rfl Try.underlying22 infoI rfl (by decide) (by omega) (.slice A0 p.length c0) p [x] (some ⟨wc.heap.size, 0, none⟩) 1 1 (fun _ => True) (fun _ => False) (by rfl) (by rfl) (Kd.R_below RC.out (below_alloc (Below.refl wc.heap.size wc) (.cells #[.int .i64 x] 3))) (one_C (blk_new wc _)) (fun _ _ h => h) (fun _ h => h.elim) (fun _ _ => trivial) (below_then BC.out BC.out.size (below_alloc (Below.refl wc.heap.size wc) (.cells #[.int .i64 x] 3))) (Nat.le_trans BC.out.size ((below_alloc (Below.refl wc.heap.size wc) (.cells #[.int .i64 x] 3))).size) (by omega) ?_; intro v5 w5 hN hB hg hat; obtain ⟨A5, c5, e5⟩ := Kd.R_slice hN; subst e5; have B5 := Aside0.mk hB; have RF := Aside0.mk hN; have sn2 := at_node (TR.out.below B5.out) HW.out.nd HMM.out HXW.out HKK.out; have ic := IH.out (p ++ [x]) kk 0 B base v3 (out ++ own X.val p ++ (ks.take i).flatMap (fun x => sub (p ++ [x]) l)) A5 c5 w5 (by rw [List.length_append, List.length_singleton]; have := HD.out; omega) ⟨TR.out.below B5.out, HKK.out, Kd.F_mono (Kd.R_F (Kd.R_bound RF.out)) (fun k hk e => by have h1 := out_lt OW.out k e; have h2 := hk.2.1; omega), (Kd.R_reads' RF.out).2.1, OW.out.below B5.out, HW.out.far, by have h1 := LE.out; have h2 := HW.out.len; rw [List.length_append, List.length_append]; omega⟩; rw [List.length_append, List.length_singleton] at ic; have IC := Aside0.mk ic; rw [List.length_append, List.length_singleton]; clear ic hN hB hg hat)
              | (refine Kd.R_append_rows_step kI (Rr := kI.K (wc)) (w0 := W) W.heap.size (by rfl) (.tmp 39) (.tmp 41) 22 3 (.int .i64 0) 8 rfl Try.underlying22 infoI rfl (by decide) (by omega) (.slice A0 p.length c0) p [x] (some ⟨W.heap.size, 0, none⟩) 1 1 (fun _ => True) (fun _ => False) (by rfl) (by rfl) (Kd.R_below RC.out (Below.refl wc.heap.size wc)) (one_C XB.out) (fun _ _ h => h) (fun _ h => h.elim) (fun _ _ => trivial) (below_then BC.out BC.out.size (Below.refl wc.heap.size wc)) (Nat.le_trans BC.out.size ((Below.refl wc.heap.size wc)).size) (by omega) ?_; intro v5 w5 hN hB hg hat; obtain ⟨A5, c5, e5⟩ := Kd.R_slice hN; subst e5; have B5 := Aside0.mk hB; have RF := Aside0.mk hN; have sn2 := at_node (TR.out.below B5.out) HW.out.nd HMM.out HXW.out HKK.out; have ic := IH.out (p ++ [x]) kk 0 B base v3 (out ++ own X.val p ++ (ks.take i).flatMap (fun x => sub (p ++ [x]) l)) A5 c5 w5 (by rw [List.length_append, List.length_singleton]; have := HD.out; omega) ⟨TR.out.below B5.out, HKK.out, Kd.F_mono (Kd.R_F (Kd.R_bound RF.out)) (fun k hk e => by have h1 := out_lt OW.out k e; have h2 := hk.2.1; omega), (Kd.R_reads' RF.out).2.1, OW.out.below B5.out, HW.out.far, by have h1 := LE.out; have h2 := HW.out.len; rw [List.length_append, List.length_append]; omega⟩; rw [List.length_append, List.length_singleton] at ic; have IC := Aside0.mk ic; rw [List.length_append, List.length_singleton]; clear ic hN hB hg hat))
          all_goals (
            go_wp2
            go_roundg k
            case measure => omega
            case rel => exact ⟨i + 1, v6, by go_num, ⟨by have := HJ.out; omega⟩, ⟨by rw [FL.out, ← List.append_assoc]; exact O6.out⟩, ⟨GT.out.trans G6.out⟩, ⟨GW.out.trans G6.out⟩⟩)
        | zero =>
          have hin : i = nk := by omega
          subst hin
          have e1 : decide (i < i) = false := decide_eq_false (by omega)
          clear hj
          go_wp2
          refine bodyPost_end (results_none rfl _ _ _) rfl ?_
          refine ⟨⟨_, rfl⟩, v3, ?_, GT.out⟩
          rw [sub_walk hr p ks KK.out.1 KIN.out, ← List.append_assoc]
          have h := OW.out
          rw [List.take_of_length_le (by rw [HNK.out]; omega)] at h
          exact h
    | some u =>
      rw [hv] at c1 c2
      simp only [Option.isSome_some, Option.getD_some] at c1 c2
      have HV := Aside0.mk hv
      clear hW hv
      go_enter Try.func48, Try.ntmps48
      go_wp2
      have sn0 : w.drew.cell? ⟨a, b + 2, none⟩ = some (.int .i64 u) := c2
      go_region_held3 (fun w' => w'.cell? ⟨a, b + 2, none⟩ = some (.int .i64 u))
        (first | exact sn | exact sn0)
        (first
          | (go_at_call 30; go_loud ((with_reducible refine (slices_Clone_int_int.calls A c p p _ (Kd.F_now (Kd.F_drew FR.out)) HLE.out (clone_eq p (by have := HD.out; omega))).mono ?_); rintro e wc ⟨v0, rfl, hR, hb⟩; obtain ⟨A0, c0, e0⟩ := Kd.R_slice hR; subst e0; have sn := ((HW.out.tr.below ((Below.refl w.heap.size w).drew.trans hb)).node p a b HW.out.nd).cells.2.2.1; rw [HV.out] at sn; simp only [Option.getD_some] at sn; have RC := Aside0.mk (show kI.R 3 wc w.heap.size (fun _ => True) (.slice A0 p.length c0) p from hR); have BC := Aside0.mk ((Below.refl w.heap.size w).drew.trans hb); clear hR hb))
          | (go_at_fn 49; (with_reducible refine (see_calls B base out v p u A0 c0 (fun k => w.heap.size ≤ k) wc (HW.out.outAt.below BC.out) (Kd.R_lower (Kd.R_mono (Kd.R_bound RC.out) (fun k hk => hk.2.1)) HW.out.outAt.lt) (fun k hk e => by have h1 := out_lt HW.out.outAt k (.inr e); omega) (by have := HW.out.len; omega)).mono ?_); rintro e w1 ⟨⟨re, rfl⟩, v1, hO, hG⟩; have O1 := Aside0.mk (show OutAt w1 B base v1 (out ++ own X.val p) by unfold own; rw [HV.out]; exact hO); have G1 := Aside0.mk ((Grew.of_below (B := B) (v := v) BC.out HW.out.outAt.lt).trans hG); have sn := ((HW.out.tr.grew HW.out.outAt HW.out.far G1.out).node p a b HW.out.nd).cells.2.2.1; rw [HV.out] at sn; simp only [Option.getD_some] at sn; clear hO hG))
      go_upto_region 2 with (fail)
      clear sn sn0 c1 c2 RC BC
      have T1 := Aside0.mk (HW.out.tr.grew HW.out.outAt HW.out.far G1.out)
      obtain ⟨c0, _, _, _⟩ := (T1.out.node p a b HW.out.nd).cells
      have SA := Aside0.mk (sorted_any T1.out hN (p := p) (by rw [HW.out.nd]; simp))
      obtain ⟨mq, hmq⟩ : ∃ mq, X.mp p = mq := ⟨_, rfl⟩
      have HMQ := Aside0.mk hmq
      rw [hmq] at c0 SA
      clear hmq
      go_wp2_with (first
        | (go_at_call 54; go_loud ((refine (keys_calls mq _).mono ?_); rintro e w2 ⟨rfl, rfl⟩))
        | (go_at_call 53; go_loud ((refine SA.out.mono ?_); rintro e w3 ⟨Ak, ck, ks, rfl, k1, k2, k3, hR, hb⟩; have B3 := Aside0.mk ((below_alloc (Below.refl w1.heap.size w1) (.cells #[.map mq] 73)).trans (hb.mono (by rw [World.size_alloc]; omega))); have FK := Aside0.mk (Kd.F_mono (ok' := fun k => w1.heap.size ≤ k) (Kd.R_F (Kd.R_bound hR)) (fun k hk => by have := hk.2.1; rw [World.size_alloc] at this; omega)); have KK := Aside0.mk (And.intro k1 (And.intro k2 k3)); clear k1 k2 k3 hR hb)))
      have O3 := Aside0.mk (O1.out.below B3.out)
      have G3 := Aside0.mk (G1.out.trans (Grew.of_below (B := B) (v := v1) B3.out O1.out.lt))
      have KIN := Aside0.mk (show ∀ x s v, X.val (p ++ x :: s) = some v → x ∈ ks from fun x s v hv => (KK.out.2.1 x).2 (by
        have h1 := HW.out.tr.there (p ++ x :: s) (by rw [hv]; simp)
        have h2 := pre_all HW.out.tr s (p ++ [x]) (by rwa [List.append_assoc, List.singleton_append])
        unfold kidOf
        cases e : X.nd (p ++ [x]) with
        | none => exact absurd e h2
        | some q => simp))
      obtain ⟨nk, hnk⟩ : ∃ nk, ks.length = nk := ⟨_, rfl⟩
      have HNK := Aside0.mk hnk
      have hnk2 : nk ≤ 10000000000 := by rw [← hnk]; have := KK.out.2.2; omega
      rw [hnk]
      clear hnk c0 SA
      go_loopg [28] nk (fun kq v28 w' => ∃ (i : Nat) (v3 : Value), v28 = .int .i64 (i : Int) ∧ Aside0 (i + kq = nk) ∧ Aside0 (OutAt w' B base v3 (out ++ own X.val p ++ (ks.take i).flatMap (fun x => sub (p ++ [x]) l))) ∧ Aside0 (Grew w w' B base v v3) ∧ Aside0 (Grew w3 w' B base v1 v3))
      case atStart => exact ⟨0, v1, rfl, ⟨Nat.zero_add _⟩, ⟨by rw [List.take_zero, List.flatMap_nil, List.append_nil]; exact O3.out⟩, G3, ⟨Grew.of_below (Below.refl _ _) O3.out.lt⟩⟩
      case round =>
        obtain ⟨i, v3, rfl, HJ, OW, GT, GW⟩ := hrel
        have hj := HJ.out
        cases gk with
        | succ k =>
          have e1 : decide (i < nk) = true := decide_eq_true (by omega)
          have p1 : 0 ≤ (i : Int) := by omega
          have q1 : (i : Int) < (nk : Int) := by omega
          have q2 : (nk : Int) ≤ 10000000000 := by omega
          have hi := Aside0.mk (show i < ks.length by rw [HNK.out]; omega)
          obtain ⟨ad, e0, hx0⟩ := at_int (Kd.F_now (far_grew FK.out (fun k hk e => by have := out_lt O1.out k e; omega) GW.out)) i hi.out
          cases e0
          have TR := Aside0.mk (HW.out.tr.grew HW.out.outAt HW.out.far GT.out)
          have KX := (KK.out.2.1 _).1 (rd_mem ks i hi.out)
          have FL := Aside0.mk (take_flat ks (fun x => sub (p ++ [x]) l) i hi.out)
          have LE := Aside0.mk (flat_le hr p ks KK.out.1 KIN.out i hi.out)
          obtain ⟨x, hx⟩ : ∃ x, rd ks i = x := ⟨_, rfl⟩
          rw [hx] at hx0 KX FL LE
          obtain ⟨mm, hm, hxw, kk, hkk⟩ := kid_wf TR.out (p := p) (x := x) (fun e => KX (by unfold kidOf; rw [e]; rfl))
          have HMM := Aside0.mk hm
          have HXW := Aside0.mk hxw
          have HKK := Aside0.mk hkk
          have FP := Aside0.mk (Kd.F_now (Kd.F_drew (Kd.F_kept FR.out GT.out.kept (fun k hk => hk.1))))
          have FPB := Aside0.mk (Kd.F_now (Kd.F_drew (Kd.F_alloc (Kd.F_kept FR.out GT.out.kept (fun k hk => hk.1)) (.cells #[.int .i64 x] 3))))
          have sn0 := at_node (TR.out.below (Below.refl _ _).drew) HW.out.nd hm hxw hkk
          obtain ⟨W, hWW⟩ : ∃ W, W = wr := ⟨_, rfl⟩
          subst hWW
          have hpl : p.length ≤ 128 := by have := HD.out; omega
          clear hj hx KX hm hxw hkk
          go_wp2
          go_region_held3 (fun w' => w'.cell? ⟨a, b, none⟩ = some (.map (some mm)) ∧ (Instr.lookup 73 (.map (some mm)) (.int .i64 x) false).run Try.prog w' = .ok (.pointer (some ⟨kk, 0, none⟩)) w')
            (first | exact sn3 | exact sn2 | exact at_node (TR.out.below (below_alloc BC.out _)) HW.out.nd HMM.out HXW.out HKK.out | exact sn1 | exact sn0 | exact at_node (TR.out.below ((below_alloc (Below.refl W.heap.size W) _).drew)) HW.out.nd HMM.out HXW.out HKK.out)
            (first
              | (go_at_call 30; ((with_reducible refine (slices_Clone_int_int.calls A c p p W.drew FP.out HLE.out (clone_eq p (by have := HD.out; omega))).mono ?_); rintro e wc ⟨v0, rfl, hR, hb⟩; obtain ⟨A0, c0, e0⟩ := Kd.R_slice hR; subst e0; have RC := Aside0.mk (show kI.R 3 wc W.heap.size (fun _ => True) (.slice A0 p.length c0) p from hR); have BC := Aside0.mk ((Below.refl W.heap.size W).drew.trans hb); have sn1 := at_node (TR.out.below BC.out) HW.out.nd HMM.out HXW.out HKK.out; clear hR hb))
              | (go_at_call 30; go_loud ((refine (slices_Clone_int_int.calls A c p p (W.alloc (.cells #[.int .i64 x] 3)).drew FPB.out HLE.out (clone_eq p (by have := HD.out; omega))).mono ?_); rintro e wc ⟨v0, rfl, hR, hb⟩; obtain ⟨A0, c0, e0⟩ := Kd.R_slice hR; subst e0; have RC := Aside0.mk (Kd.R_lower (base' := W.heap.size) hR (by show W.heap.size ≤ (W.alloc (.cells #[.int .i64 x] 3)).heap.size; rw [World.size_alloc]; omega)); have XB := Aside0.mk (blk_below (show (W.alloc (.cells #[.int .i64 x] 3)).drew.heap[W.heap.size]? = some (.cells #[.int .i64 x] 3 (0, 0)) from blk_new W _) hb); have BC := Aside0.mk ((below_alloc (Below.refl W.heap.size W) (.cells #[.int .i64 x] 3)).drew.trans (hb.mono (by show W.heap.size ≤ (W.alloc (.cells #[.int .i64 x] 3)).heap.size; rw [World.size_alloc]; omega))); have sn1 := at_node (TR.out.below BC.out) HW.out.nd HMM.out HXW.out HKK.out; clear hR hb))
              | (go_at_call 48; go_loud ((refine (IC.out).mono ?_); rintro e w6 ⟨⟨re, rfl⟩, v6, hO, hG⟩; have O6 := Aside0.mk hO; have G6 := Aside0.mk ((Grew.of_below (B := B) (v := v3) B5.out OW.out.lt).trans hG); have sn3 := at_node (HW.out.tr.grew HW.out.outAt HW.out.far (GT.out.trans G6.out)) HW.out.nd HMM.out HXW.out HKK.out; clear hO hG))
              | (refine Kd.R_append_rows_step kI (Rr := kI.K (wc.alloc (.cells #[.int .i64 x] 3))) (w0 := W) W.heap.size (by rfl) (.tmp 39) (.tmp 41) 22 3 (.int .i64 0) 8 rfl Try.underlying22 infoI rfl (by decide) (by omega) (.slice A0 p.length c0) p [x] (some ⟨wc.heap.size, 0, none⟩) 1 1 (fun _ => True) (fun _ => False) (by rfl) (by rfl) (Kd.R_below RC.out (below_alloc (Below.refl wc.heap.size wc) (.cells #[.int .i64 x] 3))) (one_C (blk_new wc _)) (fun _ _ h => h) (fun _ h => h.elim) (fun _ _ => trivial) (below_then BC.out BC.out.size (below_alloc (Below.refl wc.heap.size wc) (.cells #[.int .i64 x] 3))) (Nat.le_trans BC.out.size ((below_alloc (Below.refl wc.heap.size wc) (.cells #[.int .i64 x] 3))).size) (by omega) ?_; intro v5 w5 hN hB hg hat; obtain ⟨A5, c5, e5⟩ := Kd.R_slice hN; subst e5; have B5 := Aside0.mk hB; have RF := Aside0.mk hN; have sn2 := at_node (TR.out.below B5.out) HW.out.nd HMM.out HXW.out HKK.out; have ic := IH.out (p ++ [x]) kk 0 B base v3 (out ++ own X.val p ++ (ks.take i).flatMap (fun x => sub (p ++ [x]) l)) A5 c5 w5 (by rw [List.length_append, List.length_singleton]; have := HD.out; omega) ⟨TR.out.below B5.out, HKK.out, Kd.F_mono (Kd.R_F (Kd.R_bound RF.out)) (fun k hk e => by have h1 := out_lt OW.out k e; have h2 := hk.2.1; omega), (Kd.R_reads' RF.out).2.1, OW.out.below B5.out, HW.out.far, by have h1 := LE.out; have h2 := HW.out.len; rw [List.length_append, List.length_append]; omega⟩; rw [List.length_append, List.length_singleton] at ic; have IC := Aside0.mk ic; rw [List.length_append, List.length_singleton]; clear ic hN hB hg hat)
              | (refine Kd.R_append_rows_step kI (Rr := kI.K (wc)) (w0 := W) W.heap.size (by rfl) (.tmp 39) (.tmp 41) 22 3 (.int .i64 0) 8 rfl Try.underlying22 infoI rfl (by decide) (by omega) (.slice A0 p.length c0) p [x] (some ⟨W.heap.size, 0, none⟩) 1 1 (fun _ => True) (fun _ => False) (by rfl) (by rfl) (Kd.R_below RC.out (Below.refl wc.heap.size wc)) (one_C XB.out) (fun _ _ h => h) (fun _ h => h.elim) (fun _ _ => trivial) (below_then BC.out BC.out.size (Below.refl wc.heap.size wc)) (Nat.le_trans BC.out.size ((Below.refl wc.heap.size wc)).size) (by omega) ?_; intro v5 w5 hN hB hg hat; obtain ⟨A5, c5, e5⟩ := Kd.R_slice hN; subst e5; have B5 := Aside0.mk hB; have RF := Aside0.mk hN; have sn2 := at_node (TR.out.below B5.out) HW.out.nd HMM.out HXW.out HKK.out; have ic := IH.out (p ++ [x]) kk 0 B base v3 (out ++ own X.val p ++ (ks.take i).flatMap (fun x => sub (p ++ [x]) l)) A5 c5 w5 (by rw [List.length_append, List.length_singleton]; have := HD.out; omega) ⟨TR.out.below B5.out, HKK.out, Kd.F_mono (Kd.R_F (Kd.R_bound RF.out)) (fun k hk e => by have h1 := out_lt OW.out k e; have h2 := hk.2.1; omega), (Kd.R_reads' RF.out).2.1, OW.out.below B5.out, HW.out.far, by have h1 := LE.out; have h2 := HW.out.len; rw [List.length_append, List.length_append]; omega⟩; rw [List.length_append, List.length_singleton] at ic; have IC := Aside0.mk ic; rw [List.length_append, List.length_singleton]; clear ic hN hB hg hat))
          all_goals (
            go_wp2
            go_roundg k
            case measure => omega
            case rel => exact ⟨i + 1, v6, by go_num, ⟨by have := HJ.out; omega⟩, ⟨by rw [FL.out, ← List.append_assoc]; exact O6.out⟩, ⟨GT.out.trans G6.out⟩, ⟨GW.out.trans G6.out⟩⟩)
        | zero =>
          have hin : i = nk := by omega
          subst hin
          have e1 : decide (i < i) = false := decide_eq_false (by omega)
          clear hj
          go_wp2
          refine bodyPost_end (results_none rfl _ _ _) rfl ?_
          refine ⟨⟨_, rfl⟩, v3, ?_, GT.out⟩
          rw [sub_walk hr p ks KK.out.1 KIN.out, ← List.append_assoc]
          have h := OW.out
          rw [List.take_of_length_le (by rw [HNK.out]; omega)] at h
          exact h
end Go.Proofs.Ythihgiaflbaigaa.OTrie
