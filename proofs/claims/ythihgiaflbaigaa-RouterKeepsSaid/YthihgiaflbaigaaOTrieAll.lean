/- (*Trie).All, (*Trie).DropValue, walked by hand. -/
import Derived.Test.YthihgiaflbaigaaOTrieWalk
set_option linter.unusedVariables false
set_option linter.unusedSimpArgs false
namespace Go.Proofs.Ythihgiaflbaigaa.OTrie
open Go.RowKit Go.Proofs.YthihgiaflbaigaaW.PrintWords Go.Proofs.YthihgiaflbaigaaW.PrintLast Go.Proofs.YthihgiaflbaigaaW.PrintMore Go.Proofs.Ythihgiaflbaigaa.GQ Go.Proofs.Ythihgiaflbaigaa.OMap Go.Proofs.Ythihgiaflbaigaa.UTrie Go.Maps
/-- What All answers. -/
def Told (w : World) (l : List Ent) (e : Ending) (w' : World) : Prop :=
  ∃ (A : Option Addr) (c : Nat), e = .returned (.slice A l.length c) ∧ kE.R 101 w' w.heap.size (fun _ => True) (.slice A l.length c) l ∧ Below w.heap.size w w'
set_option maxHeartbeats 8000000 in
theorem all_calls (g o N : Nat) (X : TX) (l : List Ent) (w : World) (h : TrieAt w g o N X) (hr : Rep l X.val) (hN : N ≤ 10000000000) (hl : l.length ≤ 1000000000) :
    Calls Try.prog 40 #[.pointer (some ⟨g, o, none⟩)] w (Told w l) := by
  have b1 := below_alloc (Below.refl w.heap.size w) (.cells #[.slice none 0 0] 98 (0, 0))
  have wp : WPre (w.alloc (.cells #[.slice none 0 0] 98 (0, 0))) g o N X l [] g o w.heap.size w.heap.size (.slice none 0 0) [] none 0 :=
    ⟨h.below b1, h.root, Kd.F_nil _ _ _, Nat.le_refl _, ⟨blk_new _ _, Kd.R_nil _ _ _ _ _, Nat.le_refl _⟩, fun k hk => foot_lt h hk, by rw [sub_nil]; simpa using hl⟩
  have wk := walk_calls g o N X l hr hN 129 [] g o w.heap.size w.heap.size (.slice none 0 0) [] none 0 _ rfl wp
  rw [sub_nil, List.nil_append, List.length_nil] at wk
  have WK := Aside0.mk wk
  have B1 := Aside0.mk b1
  clear h hr hN hl wp wk b1
  go_enter Try.func40, Try.ntmps40
  go_wp2_with (go_at_call 48; go_loud ((refine WK.out.mono ?_); rintro e w2 ⟨⟨re, rfl⟩, v', hO, hG⟩; obtain ⟨A2, c2, ev⟩ := Kd.R_slice hO.row; subst ev; have y0 := (blk_cell hO.box 0).trans (show #[Value.slice A2 l.length c2][0]? = some (Value.slice A2 l.length c2) from rfl); have O2 := Aside0.mk hO; have B2 := Aside0.mk (B1.out.trans hG.bel); clear hO hG))
  go_ret
  exact ⟨A2, c2, rfl, O2.out.row, B2.out⟩
theorem nd_wf {W : World} {g o N : Nat} {X : TX} (h : TrieAt W g o N X) : ∀ (s p : Row), X.nd (p ++ s) ≠ none → ∀ x ∈ s, i64 x
  | [], _, _ => by simp
  | x :: s, p, hp => by
    have h1 : X.nd (p ++ [x] ++ s) ≠ none := by rwa [List.append_assoc, List.singleton_append]
    have h2 := pre_all h s (p ++ [x]) h1
    obtain ⟨m, _, hx, _⟩ := kid_wf h h2
    intro y hy
    rcases List.mem_cons.1 hy with rfl | hy
    · exact hx
    · exact nd_wf h s (p ++ [x]) h1 y hy
theorem row_wf {W : World} {g o N : Nat} {X : TX} (h : TrieAt W g o N X) {p : Row} (hp : X.nd p ≠ none) : ∀ x ∈ p, i64 x := nd_wf h p [] hp
/-- The values behind some of the rows with a value v. -/
def gone (val : Row → Option Int) (l : List Ent) (v : Int) (i : Nat) : Row → Option Int := fun q => if ∃ e ∈ l.take i, e.1 = q ∧ e.2 = v then none else val q
def cntV (l : List Ent) (v : Int) : Nat := (l.filter (fun e => decide (e.2 = v))).length
theorem gone_zero (val : Row → Option Int) (l : List Ent) (v : Int) : gone val l v 0 = val := by
  funext q
  unfold gone
  rw [if_neg (by simp)]
def eAt (l : List Ent) (i : Nat) : Ent := l.getD i ([], 0)
theorem eAt_mem {l : List Ent} {i : Nat} (hi : i < l.length) : eAt l i ∈ l := by
  unfold eAt
  rw [List.getD_eq_getElem?_getD, List.getElem?_eq_getElem hi]
  exact List.getElem_mem hi
theorem takeE (l : List Ent) (i : Nat) (hi : i < l.length) : l.take (i + 1) = l.take i ++ [eAt l i] := by
  rw [List.take_succ_eq_append_getElem (l := l) (i := i) hi]
  unfold eAt
  rw [List.getD_eq_getElem?_getD, List.getElem?_eq_getElem hi]
  rfl
theorem gone_skip {val : Row → Option Int} {l : List Ent} {v : Int} {i : Nat} (hi : i < l.length) (hv : (eAt l i).2 ≠ v) : gone val l v (i + 1) = gone val l v i := by
  funext q
  unfold gone
  rw [takeE l i hi]
  by_cases h : ∃ e ∈ l.take i, e.1 = q ∧ e.2 = v
  · rw [if_pos h, if_pos (by obtain ⟨e, he, h2⟩ := h; exact ⟨e, List.mem_append_left _ he, h2⟩)]
  · rw [if_neg h, if_neg (by
      rintro ⟨e, he, h1, h2⟩
      rcases List.mem_append.1 he with he | he
      · exact h ⟨e, he, h1, h2⟩
      · rw [List.mem_singleton] at he
        exact hv (by rw [← he]; exact h2))]
theorem gone_hit {val : Row → Option Int} {l : List Ent} {v : Int} {i : Nat} (hi : i < l.length) (hv : (eAt l i).2 = v) : gone val l v (i + 1) = upd (gone val l v i) (eAt l i).1 none := by
  funext q
  unfold gone upd
  rw [takeE l i hi]
  by_cases e1 : q = (eAt l i).1
  · rw [if_pos e1, if_pos ⟨eAt l i, by simp, e1.symm, hv⟩]
  · rw [if_neg e1]
    show _ = if ∃ e ∈ l.take i, e.1 = q ∧ e.2 = v then none else val q
    by_cases h : ∃ e ∈ l.take i, e.1 = q ∧ e.2 = v
    · rw [if_pos h, if_pos (by obtain ⟨e, he, h2⟩ := h; exact ⟨e, List.mem_append_left _ he, h2⟩)]
    · rw [if_neg h, if_neg (by
        rintro ⟨e, he, h1, h2⟩
        rcases List.mem_append.1 he with he | he
        · exact h ⟨e, he, h1, h2⟩
        · rw [List.mem_singleton] at he
          exact e1 (by rw [← h1, he]))]
theorem gone_there {val : Row → Option Int} {l : List Ent} (hr : Rep l val) {v : Int} {i : Nat} (hi : i < l.length) : gone val l v i (eAt l i).1 = some (eAt l i).2 := by
  unfold gone
  rw [if_neg]
  · exact (hr.2 _ _).1 (eAt_mem hi)
  · rintro ⟨e, he, h1, h2⟩
    have hs := hr.1
    rw [← List.take_append_drop (i + 1) l, takeE l i hi] at hs
    have h3 := (List.pairwise_append.1 (List.pairwise_append.1 hs).1).2.2 e he (eAt l i) (by simp)
    rw [h1, lt_irrefl] at h3
    cases h3
theorem gone_all {val : Row → Option Int} {l : List Ent} (hr : Rep l val) (v : Int) : gone val l v l.length = updV val v := by
  funext q
  unfold gone updV
  rw [List.take_length]
  by_cases h : val q = some v
  · rw [if_pos h, if_pos ⟨(q, v), (hr.2 q v).2 h, rfl, rfl⟩]
  · rw [if_neg h, if_neg]
    rintro ⟨e, he, h1, h2⟩
    exact h (by rw [← h1, ← h2]; exact (hr.2 _ _).1 he)
theorem cntV_succ (l : List Ent) (v : Int) (i : Nat) (hi : i < l.length) : cntV (l.take (i + 1)) v = cntV (l.take i) v + if (eAt l i).2 = v then 1 else 0 := by
  unfold cntV
  rw [takeE l i hi, List.filter_append, List.length_append]
  by_cases h : (eAt l i).2 = v <;> simp [h]
theorem cntV_le (l : List Ent) (v : Int) : cntV l v ≤ l.length := List.length_filter_le _ _
theorem cntV_take_le (l : List Ent) (v : Int) (i : Nat) : cntV (l.take i) v ≤ l.length := Nat.le_trans (cntV_le _ _) (by rw [List.length_take]; omega)
set_option maxHeartbeats 16000000 in
set_option maxRecDepth 100000 in
theorem dropValue_calls (g o N : Nat) (X : TX) (l : List Ent) (v cnt : Int) (w : World) (h : TrieAt w g o N X) (hc : CntAt w g o cnt) (hr : Rep l X.val) (hN : N ≤ 10000000000) (hl : l.length ≤ 1000000) (h0 : 0 ≤ cnt ∧ cnt ≤ 1000000) :
    Calls Try.prog 31 #[.pointer (some ⟨g, o, none⟩), .int .i64 v] w fun e w' => e = .returned (.int .i64 (cntV l v : Int)) ∧ Done 4 w w' g o N X (updV X.val v) (cnt - cntV l v) := by
  have AC := Aside0.mk (all_calls g o N X l w h hr hN (by omega))
  have HT := Aside0.mk h
  have HC := Aside0.mk hc
  have HR := Aside0.mk hr
  have HL := Aside0.mk (And.intro hl h0)
  obtain ⟨n, hn⟩ : ∃ n, l.length = n := ⟨_, rfl⟩
  have HNn := Aside0.mk hn
  have hn2 : n ≤ 1000000 := by omega
  rw [show Told w l = fun e w' => Told w l e w' from rfl] at AC
  clear h hc hr hl h0 hn
  go_enter Try.func31, Try.ntmps31
  go_wp2_with (go_at_call 40; go_loud ((refine AC.out.mono ?_); rintro e w1 ⟨A1, c1, rfl, hR, hb⟩; rw [HNn.out] at hR ⊢; have R1 := Aside0.mk (Kd.R_mono (ok' := fun k => w.heap.size ≤ k ∧ k < w1.heap.size) (Kd.R_bound hR) (fun k hk => ⟨hk.2.1, hk.2.2.1⟩)); have B1 := Aside0.mk hb; clear hR hb))
  have T1 := Aside0.mk (HT.out.below B1.out)
  have C1 := Aside0.mk (HC.out.below B1.out)
  clear AC
  go_loopg [5, 11] n (fun kq v5 v11 w' => ∃ (i : Nat) (X1 : TX), v5 = .int .i64 (cntV (l.take i) v : Int) ∧ v11 = .int .i64 (i : Int) ∧ Aside0 (i + kq = n) ∧ Aside0 (TrieAt w' g o N X1) ∧ Aside0 (X1.val = gone X.val l v i) ∧ Aside0 (CntAt w' g o (cnt - cntV (l.take i) v)) ∧ Aside0 (Post 4 w1 w' g o X X1))
  case atStart => exact ⟨0, X, rfl, rfl, ⟨Nat.zero_add _⟩, T1, ⟨(gone_zero _ _ _).symm⟩, ⟨by rw [show cntV (l.take 0) v = 0 from rfl]; simpa using C1.out⟩, ⟨Post.refl⟩⟩
  case round =>
    obtain ⟨i, X1, rfl, rfl, HJ, TW, HV, CW, PW⟩ := hrel
    have hj := HJ.out
    cases gk with
    | succ k =>
      have e1 : decide (i < n) = true := decide_eq_true (by omega)
      have p1 : 0 ≤ (i : Int) := by omega
      have q1 : (i : Int) < (n : Int) := by omega
      have q2 : (n : Int) ≤ 1000000 := by omega
      have hi := Aside0.mk (show i < l.length by rw [HNn.out]; omega)
      have RW := Aside0.mk (Kd.R_keptB R1.out PW.out.kept (fun k hk hf => by have := foot_lt HT.out hf; omega))
      have hpos : 0 < l.length := by have := hi.out; omega
      obtain ⟨gr, hA⟩ : ∃ gr, A1 = some ⟨gr, 0, none⟩ := by
        obtain ⟨inner, ho⟩ := Kd.R_own R1.out
        rcases ho.2 with ⟨_, h2⟩ | ⟨g', cap, cur, h2, _⟩
        · omega
        · injection h2 with h3 _ _
          exact ⟨g', h3⟩
      subst hA
      obtain ⟨cs, _, hM, hcell, _⟩ := Kd.R_elem RW.out ([], 0) (i : Int) (by omega) (by omega)
      rw [Int.toNat_natCast] at hM hcell
      have hM : kE.M wr w.heap.size _ (eAt l i) cs := hM
      obtain ⟨v0, rfl, hT⟩ := kE_openM hM
      obtain ⟨A2, c2, rfl⟩ := Kd.R_slice hT
      have k0 : wr.cell? ⟨gr, i * 2, none⟩ = some (.slice A2 (eAt l i).1.length c2) := hcell 0 _ rfl
      have k1 : wr.cell? ⟨gr, i * 2 + 1, none⟩ = some (.int .i64 (eAt l i).2) := hcell 1 _ rfl
      have XV := Aside0.mk (show X1.val (eAt l i).1 = some (eAt l i).2 by rw [HV.out]; exact gone_there HR.out hi.out)
      have FT := Aside0.mk (Kd.F_mono (ok' := away X1) (Kd.R_F hT) (fun k hk hf => by
        have h1 := hk.1.1
        rcases PW.out.foot k hf with q | q
        · have := foot_lt HT.out q; omega
        · omega))
      have LT := Aside0.mk (Kd.R_reads' hT).2.1
      have WF := Aside0.mk (row_wf TW.out (TW.out.there _ (by rw [XV.out]; simp)))
      have CS := Aside0.mk (cntV_succ l v i hi.out)
      have CL := Aside0.mk (cntV_take_le l v i)
      have GS := Aside0.mk (fun h => gone_skip (val := X.val) (v := v) hi.out h)
      have GH := Aside0.mk (fun h => gone_hit (val := X.val) (v := v) hi.out h)
      obtain ⟨t, ht⟩ : ∃ t, (eAt l i).1 = t := ⟨_, rfl⟩
      obtain ⟨u, hu⟩ : ∃ u, (eAt l i).2 = u := ⟨_, rfl⟩
      rw [ht] at k0 XV FT LT WF GH
      rw [hu] at k1 XV CS GS GH
      obtain ⟨z, hz⟩ : ∃ z, cntV (l.take i) v = z := ⟨_, rfl⟩
      rw [hz] at CW CS CL ⊢
      have hz2 : (z : Int) ≤ 1000000 := by have := CL.out; rw [HNn.out] at this; omega
      obtain ⟨tl, htl⟩ : ∃ tl, t.length = tl := ⟨_, rfl⟩
      rw [htl] at k0
      have HTL := Aside0.mk htl
      clear hj hM hcell hT hpos ht hu hz htl
      by_cases huv : u = v
      · subst huv
        have d1 : (u == u) = true := by simp
        have CS2 := Aside0.mk (show cntV (l.take (i + 1)) u = z + 1 by rw [CS.out, if_pos rfl])
        have GH2 := Aside0.mk (GH.out rfl)
        go_wp2_with (go_at_call 41; go_loud ((refine (show Calls _ _ #[_, .slice A2 tl c2] _ _ from HTL.out ▸ drop_calls g o N X1 A2 c2 t (cnt - z) _ (TW.out.below (below_alloc (Below.refl _ _) _)) (CW.out.below (below_alloc (Below.refl _ _) _)) (Kd.F_alloc FT.out _) LT.out WF.out (by have := HL.out; omega)).mono ?_); rintro e w4 ⟨he, X2, t2, cc2, v2, p2⟩; rw [XV.out] at he cc2; have he : e = .returned (.bool true) := he; subst he; have T2 := Aside0.mk t2; have C2 := Aside0.mk (show CntAt w4 g o (cnt - z - 1) from cc2); have V2 := Aside0.mk v2; have P2 := Aside0.mk ((PW.out.then_below (below_alloc (Below.refl _ _) _)).trans p2); clear t2 cc2 v2 p2))
        go_roundg k
        case measure => omega
        case rel => exact ⟨i + 1, X2, by rw [CS2.out]; go_num, by go_num, ⟨by have := HJ.out; omega⟩, T2, ⟨by rw [V2.out, HV.out, GH2.out]⟩, ⟨by rw [CS2.out]; have h := C2.out; rwa [show cnt - (z : Int) - 1 = cnt - ((z + 1 : Nat) : Int) by omega] at h⟩, P2⟩
      · have d1 : (u == v) = false := beq_eq_false_iff_ne.mpr huv
        have CS2 := Aside0.mk (show cntV (l.take (i + 1)) v = z by rw [CS.out, if_neg huv, Nat.add_zero])
        have GS2 := Aside0.mk (GS.out huv)
        clear huv
        go_wp2
        go_roundg k
        case measure => omega
        case rel => exact ⟨i + 1, X1, by rw [CS2.out], by go_num, ⟨by have := HJ.out; omega⟩, ⟨TW.out.below (below_alloc (Below.refl _ _) _)⟩, ⟨by rw [HV.out, GS2.out]⟩, ⟨by rw [CS2.out]; exact CW.out.below (below_alloc (Below.refl _ _) _)⟩, ⟨PW.out.then_below (below_alloc (Below.refl _ _) _)⟩⟩
    | zero =>
      have hin : i = n := by omega
      subst hin
      have e1 : decide (i < i) = false := decide_eq_false (by omega)
      have EL : l.take i = l := List.take_of_length_le (by rw [HNn.out]; omega)
      have D := Aside0.mk (show Done 4 w wr g o N X (updV X.val v) (cnt - cntV l v) from ⟨X1, TW.out, by have := CW.out; rwa [EL] at this, by rw [HV.out, ← HNn.out]; exact gone_all HR.out v, (Post.of_below B1.out).trans PW.out⟩)
      have EE := Aside0.mk EL
      clear hj EL
      go_wp2
      go_ret
      exact ⟨by rw [EE.out]; rfl, D.out⟩
end Go.Proofs.Ythihgiaflbaigaa.OTrie
