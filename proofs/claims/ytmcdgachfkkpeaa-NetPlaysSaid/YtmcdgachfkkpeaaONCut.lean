/- slices.IndexFunc, slices.DeleteFunc at parcels, over the closure of (*Net).Cut, walked by hand. -/
import Derived.Test.YtmcdgachfkkpeaaONRows
import Derived.Shelf.Abstract
set_option linter.unusedVariables false
set_option linter.unusedSimpArgs false
namespace Go.Proofs.Ytmcdgachfkkpeaa.ONet
open Go.RowKit Go.Proofs.YtmcdgachfkkpeaaW.PrintWords Go.Proofs.YtmcdgachfkkpeaaW.PrintLast Go.Proofs.YtmcdgachfkkpeaaW.PrintMore Go.Proofs.Ytmcdgachfkkpeaa.GQ
theorem at_parcel {w : World} {A : Option Addr} {n : Nat} {xs : List PC} (h : kP.C w A n xs) (i : Nat) (hi : i < n) : ∃ ad , A = some ad ∧ w.cell? (ad.add (i * 3)) = some (.int .i64 (pcl xs i).f0) ∧ w.cell? ⟨(ad.add (i * 3)).block, (ad.add (i * 3)).off + 1, none⟩ = some (.string (pcl xs i).f1) ∧ w.cell? ⟨(ad.add (i * 3)).block, (ad.add (i * 3)).off + 2, none⟩ = some (.bool (pcl xs i).f2) := by
  obtain ⟨ad, cs, e, _, hK, hc0⟩ := Kd.C_get h z35 (i : Int) (by omega) (by omega)
  have hc : ∀ j u, cs[j]? = some u → w.cell? (ad.add (i * 3 + j)) = some u := fun j u hj => by have h1 := hc0 j u hj; rw [Int.toNat_natCast] at h1; exact h1
  obtain rfl := k35_open hK
  exact ⟨ad, e, hc 0 _ rfl, by rw [← add_field _ _ 1 (by omega)]; exact hc 1 _ rfl, by rw [← add_field _ _ 2 (by omega)]; exact hc 2 _ rfl⟩
theorem gone_calls (B : Nat) (nd : Int) (p : PC) (W : World) (hc : W.cell? ⟨B, 0, none⟩ = some (.int .i64 nd)) :
    Calls Try.prog 21 #[.agg #[.int .i64 p.f0, .string p.f1, .bool p.f2], .pointer (some ⟨B, 0, none⟩)] W fun e w' => e = .returned (.bool (p.f0 == nd)) ∧ Below W.heap.size W w' := by
  have hB := World.block_lt_of_cell? W _ hc
  have ne : ¬ B = W.heap.size := Nat.ne_of_lt hB
  have hc' : (W.alloc (.cells (cellsP p) 35 (0, 0))).cell? ⟨B, 0, none⟩ = some (.int .i64 nd) := (below_alloc (Below.refl W.heap.size W) _).cell hB |>.trans hc
  simp only [cellsP] at hc'
  have hb := below_alloc (Below.refl W.heap.size W) (.cells (cellsP p) 35 (0, 0))
  obtain ⟨b, hbb⟩ : ∃ b, (p.f0 == nd) = b := ⟨_, rfl⟩
  rw [hbb]
  go_enter Try.func21, Try.ntmps21
  go_wp2
  go_ret
  exact ⟨rfl, hb⟩
theorem gone_enters : ∀ args w, (callFunc 21 args).run Try.prog w = .ok (.enter 21 args) w := enters_of Try.func21 (by kernel_rfl) rfl
/-- The function value: all to a node. -/
abbrev gone (B : Nat) : Value := .func (.func 21) #[] #[.pointer (some ⟨B, 0, none⟩)]
def hits (nd : Int) (xs : List PC) (k : Nat) : Prop := ∀ j, j < k → ¬ (pcl xs j).f0 = nd
theorem hits_succ {nd : Int} {xs : List PC} {k : Nat} (h : hits nd xs k) (h1 : ¬ (pcl xs k).f0 = nd) : hits nd xs (k + 1) := fun j hj => by
  rcases Nat.lt_or_ge j k with h2 | h2
  · exact h j h2
  · obtain rfl : j = k := by omega
    exact h1
set_option maxHeartbeats 4000000 in
set_option maxRecDepth 100000 in
theorem index_calls (A : Option Addr) (n c B : Nat) (xs : List PC) (nd : Int) (w : World) (h : kP.C w A n xs) (hn : n ≤ 256) (hc : w.cell? ⟨B, 0, none⟩ = some (.int .i64 nd)) :
    Calls Try.prog 29 #[.slice A n c, gone B] w fun e w' => (∃ r : Int, e = .returned (.int .i64 r) ∧ ((r = -1 ∧ hits nd xs n) ∨ (∃ k : Nat, r = (k : Int) ∧ k < n ∧ (pcl xs k).f0 = nd ∧ hits nd xs k))) ∧ Below w.heap.size w w' := by
  have eg := gone_enters
  have HC := Aside0.mk h
  have HB := Aside0.mk (World.block_lt_of_cell? w _ hc)
  have H0 := Aside0.mk hc
  clear h hc
  go_enter Try.func29, Try.ntmps29
  go_wp2
  go_loopg [8] n (fun kq v8 w' => ∃ (j : Nat), v8 = .int .i64 (j : Int) ∧ Aside0 (j + kq = n) ∧ Aside0 (hits nd xs j) ∧ Aside0 (Below w.heap.size w w'))
  case atStart => exact ⟨0, rfl, ⟨Nat.zero_add _⟩, ⟨fun j hj => absurd hj (Nat.not_lt_zero _)⟩, ⟨Below.refl _ _⟩⟩
  case round =>
    obtain ⟨j, rfl, HJ, HH, HW⟩ := hrel
    have hj := HJ.out
    cases gk with
    | succ k =>
      have d1 : decide (j < n) = true := decide_eq_true (by omega)
      have p1 : 0 ≤ (j : Int) := by omega
      have q1 : (j : Int) < (n : Int) := by omega
      have x60 : (n : Int) ≤ 256 := by omega
      obtain ⟨ad, e0, hx0, hx1, hx2⟩ := at_parcel HC.out j (by omega)
      cases e0
      obtain ⟨p, hp⟩ : ∃ p, pcl xs j = p := ⟨_, rfl⟩
      have HP := Aside0.mk hp
      rw [hp] at hx0 hx1 hx2
      replace hx0 := (HW.out.cell (World.block_lt_of_cell? w _ hx0)).trans hx0
      replace hx1 := (HW.out.cell (World.block_lt_of_cell? w _ hx1)).trans hx1
      replace hx2 := (HW.out.cell (World.block_lt_of_cell? w _ hx2)).trans hx2
      have HG := Aside0.mk ((HW.out.cell HB.out).trans H0.out)
      clear hp hj
      by_cases hq : p.f0 = nd
      · have hb0 := Aside0.mk (show (p.f0 == nd) = true from beq_iff_eq.mpr hq)
        have HQ := Aside0.mk hq
        clear hq
        go_wp2_with (go_at_fn 21; (refine (gone_calls B nd p _ HG.out).mono ?_; rw [hb0.out]; rintro e w1 ⟨rfl, hb⟩; have B1 := Aside0.mk (below_step HW.out hb); clear hb))
        go_ret
        exact ⟨⟨_, rfl, .inr ⟨j, rfl, by have := HJ.out; omega, by rw [HP.out]; exact HQ.out, HH.out⟩⟩, B1.out⟩
      · have hb0 := Aside0.mk (show (p.f0 == nd) = false from beq_eq_false_iff_ne.mpr hq)
        have HQ := Aside0.mk hq
        clear hq
        go_wp2_with (go_at_fn 21; (refine (gone_calls B nd p _ HG.out).mono ?_; rw [hb0.out]; rintro e w1 ⟨rfl, hb⟩; have B1 := Aside0.mk (below_step HW.out hb); clear hb))
        go_roundg k
        case measure => omega
        case rel => exact ⟨j + 1, by go_num, ⟨by have := HJ.out; omega⟩, ⟨hits_succ HH.out (by rw [HP.out]; exact HQ.out)⟩, B1⟩
    | zero =>
      obtain rfl : j = n := by omega
      have d1 : decide (j < j) = false := decide_eq_false (by omega)
      go_wp2
      go_ret
      exact ⟨⟨_, rfl, .inl ⟨rfl, HH.out⟩⟩, HW.out⟩
def keeps (nd : Int) : PC → Bool := fun p => !(p.f0 == nd)
theorem hits_filter {nd : Int} {xs : List PC} : ∀ {k : Nat}, hits nd xs k → k ≤ xs.length → (xs.take k).filter (keeps nd) = xs.take k := by
  intro k h hk
  rw [List.filter_eq_self]
  intro p hp
  obtain ⟨j, hj, e⟩ := List.getElem_of_mem hp
  have hj2 : j < k := by rw [List.length_take] at hj; omega
  have h1 := h j hj2
  have h2 : pcl xs j = p := by
    rw [← e, List.getElem_take]
    unfold pcl
    rw [Int.toNat_natCast, List.getD_eq_getElem?_getD, List.getElem?_eq_getElem (by omega)]
    rfl
  rw [h2] at h1
  unfold keeps
  rw [beq_eq_false_iff_ne.mpr h1]
  rfl
theorem take_next (xs : List PC) (j : Nat) (h : j < xs.length) : xs.take (j + 1) = xs.take j ++ [pcl xs j] := by
  unfold pcl
  rw [Int.toNat_natCast, List.take_succ_eq_append_getElem h, List.getD_eq_getElem?_getD, List.getElem?_eq_getElem h]
  rfl
theorem filter_next (xs : List PC) (j : Nat) (h : j < xs.length) (nd : Int) : (xs.take (j + 1)).filter (keeps nd) = (xs.take j).filter (keeps nd) ++ if (pcl xs j).f0 = nd then [] else [pcl xs j] := by
  rw [take_next xs j h, List.filter_append]
  congr 1
  by_cases hq : (pcl xs j).f0 = nd
  · rw [if_pos hq]
    have : keeps nd (pcl xs j) = false := by unfold keeps; rw [beq_iff_eq.mpr hq]; rfl
    rw [List.filter_cons_of_neg (by rw [this]; decide)]
    rfl
  · rw [if_neg hq]
    have : keeps nd (pcl xs j) = true := by unfold keeps; rw [beq_eq_false_iff_ne.mpr hq]; rfl
    rw [List.filter_cons_of_pos this]
    rfl
theorem pcl_drop {xs ys : List PC} {j : Nat} (h : ys.drop j = xs.drop j) : pcl ys j = pcl xs j := by
  have h1 : (ys.drop j)[0]? = (xs.drop j)[0]? := by rw [h]
  rw [List.getElem?_drop, List.getElem?_drop, Nat.add_zero] at h1
  unfold pcl
  rw [Int.toNat_natCast, List.getD_eq_getElem?_getD, List.getD_eq_getElem?_getD, h1]
/-- How far slices.DeleteFunc has come: i places are filled, j were looked at. -/
def Stage (nd : Int) (xs ys : List PC) (i j : Nat) : Prop := i < j ∧ j ≤ xs.length ∧ ys.length = xs.length ∧ ys.take i = (xs.take j).filter (keeps nd) ∧ ys.drop j = xs.drop j
theorem Stage.start {nd : Int} {xs : List PC} {k : Nat} (h : hits nd xs k) (hk : k < xs.length) (he : (pcl xs k).f0 = nd) : Stage nd xs xs k (k + 1) :=
  ⟨by omega, by omega, rfl, by rw [filter_next xs k hk, if_pos he, List.append_nil, hits_filter h (by omega)], rfl⟩
theorem Stage.skip {nd : Int} {xs ys : List PC} {i j : Nat} (h : Stage nd xs ys i j) (hj : j < xs.length) (he : (pcl xs j).f0 = nd) : Stage nd xs ys i (j + 1) := by
  obtain ⟨h1, h2, h3, h4, h5⟩ := h
  refine ⟨by omega, by omega, h3, by rw [filter_next xs j hj, if_pos he, List.append_nil, h4], ?_⟩
  have := congrArg (List.drop 1) h5
  rwa [List.drop_drop, List.drop_drop] at this
theorem Stage.take {nd : Int} {xs ys : List PC} {i j : Nat} (h : Stage nd xs ys i j) (hj : j < xs.length) (he : ¬ (pcl xs j).f0 = nd) : Stage nd xs (ys.set i (pcl xs j)) (i + 1) (j + 1) := by
  obtain ⟨h1, h2, h3, h4, h5⟩ := h
  refine ⟨by omega, by omega, by rw [List.length_set]; exact h3, ?_, ?_⟩
  · rw [filter_next xs j hj, if_neg he, ← h4]
    rw [List.take_succ_eq_append_getElem (by rw [List.length_set]; omega), List.getElem_set_self, List.take_set_of_le (Nat.le_refl _)]
  · rw [List.drop_set_of_lt (by omega)]
    have := congrArg (List.drop 1) h5
    rwa [List.drop_drop, List.drop_drop] at this
theorem Stage.done {nd : Int} {xs ys : List PC} {i : Nat} (h : Stage nd xs ys i xs.length) : ys.take i = xs.filter (keeps nd) := by
  obtain ⟨h1, h2, h3, h4, h5⟩ := h
  rw [h4, List.take_length]
theorem index_none (A : Option Addr) (n c B : Nat) (xs : List PC) (nd : Int) (w : World) (h : kP.C w A n xs) (hn : n ≤ 256) (hc : w.cell? ⟨B, 0, none⟩ = some (.int .i64 nd)) (hh : hits nd xs n) :
    Calls Try.prog 29 #[.slice A n c, gone B] w fun e w' => e = .returned (.int .i64 (-1)) ∧ Below w.heap.size w w' :=
  (index_calls A n c B xs nd w h hn hc).mono fun e w' ⟨⟨r, he, h1⟩, hb⟩ => ⟨by
    rcases h1 with ⟨rfl, _⟩ | ⟨k, rfl, hk, he2, _⟩
    · exact he
    · exact absurd he2 (hh k hk), hb⟩
theorem index_some (A : Option Addr) (n c B : Nat) (xs : List PC) (nd : Int) (w : World) (h : kP.C w A n xs) (hn : n ≤ 256) (hc : w.cell? ⟨B, 0, none⟩ = some (.int .i64 nd)) (k : Nat) (hk : k < n) (hk2 : (pcl xs k).f0 = nd) (hh : hits nd xs k) :
    Calls Try.prog 29 #[.slice A n c, gone B] w fun e w' => e = .returned (.int .i64 (k : Int)) ∧ Below w.heap.size w w' :=
  (index_calls A n c B xs nd w h hn hc).mono fun e w' ⟨⟨r, he, h1⟩, hb⟩ => ⟨by
    rcases h1 with ⟨rfl, h2⟩ | ⟨k', rfl, hk', he2, h2⟩
    · exact absurd hk2 (h2 k hk)
    · have e1 : k' = k := by
        rcases Nat.lt_trichotomy k' k with h3 | h3 | h3
        · exact absurd he2 (hh k' h3)
        · exact h3
        · exact absurd hk2 (h2 k h3)
      rw [← e1]
      exact he, hb⟩
/-- Is one hit? The first. -/
theorem first_hit (nd : Int) (xs : List PC) : ∀ n : Nat, hits nd xs n ∨ ∃ k : Nat, k < n ∧ (pcl xs k).f0 = nd ∧ hits nd xs k
  | 0 => .inl fun j hj => absurd hj (Nat.not_lt_zero _)
  | n + 1 => by
    rcases first_hit nd xs n with h | ⟨k, h1, h2, h3⟩
    · by_cases hq : (pcl xs n).f0 = nd
      · exact .inr ⟨n, by omega, hq, h⟩
      · exact .inl (hits_succ h hq)
    · exact .inr ⟨k, by omega, h2, h3⟩
theorem box3 {W : World} {b : Nat} {p : PC} (h2 : W.heap[b]? = some (.cells (cellsP p) 35 (0, 0))) :
    W.cell? ⟨b, 0, none⟩ = some (.int .i64 p.f0) ∧ W.cell? ⟨b, 1, none⟩ = some (.string p.f1) ∧ W.cell? ⟨b, 2, none⟩ = some (.bool p.f2) := by
  rw [blk_cell h2, blk_cell h2, blk_cell h2]
  exact ⟨rfl, rfl, rfl⟩
theorem keep_cell {w w' : World} {own : Option Nat} {B : Nat} {u : Value} (h : Kept w w' (fun k => some k = own)) (hc : w.cell? ⟨B, 0, none⟩ = some u) (hB : some B ≠ own) : w'.cell? ⟨B, 0, none⟩ = some u :=
  (World.cell?_of_block (a := ⟨B, 0, none⟩) (h.2 B (World.block_lt_of_cell? w _ hc) hB)).trans hc
/-- The cells of an element of a row of one's own. -/
theorem R_cells {base : Nat} {ok : Nat → Prop} {W : World} {g n cap : Nat} {ys : List PC} (h : kP.R 35 W base ok (.slice (some ⟨g, 0, none⟩) n cap) ys) (i : Nat) (hi : i < n) : ∃ c : List Value, c.length = kP.sz ∧ ∀ j u, c[j]? = some u → W.cell? ⟨g, ((i : Int).toNat) * kP.sz + j, none⟩ = some u := by
  obtain ⟨ad, cs, e, hl, hK, hc0⟩ := Kd.C_get (Kd.R_reads' h).2.2 z35 (i : Int) (by omega) (by have := (Kd.R_reads' h).1; omega)
  injection e with e
  subst e
  refine ⟨cs, hl, fun j u hj => ?_⟩
  have h1 := hc0 j u hj
  rw [Addr.add_lit, Nat.zero_add] at h1
  exact h1
theorem whole_M {W : World} {base : Nat} {p : PC} {c : List Value} (hl : c.length = kP.sz) : kP.M W base (fun _ => False) p (c.take 0 ++ [.int .i64 p.f0, .string p.f1, .bool p.f2] ++ c.drop (0 + [Value.int .i64 p.f0, .string p.f1, .bool p.f2].length)) := by
  have h0 : c.drop (0 + [Value.int .i64 p.f0, .string p.f1, .bool p.f2].length) = [] := List.drop_eq_nil_of_le (by rw [hl]; exact Nat.le_refl 3)
  rw [h0, List.append_nil]
  exact kP_mkM _ _ _ p
set_option maxHeartbeats 8000000 in
set_option maxRecDepth 100000 in
theorem delfunc_calls (xs : List PC) (hx : xs.length ≤ 256) (v : Value) (base : Nat) (ok : Nat → Prop) (B : Nat) (nd : Int) (w : World) (h : kP.R 35 w base ok v xs) (hbase : base ≤ w.heap.size) (hc : w.cell? ⟨B, 0, none⟩ = some (.int .i64 nd)) (hB : some B ≠ v.ownBlock) :
    Calls Try.prog 22 #[v, gone B] w fun e w' => ∃ A c, e = .returned (.slice A (xs.filter (keeps nd)).length c) ∧ kP.R 35 w' base ok (.slice A (xs.filter (keeps nd)).length c) (xs.filter (keeps nd)) ∧ (Value.slice A (xs.filter (keeps nd)).length c).ownBlock = v.ownBlock ∧ Below base w w' ∧ Kept w w' (fun k => some k = v.ownBlock) := by
  obtain ⟨A, cap, rfl, hcap, hC⟩ := Kd.R_reads h
  have HR := Aside0.mk h
  have HB := Aside0.mk hbase
  have HC := Aside0.mk hC
  have H0 := Aside0.mk hc
  have HN := Aside0.mk hB
  have eg := gone_enters
  clear h hC hc hB
  obtain ⟨n, hn⟩ : ∃ n, xs.length = n := ⟨_, rfl⟩
  rw [hn] at hx hcap HR HC HN ⊢
  rcases first_hit nd xs n with hh | ⟨k, hk, hk2, hh⟩
  · have hf : xs.filter (keeps nd) = xs := by have h1 := hits_filter hh (by omega); rwa [← hn, List.take_length] at h1
    rw [hf, hn]
    have HH := Aside0.mk hh
    clear hh hf
    go_enter Try.func22, Try.ntmps22
    go_wp2_with (go_at_call 29; refine (index_none A n cap B xs nd _ HC.out hx H0.out HH.out).mono ?_; rintro e w1 ⟨rfl, hb⟩; have B1 := Aside0.mk hb; clear hb)
    go_ret
    exact ⟨A, cap, rfl, Kd.R_below HR.out B1.out, rfl, B1.out.mono HB.out, Kept.of_below B1.out _⟩
  · have HH := Aside0.mk hh
    have S0 := Aside0.mk (Stage.start hh (by omega) hk2)
    have K0 := Aside0.mk hk2
    have k1 : (k : Int) + 1 ≤ 256 := by omega
    have k2 : ((k : Int) == -1) = false := beq_eq_false_iff_ne.mpr (by omega)
    obtain ⟨L, hL⟩ : ∃ L, xs.filter (keeps nd) = L := ⟨_, rfl⟩
    have FL := Aside0.mk hL
    rw [hL]
    clear hh hk2 hL
    go_enter Try.func22, Try.ntmps22
    go_wp2_with (go_at_call 29; refine (index_some _ n cap B xs nd _ HC.out hx H0.out k hk K0.out HH.out).mono ?_; rintro e w1 ⟨rfl, hb⟩; have B1 := Aside0.mk hb; clear hb)
    obtain ⟨g, cap', hA, hg1, hg2, cells, hcs⟩ := Kd.R_form HR.out (by omega)
    injection hA with hA hnn hcc
    clear hnn
    subst hA hcc
    have G1 := Aside0.mk hg1
    clear hg1 hg2 hcs cells
    go_loopg [5, 6] (n - (k + 1)) (fun kq v5 v6 w' => ∃ (i j : Nat) (ys : List PC), v5 = .int .i64 (i : Int) ∧ v6 = .int .i64 (j : Int) ∧ Aside0 (j + kq = n) ∧ Aside0 (Stage nd xs ys i j) ∧ Aside0 (kP.R 35 w' base ok (.slice (some ⟨g, 0, none⟩) n cap) ys) ∧ Aside0 (Below base w w') ∧ Aside0 (Kept w w' (fun k => some k = (Value.slice (some ⟨g, 0, none⟩) n cap).ownBlock)))
    case atStart => exact ⟨k, k + 1, xs, rfl, by go_num, ⟨by omega⟩, S0, ⟨Kd.R_below HR.out B1.out⟩, ⟨B1.out.mono HB.out⟩, ⟨Kept.of_below B1.out _⟩⟩
    case round =>
      obtain ⟨i, j, ys, rfl, rfl, HJ, HS, HY, HW, HK⟩ := hrel
      have hj := HJ.out
      have hs := HS.out.1
      cases gk with
      | succ q =>
        have d1 : decide (j < n) = true := decide_eq_true (by omega)
        have p1 : 0 ≤ (j : Int) := by omega
        have q1 : (j : Int) < (n : Int) := by omega
        have x60 : (j : Int) + 1 ≤ 256 := by omega
        have p2 : 0 ≤ (i : Int) := by omega
        have q2 : (i : Int) < (n : Int) := by omega
        have x61 : (i : Int) + 1 ≤ 256 := by omega
        have q2n : i < n := by omega
        obtain ⟨ad, e0, hx0, hx1, hx2⟩ := at_parcel (Kd.R_reads' HY.out).2.2 j (by have := (Kd.R_reads' HY.out).1; omega)
        injection e0 with e0
        subst e0
        rw [pcl_drop HS.out.2.2.2.2] at hx0 hx1 hx2
        simp only [Addr.add_lit, Nat.zero_add] at hx0 hx1 hx2
        obtain ⟨p, hp⟩ : ∃ p, pcl xs j = p := ⟨_, rfl⟩
        have HP := Aside0.mk hp
        rw [hp] at hx0 hx1 hx2
        have KC := Aside0.mk (keep_cell HK.out H0.out HN.out)
        have LB := Aside0.mk (World.block_lt_of_cell? wr _ KC.out)
        have HG := Aside0.mk ((below_alloc (Below.refl wr.heap.size wr) (.cells (cellsP p) 35 (0, 0))).cell LB.out |>.trans KC.out)
        have BX := Aside0.mk (blk_new wr (.cells (cellsP p) 35 (0, 0)))
        have YX := Aside0.mk (Kd.R_alloc HY.out (.cells (cellsP p) 35 (0, 0)))
        have SX := Aside0.mk (Nat.le_trans HB.out HW.out.size)
        have WX := Aside0.mk (HW.out.alloc SX.out (.cells (cellsP p) 35 (0, 0)))
        have KX := Aside0.mk (HK.out.alloc (.cells (cellsP p) 35 (0, 0)))
        clear hp
        by_cases hq : p.f0 = nd
        · have hb0 := Aside0.mk (show (p.f0 == nd) = true from beq_iff_eq.mpr hq)
          have HQ := Aside0.mk (show (pcl xs j).f0 = nd by rw [HP.out]; exact hq)
          clear hq hj hs
          go_wp2_with (go_at_fn 21; (refine (gone_calls B nd p _ HG.out).mono ?_; rw [hb0.out]; rintro e w2 ⟨rfl, hb⟩; have Y2 := Aside0.mk (Kd.R_below YX.out hb); have W2 := Aside0.mk (below_then WX.out (Nat.le_trans HB.out WX.out.size) hb); have K2 := Aside0.mk (KX.out.below hb); clear hb))
          go_roundg q
          case measure => omega
          case rel => exact ⟨i, j + 1, ys, rfl, by go_num, ⟨by have := HJ.out; omega⟩, ⟨HS.out.skip (by have := HJ.out; omega) HQ.out⟩, Y2, W2, K2⟩
        · have hb0 := Aside0.mk (show (p.f0 == nd) = false from beq_eq_false_iff_ne.mpr hq)
          have HQ := Aside0.mk (show ¬ (pcl xs j).f0 = nd by rw [HP.out]; exact hq)
          clear hq hj hs
          go_wp2_with (first
            | (go_at_fn 21; refine (gone_calls B nd p _ HG.out).mono ?_; rw [hb0.out]; rintro e w2 ⟨rfl, hb⟩; have Y2 := Aside0.mk (Kd.R_below YX.out hb); have W2 := Aside0.mk (below_then WX.out (Nat.le_trans HB.out WX.out.size) hb); have K2 := Aside0.mk (KX.out.below hb); obtain ⟨z0, z1, z2⟩ := box3 (blk_below BX.out hb); clear hb)
            | ((with_reducible refine gate_store (t := 35) (p := 33) rfl ?_); obtain ⟨cs, hcl, hcc⟩ := R_cells Y2.out i q2n; refine Kd.R_store kP (w0 := w) base rfl rfl 35 (.tmp 33) (.tmp 32) rfl 35 (g := g) (n := n) (cap := cap) (o' := i * 3) (i : Int) 0 ys p (.agg #[.int .i64 p.f0, .string p.f1, .bool p.f2]) [.int .i64 p.f0, .string p.f1, .bool p.f2] cs ok (fun _ => False) (by rfl) (by rfl) (by rfl) (by rfl) (by kernel_rfl) (by simp [Value.oneCell']) Y2.out p2 q2 hcl hcc (Nat.le_refl 3) (whole_M hcl) (fun _ hk => hk.elim) W2.out ?_; clear hcl hcc; rw [Int.toNat_natCast]; intro w3 ho hb hg; have Y3 := Aside0.mk ho; have W3 := Aside0.mk hb; have K3 := Aside0.mk (Kept.of_grown hg K2.out (fun k hk => .inl (by rw [← hk]; simp [Value.ownBlock]))); clear ho hb hg))
          go_roundg q
          case measure => omega
          case rel => exact ⟨i + 1, j + 1, ys.set i p, by go_num, by go_num, ⟨by have := HJ.out; omega⟩, ⟨by rw [← HP.out]; exact HS.out.take (by have := HJ.out; omega) HQ.out⟩, Y3, W3, K3⟩
      | zero =>
        have d1 : decide (j < n) = false := decide_eq_false (by omega)
        have ej : j = n := by omega
        have SN := Aside0.mk (show Stage nd xs ys i xs.length by rw [hn, ← ej]; exact HS.out)
        have hin : i < n := by omega
        have i1 : i ≤ n := by omega
        have i2 : i ≤ cap := by omega
        have i3 : (i : Int) ≤ (n : Int) := by omega
        have i4 : (i : Int) ≤ (cap : Int) := by omega
        have i5 : (0 : Int) ≤ (i : Int) := by omega
        have ne2 : ¬ cap = i := by omega
        have EL : i = L.length ∧ ys.take i = L := by
          have h1 := SN.out.done
          rw [FL.out] at h1
          refine ⟨?_, h1⟩
          rw [← h1, List.length_take]
          have := SN.out.2.2.1
          omega
        have E1 := Aside0.mk EL
        obtain ⟨inner, hown⟩ := Kd.R_own HY.out
        rcases hown.2 with ⟨hl, _⟩ | ⟨g', cap', cur, hv, hg', hh, hn', hmx, hs2, ht⟩
        · cases hl
        injection hv with ha hn'' hc'
        injection ha with ha
        injection ha with ha
        subst ha hc'
        obtain ⟨Z, z1, z2, z3⟩ := clear_run wr g (i * 3) (n - i) (cap - i) (by omega) (fun j hj => by
          rw [blk_cell hh]
          have hs3 : cur.size = cap * 3 := hs2
          simp
          omega) (fun j hj => blk_frozen hh _)
        have ZL := Aside0.mk z1
        clear z1 z2 ht hs2 hmx hn' hn'' hg' hh hown hj hs ej EL
        go_wp2
        go_ret
        have hR : kP.R 35 wr base ok (.slice (some ⟨g, 0, none⟩) i cap) L := by
          rw [← E1.out.2]
          exact Kd.R_take HY.out (by have := SN.out.2.2.1; omega)
        rw [E1.out.1] at hR ⊢
        exact ⟨some ⟨g, 0, none⟩, cap, rfl, R_clear rfl Z _ wr hR (Nat.le_refl _), by simp [Value.ownBlock], setCells_below G1.out Z _ _ _ HW.out, setCells_kept (by simp [Value.ownBlock]) Z _ _ _ HK.out⟩
end Go.Proofs.Ytmcdgachfkkpeaa.ONet
