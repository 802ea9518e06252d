/- slices.Delete of one parcel, over a row of one's own, walked by hand. -/
import Derived.Test.YtmcdgachfkkpeaaONet
import Derived.Deep.RegionLaw
set_option linter.unusedVariables false
set_option linter.unusedSimpArgs false
namespace Go.Proofs.Ytmcdgachfkkpeaa.ONet
open Go.RowKit Go.Proofs.YtmcdgachfkkpeaaW.PrintWords Go.Proofs.YtmcdgachfkkpeaaW.PrintLast Go.Proofs.YtmcdgachfkkpeaaW.PrintMore Go.Proofs.Ytmcdgachfkkpeaa.GQ
/-- What is written behind a row's elements doesn't matter. -/
theorem R_behind {α : Type} {d : Kd α} {e : Nat} {W : World} {base : Nat} {ok : Nat → Prop} {g n cap : Nat} {xs : List α} (h : d.R e W base ok (.slice (some ⟨g, 0, none⟩) n cap) xs) (o : Nat) (ho : n * d.sz ≤ o) (u : Value) (hE : d.E = []) : d.R e (W.setCell ⟨g, o, none⟩ u) base ok (.slice (some ⟨g, 0, none⟩) n cap) xs := by
  obtain ⟨h0, inner, hown, hr⟩ := Kd.R_tight hE h
  obtain ⟨g0, inner0, hown0, hr0⟩ := h
  obtain ⟨hl, h2⟩ := hown0
  refine ⟨g0, inner0, ⟨hl, ?_⟩, ?_⟩
  · rcases h2 with h2 | ⟨g', cap', cur, hv, hg, hh, hn, hm, hs, ht⟩
    · exact .inl h2
    · injection hv with ha hn' hc
      injection ha with ha
      injection ha with ha
      subst ha hc hn'
      refine .inr ⟨g, cap, cur.setIfInBounds o u, rfl, hg, blk_set hh o u, hn, hm, by simpa using hs, ?_⟩
      rw [← ht, Array.toList_setIfInBounds]
      rw [List.take_set_of_le (by omega)]
  · exact hr0.imp_ (fun p c hp => d.M_move (fun k hk => Below.heap_setCell W ⟨g, o, none⟩ u k (fun e => hk.2 (by rw [e]; simp [Value.ownBlock]))) hp)
theorem zero_parcel (w : World) : (zeroValue 35).run Try.prog w = .ok (.agg #[.int .i64 0, .string ⟨#[]⟩, .bool false]) w := by
  obtain ⟨i0, hi, hzz⟩ := Option.map_eq_some_iff.1 info35
  simp only [Prod.mk.injEq] at hzz
  simp [zeroValue, typeInfo, hi, hzz.1, Result.andThen]
/-- Elements that are no more: their cells are made zero. -/
theorem clear_run (w : World) (b o n c : Nat) (hn : 0 < n) (hc : ∀ j, j < n * 3 → (w.cell? ⟨b, o + j, none⟩).isSome = true) (hf : ∀ j, j < n * 3 → w.frozen? ⟨b, o + j, none⟩ = false) :
    ∃ Z : List Value, Z.length = n * 3 ∧ (∀ v ∈ Z, v.oneCell' = true) ∧ ∀ ty, (Builtin.clear_ #[23] ty #[.slice (some ⟨b, o, none⟩) n c]).run Try.prog w = .ok (.tuple #[]) (w.setCells b o Z) := by
  obtain ⟨Z, hZ⟩ : ∃ Z : List Value, Z = (Builtin.zeroCells (Value.cells (.agg #[.int .i64 0, .string ⟨#[]⟩, .bool false])) n).toList := ⟨_, rfl⟩
  have hv : Value.cells (.agg #[.int .i64 0, .string ⟨#[]⟩, .bool false]) = #[.int .i64 0, .string ⟨#[]⟩, .bool false] := by rfl
  have hl : Z.length = n * 3 := by rw [hZ, hv]; simp [Builtin.zeroCells]
  have h1 : ∀ v ∈ Z, v.oneCell' = true := by
    intro v hvm
    rw [hZ, hv] at hvm
    simp only [Builtin.zeroCells, Array.toList_map, List.mem_map] at hvm
    obtain ⟨j, _, rfl⟩ := hvm
    have h3 : j % 3 = 0 ∨ j % 3 = 1 ∨ j % 3 = 2 := by omega
    show ((#[Value.int .i64 0, .string ⟨#[]⟩, .bool false])[j % 3]!).oneCell' = true
    rcases h3 with h3 | h3 | h3 <;> rw [h3] <;> rfl
  refine ⟨Z, hl, h1, fun ty => ?_⟩
  have hst := run_storeCells_cells (P := Try.prog) b o Z 0 w (by rw [hl]; simpa using hc) (by rw [hl]; simpa using hf) h1
  simp only [Nat.add_zero] at hst
  obtain ⟨m, rfl⟩ : ∃ m, n = m + 1 := ⟨n - 1, by omega⟩
  simp [Builtin.clear_, run_underlying Try.underlying23, zero_parcel, ← hZ, hst]
theorem R_clear {α : Type} {d : Kd α} {e : Nat} {base : Nat} {ok : Nat → Prop} {g n cap : Nat} {xs : List α} (hE : d.E = []) : ∀ (Z : List Value) (o : Nat) (W : World), d.R e W base ok (.slice (some ⟨g, 0, none⟩) n cap) xs → n * d.sz ≤ o → d.R e (W.setCells g o Z) base ok (.slice (some ⟨g, 0, none⟩) n cap) xs := by
  intro Z
  induction Z with
  | nil => intro o W h _; exact h
  | cons u Z ih => intro o W h ho; exact ih (o + 1) _ (R_behind h o ho u hE) (by omega)
theorem setCells_size (g : Nat) : ∀ (Z : List Value) (o : Nat) (W : World), (W.setCells g o Z).heap.size = W.heap.size := by
  intro Z
  induction Z with
  | nil => intro o W; rfl
  | cons u Z ih => intro o W; rw [World.setCells, ih]; simp [World.setCell]
theorem setCells_below {base g : Nat} (hg : base ≤ g) : ∀ (Z : List Value) (o : Nat) (w0 W : World), Below base w0 W → Below base w0 (W.setCells g o Z) := by
  intro Z
  induction Z with
  | nil => intro o w0 W h; exact h
  | cons u Z ih => intro o w0 W h; exact ih (o + 1) w0 _ (h.setCell hg u)
theorem setCells_kept {g : Nat} {S : Nat → Prop} (hg : S g) : ∀ (Z : List Value) (o : Nat) (w0 W : World), Kept w0 W S → Kept w0 (W.setCells g o Z) S := by
  intro Z
  induction Z with
  | nil => intro o w0 W h; exact h
  | cons u Z ih => intro o w0 W h; exact ih (o + 1) w0 _ (h.then_ (kept_set W S ⟨g, o, none⟩ u hg) (fun _ hs => .inl hs))
set_option maxHeartbeats 4000000 in
set_option maxRecDepth 100000 in
theorem delete_one (xs : List PC) (i : Nat) (hi : i < xs.length) (hx : xs.length ≤ 256) (v : Value) (base : Nat) (ok : Nat → Prop) (w : World) (h : kP.R 35 w base ok v xs) (hbase : base ≤ w.heap.size) :
    Calls Try.prog 19 #[v, .int .i64 (i : Int), .int .i64 ((i : Int) + 1)] w fun e w' => ∃ A c, e = .returned (.slice A (xs.eraseIdx i).length c) ∧ kP.R 35 w' base ok (.slice A (xs.eraseIdx i).length c) (xs.eraseIdx i) ∧ (Value.slice A (xs.eraseIdx i).length c).ownBlock = v.ownBlock ∧ Below base w w' ∧ Kept w w' (fun k => some k = v.ownBlock) := by
  obtain ⟨g, cap, rfl, hg1, hg2, cells, hcs⟩ := Kd.R_form h (by omega)
  have hcap := (Kd.R_reads' h).2.1
  obtain ⟨m, hm⟩ : ∃ m, xs.length = m + 1 := ⟨xs.length - 1, by omega⟩
  have hE : (xs.eraseIdx i).length = m := by rw [List.length_eraseIdx, if_pos hi]; omega
  rw [hE]
  rw [hm] at h hi hx hcap ⊢
  have i1 : (i : Int) + 1 ≤ 256 := by omega
  have i2 : i + 1 ≤ (m + 1) := by omega
  have i3 : i ≤ (m + 1) := by omega
  have i4 : (m + 1) ≤ cap := hcap
  have i5 : i + 1 ≤ cap := by omega
  have i6 : i ≤ i + 1 := by omega
  have i7 : i ≤ cap := by omega
  have i8 : (0 : Int) ≤ (i : Int) + 1 := by omega
  have i9 : (i : Int) + 1 ≤ ((m + 1) : Int) := by omega
  have ne1 : ¬ i = i + 1 := by omega
  have HR := Aside0.mk h
  have HB := Aside0.mk hbase
  obtain ⟨A0, hA0⟩ : ∃ A0 : Option Addr, (if cap = i + 1 then some (⟨g, 0, none⟩ : Addr) else some ⟨g, (i + 1) * 3, none⟩) = A0 := ⟨_, rfl⟩
  have HA := Aside0.mk (show A0 = if cap = i + 1 then some (⟨g, 0, none⟩ : Addr) else (some (⟨g, 0, none⟩ : Addr)).map (·.add ((i + 1) * kP.sz)) from by
    rw [← hA0]
    split
    · rfl
    · show _ = some (Addr.add ⟨g, 0, none⟩ ((i + 1) * 3))
      rw [Addr.add_lit, Nat.zero_add])
  have HB' := Aside0.mk hE
  have ne2 : ¬ cap = m := by omega
  have j1 : m ≤ m + 1 := by omega
  have j2 : m ≤ cap := by omega
  have j3 : m + 1 ≤ 256 := hx
  have j4 : (m : Int) ≤ (m : Int) + 1 := by omega
  have HG0 := Aside0.mk hg1
  clear h hE hcap hm hg1 hg2 hcs hbase
  go_enter Try.func19, Try.ntmps19
  go_wp2
  go_region_law (refine Kd.R_delete_step kP (w0 := w) base rfl (.tmp 22) (.tmp 25) 23 35 rfl Try.underlying23 (by kernel_rfl) (g := g) (n := (m + 1)) (c := cap) (k := i) (m := m - i) (c2 := cap - (i + 1)) (A := A0) (by simp [Act.eval, Act.put]) (by simp [Act.eval, Act.put]) HA.out (by omega) (Kd.R_drew HR.out) (by omega) ((Below.refl base w).drew) HB.out ?_; intro w1 ho hb hg; have HO1 := Aside0.mk ho; have HB1 := Aside0.mk hb; have HG1 := Aside0.mk hg; obtain ⟨inner, hown⟩ := Kd.R_own ho; rcases hown.2 with ⟨hl, _⟩ | ⟨g', cap', cur, hv, hg', hh, hn', hmx, hs, ht⟩; (cases hl); injection hv with ha hn'' hc'; injection ha with ha; injection ha with ha; subst ha hc'; obtain ⟨Z, z1, z2, z3⟩ := clear_run w1 g (m * 3) 1 (cap - m) (by omega) (fun j hj => by rw [blk_cell hh]; have hs3 : cur.size = cap * 3 := hs; simp; omega) (fun j hj => blk_frozen hh _); have ZL := Aside0.mk z1; clear z1 z2 ht hs hmx hn' hn'' hg' hh ho hb hg hown)
  go_wp2
  go_ret
  have hR : kP.R 35 w1 base ok (.slice (some ⟨g, 0, none⟩) m cap) (xs.eraseIdx i) := HO1.out
  have hk : Kept w w1 (fun k => some k = (Value.slice (some ⟨g, 0, none⟩) (m + 1) cap).ownBlock) := Kept.of_grown HG1.out (Kept.refl w _) (fun k hk => .inl (by rw [← hk]; simp [Value.ownBlock]))
  exact ⟨some ⟨g, 0, none⟩, cap, rfl, R_clear rfl Z (m * 3) w1 hR (Nat.le_refl _), by simp [Value.ownBlock], setCells_below HG0.out Z _ _ _ HB1.out, setCells_kept (by simp [Value.ownBlock]) Z _ _ _ hk⟩
end Go.Proofs.Ytmcdgachfkkpeaa.ONet
