/- The plain list's Put, walked by hand. -/
import Derived.Test.YtfnogcppbhggpaaOTRef
import Derived.Test.YtfnogcppbhggpaaUIns
set_option linter.unusedVariables false
set_option linter.unusedSimpArgs false
namespace Go.Proofs.Ytfnogcppbhggpaa.OTrie
open Go.RowKit Go.Proofs.YtfnogcppbhggpaaW.PrintWords Go.Proofs.YtfnogcppbhggpaaW.PrintLast Go.Proofs.YtfnogcppbhggpaaW.PrintMore Go.Proofs.Ytfnogcppbhggpaa.GQ Go.Proofs.Ytfnogcppbhggpaa.OMap Go.Proofs.Ytfnogcppbhggpaa.UTrie Go.Proofs.Ytfnogcppbhggpaa.UTold Go.Maps
theorem kI_made (W : World) : kI.R 3 (W.alloc (.cells #[] 3)) W.heap.size (fun _ => True) (.slice (some ⟨W.heap.size, 0, none⟩) 0 0) [] :=
  ⟨fun _ _ => trivial, [], World.ownsRow_lit (base := W.heap.size) (e := 3) (size := 1) W #[] 0 (Nat.le_refl _) (by simp [maxLen]) (by simp), Reps.none _ _⟩
theorem wr_set {l : List Ent} (h : Sorted l) {j : Nat} (hj : j < l.length) {t : Row} (e : (eAt l j).1 = t) (v : Int) : (l.map toT).set j (toT (t, v)) = (wr t v l).map toT := by
  apply List.ext_getElem?
  intro i
  rw [List.getElem?_set, List.getElem?_map]
  unfold wr
  rw [List.getElem?_map, List.getElem?_map, List.length_map]
  by_cases hi : i < l.length
  · rw [List.getElem?_eq_getElem hi]
    have hel : eAt l i = l[i] := by
      unfold eAt
      rw [List.getD_eq_getElem?_getD, List.getElem?_eq_getElem hi]; rfl
    by_cases hij : j = i
    · subst hij
      rw [if_pos rfl, if_pos hi]
      show some (toT (t, v)) = some (toT (if (l[j]).1 = t then (t, v) else l[j]))
      rw [if_pos (by rw [← hel]; exact e)]
    · rw [if_neg hij]
      show some (toT l[i]) = some (toT (if (l[i]).1 = t then (t, v) else l[i]))
      rw [if_neg (fun h2 => hij (sorted_one h hj hi (e.trans (by rw [hel]; exact h2.symm))))]
  · rw [List.getElem?_eq_none (by omega)]
    by_cases hij : j = i
    · omega
    · rw [if_neg hij]; rfl
theorem kT_made (W : World) (ok : Nat → Prop) : Kd.N k49 49 (W.alloc (.cells #[] 49)) W.heap.size (fun k => ok k ∨ W.heap.size ≤ k) (.slice (some ⟨W.heap.size, 0, none⟩) 0 0) [] :=
  Kd.R_N (⟨fun k hk => by simp [Value.ownBlock] at hk; right; omega, [], World.ownsRow_lit (base := W.heap.size) (e := 49) (size := 2) W #[] 0 (Nat.le_refl _) (by simp [maxLen]) (by simp), Reps.none _ _⟩)
/-- Under way: the rows so far, the new row in its box or put in already. -/
structure RP0 (w W : World) (ok : Nat → Prop) (E : Nat) (A : Option Addr) (c n nt : Nat) (l : List Ent) (A3 : Option Addr) (c3 : Nat) (t : Row) (v : Int) (vo : Value) (xs : List Ent) (d : Bool) : Prop where
  bel : Below w.heap.size w W
  src : Kd.V k49 49 W 0 (fun k => ok k ∧ k < w.heap.size) (.slice A n c) (l.map toT)
  out : Kd.N k49 49 W (E + 1) (fun k => (ok k ∧ k < w.heap.size) ∨ (w.heap.size ≤ k ∧ k ≠ E)) vo (xs.map toT)
  row : kI.R 3 W w.heap.size (fun k => k < E) (.slice A3 nt c3) t
  box : W.heap[E]? = some (.cells (if d = true then #[.slice none 0 0, .int .i64 0] else #[.slice A3 nt c3, .int .i64 v]) 49 (0, 0))
  lt : w.heap.size ≤ E
/-- What the rows so far are. -/
def St (l : List Ent) (t : Row) (v : Int) (i : Nat) (xs : List Ent) (d : Bool) : Prop := (d = false ∧ (∀ f ∈ l.take i, ¬ UTrie.lt t f.1 = true) ∧ xs = l.take i) ∨ (d = true ∧ (∃ f ∈ l.take i, UTrie.lt t f.1 = true) ∧ xs = ins t v (l.take i))
structure RP (w W : World) (ok : Nat → Prop) (E : Nat) (A : Option Addr) (c n nt : Nat) (l : List Ent) (A3 : Option Addr) (c3 : Nat) (t : Row) (v : Int) (i : Nat) (vo : Value) (xs : List Ent) (d : Bool) : Prop extends RP0 w W ok E A c n nt l A3 c3 t v vo xs d where
  st : St l t v i xs d
theorem RP0.below {w W W' : World} {ok : Nat → Prop} {E : Nat} {A A3 : Option Addr} {c n nt c3 : Nat} {l xs : List Ent} {t : Row} {v : Int} {vo : Value} {d : Bool} (h : RP0 w W ok E A c n nt l A3 c3 t v vo xs d) (hb : Below W.heap.size W W') : RP0 w W' ok E A c n nt l A3 c3 t v vo xs d :=
  ⟨h.bel.trans (hb.mono h.bel.size), Kd.V_below h.src hb, Kd.N_below h.out hb, Kd.R_below h.row hb, blk_below h.box hb, h.lt⟩
/-- The rows so far are others; what lies below them stays. -/
theorem RP0.app {w W W' : World} {ok : Nat → Prop} {E : Nat} {A A3 : Option Addr} {c n nt c3 : Nat} {l xs xs' : List Ent} {t : Row} {v : Int} {vo vo' : Value} {d : Bool} (h : RP0 w W ok E A c n nt l A3 c3 t v vo xs d) (hb : Below (E + 1) W W') (ho : Kd.N k49 49 W' (E + 1) (fun k => (ok k ∧ k < w.heap.size) ∨ (w.heap.size ≤ k ∧ k ≠ E)) vo' (xs'.map toT)) : RP0 w W' ok E A c n nt l A3 c3 t v vo' xs' d :=
  ⟨h.bel.trans (hb.mono (Nat.le_succ_of_le h.lt)), Kd.V_step h.src (fun k hk _ => hb.block k (by have := h.lt; omega)), ho, Kd.R_step h.row (fun k hk _ => hb.block k (by omega)), (hb.block E (Nat.lt_succ_self E)).trans h.box, h.lt⟩
/-- The box is emptied, once the row is in. -/
theorem RP0.gone {w W : World} {ok : Nat → Prop} {E : Nat} {A A3 : Option Addr} {c n nt c3 : Nat} {l xs : List Ent} {t : Row} {v : Int} {vo : Value} (h : RP0 w W ok E A c n nt l A3 c3 t v vo xs false) :
    RP0 w ((W.setCell ⟨E, 0, none⟩ (.slice none 0 0)).setCell ⟨E, 1, none⟩ (.int .i64 0)) ok E A c n nt l A3 c3 t v vo xs true := by
  have b1 := (Below.refl E W).setCell (p := ⟨E, 0, none⟩) (Nat.le_refl _) (.slice none 0 0)
  have b2 := b1.setCell (p := ⟨E, 1, none⟩) (Nat.le_refl _) (.int .i64 0)
  have far : ∀ k, k ≠ E → ((W.setCell ⟨E, 0, none⟩ (.slice none 0 0)).setCell ⟨E, 1, none⟩ (.int .i64 0)).heap[k]? = W.heap[k]? := fun k hk => (Below.heap_setCell _ ⟨E, 1, none⟩ _ k hk).trans (Below.heap_setCell _ ⟨E, 0, none⟩ _ k hk)
  have hlt := h.lt
  refine ⟨h.bel.trans (b2.mono hlt), Kd.V_step h.src (fun k hk _ => far k (by omega)), Kd.N_step h.out (fun k hk _ => far k (by omega)), Kd.R_step h.row (fun k hk _ => far k (by omega)), ?_, hlt⟩
  have := blk_set (blk_set h.box 0 (.slice none 0 0)) 1 (.int .i64 0)
  simpa using this
theorem St.next {l : List Ent} {t : Row} {v : Int} {i : Nat} {xs : List Ent} {d : Bool} (h : St l t v i xs d) (hi : i < l.length) (hd : d = true ∨ UTrie.lt t (eAt l i).1 = false) : St l t v (i + 1) (xs ++ [eAt l i]) d := by
  unfold St
  rw [takeE0 l i hi, eAt_0]
  rcases h with ⟨h1, h2, h3⟩ | ⟨h1, ⟨f, hf, h2⟩, h3⟩
  · refine .inl ⟨h1, fun f hf => ?_, by rw [h3]⟩
    rcases List.mem_append.1 hf with q | q
    · exact h2 f q
    · rw [List.mem_singleton.1 q]
      rcases hd with e | e
      · rw [h1] at e; cases e
      · rw [e]; decide
  · exact .inr ⟨h1, ⟨f, List.mem_append_left _ hf, h2⟩, by rw [h3, ins_done t v [eAt l i] _ ⟨f, hf, h2⟩]⟩
theorem St.in_ {l : List Ent} {t : Row} {v : Int} {i : Nat} {xs : List Ent} (h : St l t v i xs false) (hi : i < l.length) (hd : UTrie.lt t (eAt l i).1 = true) : St l t v (i + 1) ((xs ++ [(t, v)]) ++ [eAt l i]) true := by
  unfold St
  rw [takeE0 l i hi, eAt_0]
  rcases h with ⟨h1, h2, h3⟩ | ⟨h1, _⟩
  · exact .inr ⟨rfl, ⟨eAt l i, List.mem_append_right _ (List.mem_singleton.2 rfl), hd⟩, by rw [h3, ins_here t v (eAt l i) [] hd _ h2, List.append_assoc]; rfl⟩
  · cases h1
theorem at_told_F {w : World} {ok : Nat → Prop} {A : Option Addr} {l : List Ent} (h : Kd.F k49 w ok A (l.map toT).length (l.map toT)) (i : Nat) (hi : i < l.length) : ∃ ad A0 c0, A = some ad ∧ w.cell? (ad.add (i * 2)) = some (.slice A0 (eAt l i).1.length c0) ∧ w.cell? ⟨(ad.add (i * 2)).block, (ad.add (i * 2)).off + 1, none⟩ = some (.int .i64 (eAt l i).2) ∧ (eAt l i).1.length ≤ c0 ∧ Kd.F kI w ok A0 (eAt l i).1.length (eAt l i).1 ∧ ok ad.block := by
  obtain ⟨ad, c, e, _, hK, hc0, hok⟩ := Kd.F_get h z49 (i : Int) (by omega) (by rw [List.length_map]; omega)
  have hc : ∀ j u, c[j]? = some u → w.cell? (ad.add (i * 2 + j)) = some u := hc0
  rw [show (l.map toT).getD (i : Int).toNat z49 = toT (eAt l i) from rdT l i hi] at hK
  obtain ⟨A0, c0, rfl, l0, g0⟩ := k49_openF hK
  exact ⟨ad, A0, c0, e, hc 0 _ rfl, by rw [← add_field _ _ 1 (by omega)]; exact hc 1 _ rfl, l0, g0, hok (by decide)⟩
/-- What Put answers. -/
def RefPut (w : World) (ok : Nat → Prop) (l : List Ent) (val : Row → Option Int) (t : Row) (v : Int) : Ending → World → Prop := fun e w' => ∃ (A' : Option Addr) (c' : Nat) (l' : List Ent), e = .returned (.tuple #[.slice A' l'.length c', .bool (tPut val l.length t v).2.2.1, .int .i64 (tPut val l.length t v).2.2.2]) ∧ Rep l' (tPut val l.length t v).1 ∧ l'.length ≤ l.length + 1 ∧ RefAt w' (fun k => ok k ∨ w.heap.size ≤ k) A' c' l' ∧ Below w.heap.size w w'
set_option maxHeartbeats 32000000 in
set_option maxRecDepth 100000 in
theorem ref_put (A : Option Addr) (c : Nat) (l : List Ent) (A1 : Option Addr) (c1 : Nat) (t : List Int) (v : Int) (ok : Nat → Prop) (val : Row → Option Int) (w : World) (h : RefAt w ok A c l) (hr : Rep l val) (ht : Kd.C kI w A1 t.length t) (hc1 : t.length ≤ c1) (hl : l.length ≤ 1000) (htl : t.length ≤ 1000000) (hBB : ∀ e ∈ l, e.1.length ≤ 128) :
    Calls Try.prog 20 #[.slice A l.length c, .slice A1 t.length c1, .int .i64 v] w (RefPut w ok l val t v) := by
  have H := Aside0.mk h
  have HR := Aside0.mk hr
  have BB := Aside0.mk hBB
  clear hBB
  have SAME : ∀ (b : Bool) (x : Int), (tPut val l.length t v) = (val, (l.length : Int), b, x) → RefPut w ok l val t v (.returned (.tuple #[.slice A l.length c, .bool b, .int .i64 x])) w := fun b x e => by
    refine ⟨A, c, l, by rw [e], by rw [e]; exact hr, by omega, Kd.V_mono h (fun k hk => .inl hk), Below.refl _ _⟩
  have SAME := Aside0.mk SAME
  obtain ⟨n, hn⟩ : ∃ n, l.length = n := ⟨_, rfl⟩
  obtain ⟨nt, hnt⟩ : ∃ nt, t.length = nt := ⟨_, rfl⟩
  have HN := Aside0.mk hn
  have HNT := Aside0.mk hnt
  rw [hn] at hl SAME
  rw [hnt] at htl
  rw [hn, hnt]
  rw [hnt] at ht hc1
  have HT := Aside0.mk ht
  have HC1 := Aside0.mk hc1
  clear h hr ht hc1 hn hnt
  go_enter Try.func20, Try.ntmps20
  by_cases b1 : nt = 0
  · have d1 : decide (nt < 1) = true := decide_eq_true (by omega)
    have d2 : decide (nt = 0) = true := decide_eq_true (by omega)
    have d3 : decide ((nt : Int) < 1) = true := decide_eq_true (by omega)
    go_wp2
    go_ret3
    exact SAME.out _ _ (by unfold tPut; rw [if_pos (by rw [HNT.out]; exact b1)])
  have d1 : decide (nt < 1) = false := decide_eq_false (by omega)
  have d2 : decide (nt = 0) = false := decide_eq_false (by omega)
  have d3 : decide ((nt : Int) < 1) = false := decide_eq_false (by omega)
  by_cases b2 : nt > 128
  · have d4 : decide (128 < nt) = true := decide_eq_true (by omega)
    have d5 : decide ((nt : Int) > 128) = true := decide_eq_true (by omega)
    go_wp2
    go_ret3
    exact SAME.out _ _ (by unfold tPut; rw [if_neg (by rw [HNT.out]; exact b1), if_pos (by rw [HNT.out]; exact b2)])
  have d4 : decide (128 < nt) = false := decide_eq_false (by omega)
  have d5 : decide ((nt : Int) > 128) = false := decide_eq_false (by omega)
  have KN := Aside0.mk (kI_made w)
  go_upto_region 5 with (fail)
  go_upto_region 6 with ((with_reducible refine gate_builtin (b := .append) (xs := #[.tmp 23, .tmp 24]) rfl ?_); go_loud ((refine Kd.R_append_rows kI (w0 := w) w.heap.size rfl (.tmp 23) (.tmp 24) 31 3 (.int .i64 0) 8 rfl Try.underlying31 infoI rfl (by decide) (by omega) (.slice (some ⟨w.heap.size, 0, none⟩) 0 0) [] t A1 nt c1 (fun _ => True) (fun _ => False) (by rfl) (by rfl) ?aO ?aR (fun _ _ h => h) (fun _ h => h.elim) ?aF ?aB ?aS ?aL ?_); (case aR => exact Kd.C_below HT.out (below_alloc (Below.refl _ _) _)); (case aB => exact below_alloc (Below.refl _ _) _); (case aF => exact fun _ _ => trivial); (case aO => exact KN.out); (case aS => exact (below_alloc (Below.refl _ _) _).size); (case aL => simp; omega); intro v9 w9 ho hb hg hat; rw [List.nil_append] at ho; obtain ⟨A3, c3, rfl⟩ := Kd.R_slice ho; rw [HNT.out] at ho; have K3 := Aside0.mk ho; rw [HNT.out]; have B9 := Aside0.mk hb; clear ho hb hg hat))
  have EB := Aside0.mk (blk_new w9 (.cells #[.slice A3 nt c3, .int .i64 v] 49 (0, 0)))
  have K4 := Aside0.mk (Kd.R_below (Kd.R_mono (ok' := fun k => k < w9.heap.size) (Kd.R_bound K3.out) (fun k hk => hk.2.2.1)) (below_alloc (Below.refl _ _) (.cells #[.slice A3 nt c3, .int .i64 v] 49 (0, 0))))
  have B10 := Aside0.mk (below_alloc B9.out (.cells #[.slice A3 nt c3, .int .i64 v] 49 (0, 0)))
  have HE := Aside0.mk B9.out.size
  generalize hw10 : w9.alloc (.cells #[.slice A3 nt c3, .int .i64 v] 49 (0, 0)) = w10 at EB K4 B10 ⊢
  generalize w9.heap.size = E at EB K4 HE ⊢
  clear hw10 K3 B9 KN
  have H10 := Aside0.mk (Kd.V_mono (Kd.V_below (Kd.V_bound H.out) B10.out) (ok' := fun k => ok k ∧ k < w.heap.size) (fun k hk => hk))
  obtain ⟨rr, f1, f2, f3, f4, f5, FC⟩ := ref_find (show RefAt w10 _ A c l from H10.out) HR.out (show Kd.C kI w10 A1 t.length t by rw [HNT.out]; exact Kd.C_below HT.out B10.out) (c1 := c1) (by rw [HNT.out]; exact HC1.out) (by rw [HN.out]; omega) (by rw [HNT.out]; omega)
  rw [HN.out, HNT.out] at FC
  rw [HN.out] at f1 f3 f5
  have FC := Aside0.mk FC
  have F1 := Aside0.mk f1
  have F5 := Aside0.mk f5
  go_upto_region 7 with (go_at_call 21; go_loud ((refine FC.out.mono ?_); rintro e w11 ⟨rfl, hb⟩; have EB1 := Aside0.mk (blk_below EB.out hb); have K5 := Aside0.mk (Kd.R_below K4.out hb); have H11 := Aside0.mk (Kd.V_below H10.out hb); have B11 := Aside0.mk (below_step B10.out hb); clear hb))
  clear EB K4 H10 B10 f1 f5 FC
  by_cases hv : (val t).isSome = true
  · have g1 : decide (rr ≥ 0) = true := decide_eq_true (f2.2 hv)
    have g2 : decide (0 ≤ rr) = true := decide_eq_true (f2.2 hv)
    obtain ⟨vo, hvo⟩ := Option.isSome_iff_exists.1 hv
    obtain ⟨j, hrj, hjl, hje⟩ := F5.out vo hvo
    subst hrj
    have NN := Aside0.mk (kT_made w11 (fun _ => False))
    go_upto_region 9 with ((with_reducible refine gate_builtin (b := .append) (xs := #[.tmp 33, .tmp 34]) rfl ?_); go_loud ((refine Kd.N_append_rows k49 (w0 := w11) w11.heap.size rfl (.tmp 33) (.tmp 34) 46 49 (.agg #[(.slice none 0 0), (.int .i64 0)]) 32 rfl Try.underlying46 info49 rfl (by decide) (by omega) (.slice (some ⟨w11.heap.size, 0, none⟩) 0 0) ([] : List S49) (l.map toT) A n c (fun k => (ok k ∧ k < w.heap.size) ∨ w.heap.size ≤ k) (fun k => ok k ∧ k < w.heap.size) (by rfl) (by rfl) ?aO ?aR ?aK (fun k hk => .inr (Nat.le_trans B11.out.size (Nat.le_trans (below_alloc (Below.refl w11.heap.size w11) _).size hk))) ?aB ?aS ?aL ?_); (case aO => exact Kd.N_mono NN.out (fun k hk => hk.elim (fun q => q.elim) (fun q => .inr (Nat.le_trans B11.out.size q)))); (case aR => have h7 := Kd.F_alloc (Kd.V_F H11.out) (.cells #[] 49); rw [HN.out] at h7; exact h7); (case aK => exact fun k hk => ⟨.inl hk, fun e => by have := B11.out.size; simp [Value.ownBlock] at e; omega⟩); (case aB => exact below_alloc (Below.refl _ _) _); (case aS => exact (below_alloc (Below.refl _ _) _).size); (case aL => simp; omega); intro v12 w12 ho hb hg hat; rw [List.nil_append] at ho; have O12 := Aside0.mk ho; have B12 := Aside0.mk hb; clear ho hb hg hat))
    have J12 := Aside0.mk (blk_below EB1.out B12.out)
    have K12 := Aside0.mk (Kd.R_below K5.out B12.out)
    have L12 := Aside0.mk (Nat.le_trans (Nat.le_of_lt (blk_lt EB1.out)) B12.out.size)
    obtain ⟨gN, capN, rfl, hgN, _, _⟩ := Kd.N_form O12.out (by rw [List.length_map, HN.out]; omega)
    rw [List.length_map, HN.out] at O12 ⊢
    obtain ⟨cc, hcl, _, hcc, _⟩ := Kd.N_elem O12.out z49 (j : Int) (by omega) (by omega)
    have y0 := (blk_cell J12.out 0).trans (show #[Value.slice A3 nt c3, .int .i64 v][0]? = some (Value.slice A3 nt c3) from rfl)
    have y1 := (blk_cell J12.out 1).trans (show #[Value.slice A3 nt c3, .int .i64 v][1]? = some (Value.int .i64 v) from rfl)
    have s0 : 0 ≤ (j : Int) := by omega
    have s1 : (j : Int) < (n : Int) := by omega
    have FM := Aside0.mk (k49_mkF w12 (fun k => w.heap.size ≤ k ∧ k < E) (toT (t, v)) (A0 := A3) (c0 := c3) (by show t.length ≤ c3; rw [HNT.out]; exact (Kd.R_reads' K12.out).2.1) (by show Kd.F kI w12 _ A3 t.length t; rw [HNT.out]; exact Kd.F_mono (Kd.R_F (Kd.R_bound K12.out)) (fun k hk => ⟨hk.2.1, hk.1⟩)))
    go_wp2_with ((with_reducible refine gate_store (t := 49) (p := 39) rfl ?_); go_loud ((refine Kd.N_store k49 (w0 := w11) w11.heap.size rfl rfl 49 (.tmp 39) (.tmp 38) rfl 49 (g := gN) (n := n) (cap := capN) (o' := j * 2) (j : Int) 0 (l.map toT) (toT (t, v)) (.agg #[.slice A3 nt c3, .int .i64 v]) [.slice A3 nt c3, .int .i64 v] cc (fun k => (ok k ∧ k < w.heap.size) ∨ w.heap.size ≤ k) (fun k => w.heap.size ≤ k ∧ k < E) (by rfl) (by rfl) (by rfl) (by rfl) (by kernel_rfl) (by simp [Value.oneCell']) O12.out s0 s1 hcl hcc (Nat.le_refl 2) ?aM ?aK B12.out ?_); (case aM => have h8 := FM.out; simp only [HNT.out] at h8; rw [List.take_zero, List.drop_eq_nil_of_le (by rw [hcl]; exact Nat.le_refl 2)]; exact h8); (case aK => exact fun k hk => ⟨.inr hk.1, by have := blk_lt EB1.out; omega⟩); intro w13 ho hb hg; rw [Int.toNat_natCast, wr_set HR.out.1 (by rw [HN.out]; exact hjl) (by rw [hje])] at ho; have O13 := Aside0.mk ho; have B13 := Aside0.mk hb; clear ho hb hg))
    go_ret3
    have TP : tPut val l.length t v = (upd val t (some v), (l.length : Int), false, 0) := by unfold tPut; rw [if_neg (by rw [HNT.out]; exact b1), if_neg (by rw [HNT.out]; exact b2), if_pos hv]
    have hwl : (wr t v l).length = n := by unfold wr; rw [List.length_map, HN.out]
    refine ⟨some ⟨gN, 0, none⟩, capN, wr t v l, by rw [TP]; exact congrArg (fun k => Ending.returned (.tuple #[.slice (some ⟨gN, 0, none⟩) k capN, .bool false, .int .i64 0])) hwl.symm, by rw [TP]; exact rep_wr HR.out hvo v, by rw [hwl, HN.out]; omega, ?_, B11.out.trans (B13.out.mono B11.out.size)⟩
    have h9 := Kd.N_V (base' := 0) O13.out
    rw [← hwl] at h9
    exact Kd.V_mono h9 (fun k hk => hk.elim (fun q => .inl q.1) .inr)
  · have g1 : decide (rr ≥ 0) = false := decide_eq_false (fun h => hv (f2.1 h))
    have g2 : decide (0 ≤ rr) = false := decide_eq_false (fun h => hv (f2.1 h))
    by_cases b3 : n > 999
    · have g3 : decide (999 < n) = true := decide_eq_true b3
      have g4 : decide ((n : Int) > 999) = true := decide_eq_true (by omega)
      go_wp2
      go_ret3
      have TP : tPut val l.length t v = (val, (l.length : Int), false, 10) := by unfold tPut; rw [if_neg (by rw [HNT.out]; exact b1), if_neg (by rw [HNT.out]; exact b2), if_neg hv, if_pos (by rw [HN.out]; omega)]
      exact ⟨A, c, l, by rw [TP]; exact congrArg (fun k => Ending.returned (.tuple #[.slice A k c, .bool false, .int .i64 10])) HN.out.symm, by rw [TP]; exact HR.out, by omega, Kd.V_mono (ok := fun k => ok k ∧ k < w.heap.size) H11.out (fun k hk => .inl hk.1), B11.out⟩
    · have g3 : decide (999 < n) = false := decide_eq_false b3
      have g4 : decide ((n : Int) > 999) = false := decide_eq_false (by omega)
      have NN := Aside0.mk (kT_made w11 (fun _ => False))
      have BA := below_alloc (Below.refl w11.heap.size w11) (.cells #[] 49)
      have ST := Aside0.mk (show RP w (w11.alloc (.cells #[] 49)) ok E A c n nt l A3 c3 t v 0 (.slice (some ⟨w11.heap.size, 0, none⟩) 0 0) [] false from by
        have hlt := blk_lt EB1.out
        refine ⟨⟨below_step B11.out BA, ?_, ?_, Kd.R_below K5.out BA, blk_below EB1.out BA, HE.out⟩, .inl ⟨rfl, fun f hf => by simp at hf, rfl⟩⟩
        · have h1 := Kd.V_below H11.out BA
          rw [HN.out] at h1
          exact h1
        · exact Kd.N_lower (Kd.N_mono NN.out (fun k hk => hk.elim (fun q => q.elim) (fun q => .inr ⟨Nat.le_trans B11.out.size q, by omega⟩))) hlt)
      go_upto_region 14 with (fail)
      generalize w11.alloc (.cells #[] 49) = w12 at ST ⊢
      go_wp2
      clear NN BA EB1 K5 H11 B11
      generalize w11.heap.size = Z at ST ⊢
      go_loopg [12, 48] n (fun kq v12 v48 w' => ∃ (i : Nat) (xs : List Ent) (d : Bool), v48 = .int .i64 (i : Int) ∧ Aside0 (i + kq = n) ∧ Aside0 (RP w w' ok E A c n nt l A3 c3 t v i v12 xs d))
      case atStart => exact ⟨0, [], false, rfl, ⟨Nat.zero_add _⟩, ST⟩
      case round =>
        clear ST
        obtain ⟨i, xs, d, rfl, HJ, TT⟩ := hrel
        have hj := HJ.out
        cases gk with
        | succ k =>
          have e1 : decide (i < n) = true := decide_eq_true (by omega)
          have p1 : 0 ≤ (i : Int) := by omega
          have q1 : (i : Int) < (n : Int) := by omega
          have FS := Kd.V_F TT.out.src
          rw [← HN.out, ← show (l.map toT).length = l.length from List.length_map ..] at FS
          obtain ⟨ad, A0, c0, e0, hx0, hx1, hl0, hF0, hok0⟩ := at_told_F FS i (by rw [HN.out]; omega)
          subst e0
          obtain ⟨e, he⟩ : ∃ e, eAt l i = e := ⟨_, rfl⟩
          rw [he] at hx0 hx1 hl0 hF0
          obtain ⟨ne, hne⟩ : ∃ n, e.1.length = n := ⟨_, rfl⟩
          rw [hne] at hx0 hl0
          have HE := Aside0.mk he
          have HNE := Aside0.mk hne
          have HF := Aside0.mk hF0
          clear FS hF0 hok0 he hne hj
          go_upto_region 17 with (fail)
          have BE := below_alloc (Below.refl wr.heap.size wr) (.cells #[.slice A0 ne c0, .int .i64 e.2] 49 (0, 0))
          have T1 := Aside0.mk (TT.out.toRP0.below BE)
          have ST1 := Aside0.mk TT.out.st
          have BX := Aside0.mk (show xs.length ≤ 1000 from by
            have hs := TT.out.st
            rcases hs with ⟨_, _, h3⟩ | ⟨_, _, h3⟩
            · rw [h3, List.length_take]; omega
            · rw [h3, ins_length, List.length_take, HN.out]; omega)
          have NZ := Aside0.mk (Kd.N_lt TT.out.out)
          have ZNE := Aside0.mk (show E < wr.heap.size from blk_lt TT.out.box)
          have EB := Aside0.mk (blk_new wr (.cells #[.slice A0 ne c0, .int .i64 e.2] 49 (0, 0)))
          have HF1 := Aside0.mk (Kd.F_below HF.out BE)
          have LC := Aside0.mk (less_calls A1 c1 t A0 c0 e.1 (wr.alloc (.cells #[.slice A0 ne c0, .int .i64 e.2] 49 (0, 0))) (by rw [HNT.out]; exact Kd.C_below HT.out T1.out.bel) (by rw [HNT.out]; exact HC1.out) (Kd.F_now HF1.out) (by rw [HNE.out]; exact hl0) (by rw [HNT.out]; exact htl) (by rw [← HE.out]; exact Nat.le_trans (BB.out _ (eAt_mem (by rw [HN.out]; omega))) (by decide)))
          rw [HNT.out, HNE.out] at LC
          clear TT HF BE hx0 hx1
          generalize wr.alloc (.cells #[.slice A0 ne c0, .int .i64 e.2] 49 (0, 0)) = w1 at T1 EB HF1 LC ⊢
          generalize wr.heap.size = ZE at NZ ZNE EB ⊢
          have z0 := (blk_cell EB.out 0).trans (show #[Value.slice A0 ne c0, .int .i64 e.2][0]? = some (Value.slice A0 ne c0) from rfl)
          have z1 := (blk_cell EB.out 1).trans (show #[Value.slice A0 ne c0, .int .i64 e.2][1]? = some (Value.int .i64 e.2) from rfl)
          have HIL := Aside0.mk (show i < l.length by rw [HN.out]; omega)
          cases d with
          | true =>
            have y0 := (blk_cell T1.out.box 0).trans (show #[Value.slice none 0 0, .int .i64 0][0]? = some (Value.slice none 0 0) from rfl)
            have hcmp := fun w => run_neq_slice_nil_any (P := Try.prog) w 31 3 none 0 0 0 0 Try.underlying31
            go_upto_region 20 with (fail)
            go_wp2_with (((with_reducible refine gate_builtin (b := .append) (xs := #[.tmp 66, .tmp 68]) rfl ?_); go_loud ((refine Kd.N_append k49 (w0 := w1) (E + 1) rfl (.tmp 66) (.tmp 68) 46 49 (.agg #[(.slice none 0 0), (.int .i64 0)]) 32 rfl Try.underlying46 info49 rfl (by decide) (by omega) _ (xs.map toT) (toT e) [.slice A0 ne c0, .int .i64 e.2] (fun k => (ok k ∧ k < w.heap.size) ∨ (w.heap.size ≤ k ∧ k ≠ E)) (fun k => ok k ∧ k < w.heap.size) (by rfl) (by rfl) ?aP ?aK ?aF T1.out.out (Below.refl _ _) ?aS ?aL ?_); (case aP => have h8 := k49_mkF w1 (fun k => ok k ∧ k < w.heap.size) (toT e) (A0 := A0) (c0 := c0) (by show e.1.length ≤ c0; rw [HNE.out]; exact hl0) HF1.out; simp only [show (toT e).f0.length = ne from HNE.out] at h8; exact h8); (case aK => exact fun k hk => ⟨.inl hk, fun q => by have := Kd.N_base T1.out.out k q.symm; have := T1.out.lt; omega⟩); (case aF => exact fun k hk => .inr ⟨Nat.le_trans T1.out.bel.size hk, by have := T1.out.box; have := blk_lt this; omega⟩); (case aS => exact blk_lt T1.out.box); (case aL => rw [List.length_map]; have := BX.out; omega); intro v9 w9 ho hb hg hat; have O9 := Aside0.mk (show Kd.N k49 49 w9 (E + 1) (fun k => (ok k ∧ k < w.heap.size) ∨ (w.heap.size ≤ k ∧ k ≠ E)) v9 ((xs ++ [e]).map toT) from by rw [List.map_append]; exact ho); have T9 := Aside0.mk (T1.out.app hb O9.out); clear ho hb hg hat)))
            go_roundg k
            case measure => omega
            case rel => exact ⟨i + 1, xs ++ [e], true, by go_num, ⟨by have := HJ.out; omega⟩, ⟨⟨T9.out, by rw [← HE.out]; exact ST1.out.next HIL.out (.inl rfl)⟩⟩⟩
          | false =>
            obtain ⟨gA, cs, eA, _⟩ := R_cell T1.out.row 0 (by omega)
            subst eA
            have y0 := (blk_cell T1.out.box 0).trans (show #[Value.slice (some ⟨gA, 0, none⟩) nt c3, .int .i64 v][0]? = some (Value.slice (some ⟨gA, 0, none⟩) nt c3) from rfl)
            have y1 := (blk_cell T1.out.box 1).trans (show #[Value.slice (some ⟨gA, 0, none⟩) nt c3, .int .i64 v][1]? = some (Value.int .i64 v) from rfl)
            have hcmp := fun w => run_neq_slice_nil_any (P := Try.prog) w 31 3 (some ⟨gA, 0, none⟩) nt c3 0 0 Try.underlying31
            by_cases hb : UTrie.lt t e.1 = true
            · rw [hb] at LC
              have HBB := Aside0.mk hb
              clear hb
              go_upto_region 18 with (go_at_call 18; go_loud ((refine LC.out.mono ?_); rintro e' w2 ⟨rfl, ⟨⟨m, hw2⟩⟩⟩; have bd : Below w1.heap.size w1 w2 := hw2 ▸ pw_below_drewN (Below.refl _ _) m; have T2 := Aside0.mk (T1.out.below bd); have EB2 := Aside0.mk (blk_below EB.out bd); have HF2 := Aside0.mk (Kd.F_below HF1.out bd); have z02 := pw_cell_below bd z0; have z12 := pw_cell_below bd z1; have y02 := pw_cell_below bd y0; have y12 := pw_cell_below bd y1; clear bd hw2))
              clear y0 y1 z0 z1
              go_upto_region 20 with (((with_reducible refine gate_builtin (b := .append) (xs := #[.tmp 61, .tmp 63]) rfl ?_); go_loud ((refine Kd.N_append k49 (w0 := w2) (E + 1) rfl (.tmp 61) (.tmp 63) 46 49 (.agg #[(.slice none 0 0), (.int .i64 0)]) 32 rfl Try.underlying46 info49 rfl (by decide) (by omega) _ (xs.map toT) (toT (t, v)) [.slice (some ⟨gA, 0, none⟩) nt c3, .int .i64 v] (fun k => (ok k ∧ k < w.heap.size) ∨ (w.heap.size ≤ k ∧ k ≠ E)) (fun k => w.heap.size ≤ k ∧ k < E) (by rfl) (by rfl) ?aP ?aK ?aF T2.out.out (Below.refl _ _) ?aS ?aL ?_); (case aP => have h8 := k49_mkF w2 (fun k => w.heap.size ≤ k ∧ k < E) (toT (t, v)) (A0 := some ⟨gA, 0, none⟩) (c0 := c3) (by show t.length ≤ c3; rw [HNT.out]; exact (Kd.R_reads' T2.out.row).2.1) (by show Kd.F kI w2 _ (some ⟨gA, 0, none⟩) t.length t; rw [HNT.out]; exact Kd.F_mono (Kd.R_F (Kd.R_bound T2.out.row)) (fun k hk => ⟨hk.2.1, hk.1⟩)); simp only [show (toT (t, v)).f0.length = nt from HNT.out] at h8; exact h8); (case aK => exact fun k hk => ⟨.inr ⟨hk.1, by omega⟩, fun q => by have := Kd.N_base T2.out.out k q.symm; omega⟩); (case aF => exact fun k hk => .inr ⟨Nat.le_trans T2.out.bel.size hk, by have := T2.out.box; have := blk_lt this; omega⟩); (case aS => exact blk_lt T2.out.box); (case aL => rw [List.length_map]; have := BX.out; omega); intro v8 w8 ho hb hg hat; have O8 := Aside0.mk (show Kd.N k49 49 w8 (E + 1) (fun k => (ok k ∧ k < w.heap.size) ∨ (w.heap.size ≤ k ∧ k ≠ E)) v8 ((xs ++ [(t, v)]).map toT) from by rw [List.map_append]; exact ho); have T8 := Aside0.mk (T2.out.app hb O8.out); have EB8 := Aside0.mk ((hg.block ZE (blk_lt EB2.out) (fun q => by have := NZ.out ZE q.symm; omega)).trans EB2.out); have HF8 := Aside0.mk (Kd.F_step HF2.out (fun k hk _ => hb.block k (by have := T2.out.lt; omega))); have y08 := (blk_cell T8.out.box 0).trans (show #[Value.slice (some ⟨gA, 0, none⟩) nt c3, .int .i64 v][0]? = some (Value.slice (some ⟨gA, 0, none⟩) nt c3) from rfl); have y18 := (blk_cell T8.out.box 1).trans (show #[Value.slice (some ⟨gA, 0, none⟩) nt c3, .int .i64 v][1]? = some (Value.int .i64 v) from rfl); have fz0 := blk_frozen T8.out.box 0; have fz1 := blk_frozen T8.out.box 1; clear ho hb hg hat)))
              have T20 := Aside0.mk T8.out.gone
              have zne : ¬ ZE = E := by have := ZNE.out; omega
              have zne2 : ¬ E = ZE := by have := ZNE.out; omega
              have EB4 := Aside0.mk (blk_far (p := ⟨E, 1, none⟩) (blk_far (p := ⟨E, 0, none⟩) EB8.out zne (.slice none 0 0)) zne (.int .i64 0))
              have HF4 := Aside0.mk (Kd.F_far (p := ⟨E, 1, none⟩) (Kd.F_far (p := ⟨E, 0, none⟩) HF8.out (fun k hk => by show k ≠ E; have := T8.out.lt; omega) (.slice none 0 0)) (fun k hk => by show k ≠ E; have := T8.out.lt; omega) (.int .i64 0))
              clear z02 z12 y02 y12 y08 y18 fz0 fz1 T2 EB2 HF2 O8 T8 EB8 HF8
              generalize (w8.setCell ⟨E, 0, none⟩ (.slice none 0 0)).setCell ⟨E, 1, none⟩ (.int .i64 0) = w4 at T20 EB4 HF4 ⊢
              have z0 := (blk_cell EB4.out 0).trans (show #[Value.slice A0 ne c0, .int .i64 e.2][0]? = some (Value.slice A0 ne c0) from rfl)
              have z1 := (blk_cell EB4.out 1).trans (show #[Value.slice A0 ne c0, .int .i64 e.2][1]? = some (Value.int .i64 e.2) from rfl)
              go_wp2_with (((with_reducible refine gate_builtin (b := .append) (xs := #[.tmp 66, .tmp 68]) rfl ?_); go_loud ((refine Kd.N_append k49 (w0 := w4) (E + 1) rfl (.tmp 66) (.tmp 68) 46 49 (.agg #[(.slice none 0 0), (.int .i64 0)]) 32 rfl Try.underlying46 info49 rfl (by decide) (by omega) _ ((xs ++ [(t, v)]).map toT) (toT e) [.slice A0 ne c0, .int .i64 e.2] (fun k => (ok k ∧ k < w.heap.size) ∨ (w.heap.size ≤ k ∧ k ≠ E)) (fun k => ok k ∧ k < w.heap.size) (by rfl) (by rfl) ?aP ?aK ?aF T20.out.out (Below.refl _ _) ?aS ?aL ?_); (case aP => have h8 := k49_mkF w4 (fun k => ok k ∧ k < w.heap.size) (toT e) (A0 := A0) (c0 := c0) (by show e.1.length ≤ c0; rw [HNE.out]; exact hl0) HF4.out; simp only [show (toT e).f0.length = ne from HNE.out] at h8; exact h8); (case aK => exact fun k hk => ⟨.inl hk, fun q => by have := Kd.N_base T20.out.out k q.symm; have := T20.out.lt; omega⟩); (case aF => exact fun k hk => .inr ⟨Nat.le_trans T20.out.bel.size hk, by have := T20.out.box; have := blk_lt this; omega⟩); (case aS => exact blk_lt T20.out.box); (case aL => rw [List.length_map]; have := BX.out; simp; omega); intro v9 w9 ho hb hg hat; have O9 := Aside0.mk (show Kd.N k49 49 w9 (E + 1) (fun k => (ok k ∧ k < w.heap.size) ∨ (w.heap.size ≤ k ∧ k ≠ E)) v9 ((xs ++ [(t, v)] ++ [e]).map toT) from by rw [List.map_append]; exact ho); have T9 := Aside0.mk (T20.out.app hb O9.out); clear ho hb hg hat)))
              go_roundg k
              case measure => omega
              case rel => exact ⟨i + 1, xs ++ [(t, v)] ++ [e], true, by go_num, ⟨by have := HJ.out; omega⟩, ⟨⟨T9.out, by rw [← HE.out]; exact ST1.out.in_ HIL.out (by rw [HE.out]; exact HBB.out)⟩⟩⟩
            · have HBB := Aside0.mk (Bool.eq_false_iff.2 hb)
              rw [HBB.out] at LC
              clear hb
              go_upto_region 20 with (go_at_call 18; go_loud ((refine LC.out.mono ?_); rintro e' w2 ⟨rfl, ⟨⟨m, hw2⟩⟩⟩; have bd : Below w1.heap.size w1 w2 := hw2 ▸ pw_below_drewN (Below.refl _ _) m; have T2 := Aside0.mk (T1.out.below bd); have EB2 := Aside0.mk (blk_below EB.out bd); have HF2 := Aside0.mk (Kd.F_below HF1.out bd); have z02 := pw_cell_below bd z0; have z12 := pw_cell_below bd z1; have y02 := pw_cell_below bd y0; have y12 := pw_cell_below bd y1; clear bd hw2))
              clear y0 y1 z0 z1
              go_wp2_with (((with_reducible refine gate_builtin (b := .append) (xs := #[.tmp 66, .tmp 68]) rfl ?_); go_loud ((refine Kd.N_append k49 (w0 := w2) (E + 1) rfl (.tmp 66) (.tmp 68) 46 49 (.agg #[(.slice none 0 0), (.int .i64 0)]) 32 rfl Try.underlying46 info49 rfl (by decide) (by omega) _ (xs.map toT) (toT e) [.slice A0 ne c0, .int .i64 e.2] (fun k => (ok k ∧ k < w.heap.size) ∨ (w.heap.size ≤ k ∧ k ≠ E)) (fun k => ok k ∧ k < w.heap.size) (by rfl) (by rfl) ?aP ?aK ?aF T2.out.out (Below.refl _ _) ?aS ?aL ?_); (case aP => have h8 := k49_mkF w2 (fun k => ok k ∧ k < w.heap.size) (toT e) (A0 := A0) (c0 := c0) (by show e.1.length ≤ c0; rw [HNE.out]; exact hl0) HF2.out; simp only [show (toT e).f0.length = ne from HNE.out] at h8; exact h8); (case aK => exact fun k hk => ⟨.inl hk, fun q => by have := Kd.N_base T2.out.out k q.symm; have := T2.out.lt; omega⟩); (case aF => exact fun k hk => .inr ⟨Nat.le_trans T2.out.bel.size hk, by have := T2.out.box; have := blk_lt this; omega⟩); (case aS => exact blk_lt T2.out.box); (case aL => rw [List.length_map]; have := BX.out; omega); intro v9 w9 ho hb hg hat; have O9 := Aside0.mk (show Kd.N k49 49 w9 (E + 1) (fun k => (ok k ∧ k < w.heap.size) ∨ (w.heap.size ≤ k ∧ k ≠ E)) v9 ((xs ++ [e]).map toT) from by rw [List.map_append]; exact ho); have T9 := Aside0.mk (T2.out.app hb O9.out); clear ho hb hg hat)))
              go_roundg k
              case measure => omega
              case rel => exact ⟨i + 1, xs ++ [e], false, by go_num, ⟨by have := HJ.out; omega⟩, ⟨⟨T9.out, by rw [← HE.out]; exact ST1.out.next HIL.out (.inr (by rw [HE.out]; exact HBB.out))⟩⟩⟩
        | zero =>
          have hin : i = n := by omega
          have d1 : decide (i < n) = false := decide_eq_false (by omega)
          have BX := TT.out.box
          have HI := Aside0.mk hin
          have TP : tPut val l.length t v = (upd val t (some v), (l.length : Int) + 1, true, 0) := by unfold tPut; rw [if_neg (by rw [HNT.out]; exact b1), if_neg (by rw [HNT.out]; exact b2), if_neg hv, if_neg (by rw [HN.out]; omega)]
          have TPA := Aside0.mk TP
          clear hj hin TP
          cases d with
          | true =>
            have y0 := (blk_cell BX 0).trans (show #[Value.slice none 0 0, .int .i64 0][0]? = some (Value.slice none 0 0) from rfl)
            clear BX
            have hcmp := fun w => run_neq_slice_nil_any (P := Try.prog) w 31 3 none 0 0 0 0 Try.underlying31
            go_wp2
            go_ret3
            obtain ⟨_, _, hxs⟩ : true = true ∧ (∃ f ∈ l.take i, UTrie.lt t f.1 = true) ∧ xs = ins t v (l.take i) := by
              rcases TT.out.st with ⟨h1, _⟩ | h1
              · cases h1
              · exact h1
            rw [List.take_of_length_le (by rw [HN.out, HI.out]; exact Nat.le_refl _)] at hxs
            obtain ⟨Ao, co, hv12⟩ := Kd.N_slice TT.out.out
            have hout := TT.out.out
            rw [hv12] at hout ⊢
            rw [List.length_map] at hout ⊢
            subst hxs
            refine ⟨Ao, co, ins t v l, (by rw [TPA.out]; rfl), by rw [TPA.out]; exact rep_ins HR.out (by simpa using hv) v, Nat.le_of_eq (ins_length t v l), ?_, TT.out.bel⟩
            exact Kd.V_mono (Kd.N_V (base' := 0) hout) (fun k hk => hk.elim (fun q => .inl q.1) (fun q => .inr q.1))
          | false =>
            obtain ⟨_, hnl, hxs⟩ : false = false ∧ (∀ f ∈ l.take i, ¬ UTrie.lt t f.1 = true) ∧ xs = l.take i := by
              rcases TT.out.st with h1 | ⟨h1, _⟩
              · exact h1
              · cases h1
            rw [List.take_of_length_le (by rw [HN.out, HI.out]; exact Nat.le_refl _)] at hxs hnl
            obtain ⟨gA, cs, eA, _⟩ := R_cell TT.out.row 0 (by omega)
            subst eA
            have y0 := (blk_cell BX 0).trans (show #[Value.slice (some ⟨gA, 0, none⟩) nt c3, .int .i64 v][0]? = some (Value.slice (some ⟨gA, 0, none⟩) nt c3) from rfl)
            have y1 := (blk_cell BX 1).trans (show #[Value.slice (some ⟨gA, 0, none⟩) nt c3, .int .i64 v][1]? = some (Value.int .i64 v) from rfl)
            have EV := Aside0.mk (ins_end t v l hnl)
            have ZL := Aside0.mk (blk_lt BX)
            have FM := Aside0.mk (k49_mkF wr (fun k => w.heap.size ≤ k ∧ k < E) (toT (t, v)) (A0 := some ⟨gA, 0, none⟩) (c0 := c3) (by show t.length ≤ c3; rw [HNT.out]; exact (Kd.R_reads' TT.out.row).2.1) (by show Kd.F kI wr _ (some ⟨gA, 0, none⟩) t.length t; rw [HNT.out]; exact Kd.F_mono (Kd.R_F (Kd.R_bound TT.out.row)) (fun k hk => ⟨hk.2.1, hk.1⟩)))
            have hcmp := fun w => run_neq_slice_nil_any (P := Try.prog) w 31 3 (some ⟨gA, 0, none⟩) nt c3 0 0 Try.underlying31
            clear BX hnl
            subst hxs
            go_wp2_with ((with_reducible refine gate_builtin (b := .append) (xs := #[.tmp 74, .tmp 76]) rfl ?_); go_loud ((refine Kd.N_append k49 (w0 := wr) (E + 1) rfl (.tmp 74) (.tmp 76) 46 49 (.agg #[(.slice none 0 0), (.int .i64 0)]) 32 rfl Try.underlying46 info49 rfl (by decide) (by omega) _ (xs.map toT) (toT (t, v)) [.slice (some ⟨gA, 0, none⟩) nt c3, .int .i64 v] (fun k => (ok k ∧ k < w.heap.size) ∨ (w.heap.size ≤ k ∧ k ≠ E)) (fun k => w.heap.size ≤ k ∧ k < E) (by rfl) (by rfl) ?aP ?aK ?aF TT.out.out (Below.refl _ _) ?aS ?aL ?_); (case aP => have h8 := FM.out; simp only [HNT.out] at h8; exact h8); (case aK => exact fun k hk => ⟨.inr ⟨hk.1, by omega⟩, fun e => by have := Kd.N_base TT.out.out k e.symm; omega⟩); (case aF => exact fun k hk => .inr ⟨Nat.le_trans TT.out.bel.size hk, by have := ZL.out; omega⟩); (case aS => exact ZL.out); (case aL => rw [List.length_map, HN.out]; omega); intro v13 w13 ho hb hg hat; have O13 := Aside0.mk ho; have B13 := Aside0.mk hb; clear ho hb hg hat))
            go_ret3
            have O14 := O13.out
            rw [show (xs.map toT ++ [toT (t, v)]) = (ins t v xs).map toT by rw [EV.out, List.map_append]; rfl] at O14
            obtain ⟨Ao, co, rfl⟩ := Kd.N_slice O14
            rw [List.length_map] at O14 ⊢
            refine ⟨Ao, co, ins t v xs, (by rw [TPA.out]; rfl), by rw [TPA.out]; exact rep_ins HR.out (by simpa using hv) v, Nat.le_of_eq (ins_length t v xs), ?_, TT.out.bel.trans (B13.out.mono (Nat.le_trans TT.out.lt (Nat.le_succ E)))⟩
            exact Kd.V_mono (Kd.N_V (base' := 0) O14) (fun k hk => hk.elim (fun q => .inl q.1) (fun q => .inr q.1))
end Go.Proofs.Ytfnogcppbhggpaa.OTrie
