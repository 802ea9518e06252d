/- tillerlaw06.spoil, walked by hand: it writes over what the copy's rows hold, nothing else. Written by this session's program gspoil.py. -/
import Derived.Test.YtdlhodbokkaghaaGMod
import Derived.Outline
set_option linter.unusedVariables false
set_option linter.unusedSimpArgs false
namespace Go.Proofs.Ytdlhodbokkaghaa.GQ
open Go.RowKit Go.Proofs.YtdlhodbokkaghaaW.PrintWords Go.Proofs.YtdlhodbokkaghaaW.PrintLast Go.Proofs.YtdlhodbokkaghaaW.PrintMore Go.Proofs.Ytdlhodbokkaghaa.U
/-- A row of whole numbers that may be written over; its block lies from b on, below n. -/
def Wb (W : World) (b n : Nat) (v : Value) : Prop := ∃ A m c, v = .slice A m c ∧ m ≤ 1000000000000000 ∧ (0 < m → ∃ g, A = some ⟨g, 0, none⟩ ∧ b ≤ g ∧ g < n ∧ (∃ cs t, W.heap[g]? = some (.cells cs t (0, 0))) ∧ ∀ j, j < m → (∃ x, W.cell? ⟨g, j, none⟩ = some (.int .i32 x)) ∧ W.frozen? ⟨g, j, none⟩ = false)
theorem Wb.of {W : World} {b : Nat} {ok : Nat → Prop} {v : Value} {l : List Int} (h : kI.R NumT W b ok v l) (hl : l.length ≤ 1000000000000000) : Wb W b W.heap.size v := by
  obtain ⟨A, c, rfl⟩ := Kd.R_slice h
  refine ⟨A, l.length, c, rfl, hl, fun hp => ?_⟩
  have h2 := h.2
  obtain ⟨inner, ho, _⟩ := h2
  obtain ⟨g, cap, e, _⟩ := ho.form hp
  injection e with e1 e2 e3
  subst e1 e3
  refine ⟨g, rfl, Kd.R_base h g rfl, Kd.R_lt h g rfl, (let ⟨cs, e⟩ := Kd.R_typed h g rfl; ⟨cs, _, e⟩), fun j hj => ?_⟩
  obtain ⟨cs, hc1, hM, hc, hf⟩ := Kd.R_elem h 0 (j : Int) (by omega) (by omega)
  rw [Int.toNat_natCast] at hc hf
  have hs : ∀ i, j * kI.sz + i = j + i := fun i => by show j * 1 + i = j + i; omega
  have hM2 : cs = [.int .i32 (l.getD (j : Int).toNat 0)] := by
    have := kI.K_of_M (w := W) (base := b) hM
    simpa [Kd.int, Kd.scalar] using this
  refine ⟨⟨l.getD (j : Int).toNat 0, ?_⟩, ?_⟩
  · have := hc 0 _ (by rw [hM2]; rfl)
    rwa [hs, Nat.add_zero] at this
  · have := hf 0
    rwa [hs, Nat.add_zero] at this
theorem Wb.step {W W' : World} {b n : Nat} {v : Value} (h : Wb W b n v) (hb : Below n W W') : Wb W' b n v := by
  obtain ⟨A, m, c, e, hm, h⟩ := h
  refine ⟨A, m, c, e, hm, fun hp => ?_⟩
  obtain ⟨g, e1, h1, h2, ⟨cs, t, hh⟩, h3⟩ := h hp
  refine ⟨g, e1, h1, h2, ⟨cs, t, (hb.block g h2).trans hh⟩, fun j hj => ?_⟩
  obtain ⟨⟨x, hx⟩, hf⟩ := h3 j hj
  exact ⟨⟨x, (hb.cell (p := ⟨g, j, none⟩) h2).trans hx⟩, (hb.frozen (p := ⟨g, j, none⟩) h2).trans hf⟩
theorem Wb.set {W : World} {b n : Nat} {v : Value} (h : Wb W b n v) (g' j' : Nat) (y : Int) {t : Nat} {cs : Array Value} (hb : W.heap[g']? = some (.cells cs t (0, 0))) : Wb (W.setCell ⟨g', j', none⟩ (.int .i32 y)) b n v := by
  obtain ⟨A, m, c, e, hm, h⟩ := h
  refine ⟨A, m, c, e, hm, fun hp => ?_⟩
  obtain ⟨g, e1, h1, h2, ⟨cs0, t0, hh⟩, h3⟩ := h hp
  refine ⟨g, e1, h1, h2, ?_, fun j hj => ?_⟩
  · by_cases hg : g = g'
    · subst hg
      exact ⟨_, _, blk_set hb j' _⟩
    · exact ⟨_, _, blk_far (p := ⟨g', j', none⟩) hh hg _⟩
  obtain ⟨⟨x, hx⟩, hf⟩ := h3 j hj
  by_cases hg : g = g'
  · subst hg
    have hn := blk_set hb j' (.int .i32 y)
    have hx2 : cs[j]? = some (.int .i32 x) := by rw [← blk_cell hb j]; exact hx
    refine ⟨?_, blk_frozen hn j⟩
    rw [blk_cell hn j]
    by_cases hj2 : j' = j
    · subst hj2
      refine ⟨y, ?_⟩
      rw [Array.getElem?_setIfInBounds_self_of_lt (Array.getElem?_eq_some_iff.1 hx2).1]
    · exact ⟨x, by rw [Array.getElem?_setIfInBounds_ne hj2]; exact hx2⟩
  · have hne : (W.setCell ⟨g', j', none⟩ (.int .i32 y)).heap[g]? = W.heap[g]? := Below.heap_setCell W ⟨g', j', none⟩ _ g hg
    exact ⟨⟨x, (World.cell?_of_block (w := W) hne).trans hx⟩, (World.frozen?_of_block (w := W) hne).trans hf⟩
/-- Values, each as a row of one cell. -/
def ones (V : List Value) : List (List Value) := V.map fun u => [u]
theorem ones_len (V : List Value) : (ones V).length = V.length := List.length_map _
theorem ones_app (V U : List Value) : ones (V ++ U) = ones V ++ ones U := List.map_append
/-- A new row of slices. -/
theorem new_rows (W : World) (V : List Value) (h1 : ∀ u ∈ V, u.oneCell' = true) (hl : V.length ≤ 1000) : (Kd.raw 1).R 25 (W.alloc (.cells V.toArray 25 (0, 0))) W.heap.size (fun _ => True) (.slice (some ⟨W.heap.size, 0, none⟩) V.length V.length) (ones V) := by
  refine ⟨fun _ _ => trivial, V, ?_, ?_⟩
  · have h := World.ownsRow_lit (base := W.heap.size) (e := 25) (size := 1) W V.toArray V.length (Nat.le_refl _) (by simp [maxLen]; omega) (by simp)
    have h2 : (W.alloc (.cells V.toArray 25 (0, 0))).ownsRow W.heap.size 25 1 (.slice (some ⟨W.heap.size, 0, none⟩) V.length V.length) V.length V := by simpa using h
    rw [ones_len]
    exact h2
  · refine ⟨by rw [ones_len]; show V.length = V.length * 1; omega, fun j p hp => ?_⟩
    have hj : j < V.length := by have := (List.getElem?_eq_some_iff.1 hp).1; rwa [ones_len] at this
    have hp2 : p = [V[j]] := by
      unfold ones at hp
      rw [List.getElem?_map, List.getElem?_eq_getElem hj] at hp
      exact (Option.some.inj hp).symm
    subst hp2
    refine ⟨?_, ?_, ?_⟩
    · show (V.drop (j * 1)).take 1 = [V[j]]
      rw [Nat.mul_one, List.drop_eq_getElem_cons hj]
      rfl
    · show ((V.drop (j * 1)).take 1).length = 1
      rw [Nat.mul_one, List.drop_eq_getElem_cons hj]
      rfl
    · intro u hu
      have : u ∈ V := by
        have h2 : u ∈ (V.drop (j * 1)).take 1 := hu
        exact List.mem_of_mem_drop (List.mem_of_mem_take h2)
      exact h1 u this
theorem info_sl : (Try.prog.info? 25).map (fun i => (i.zero, i.size, i.bytes)) = some (some (.slice none 0 0), 1, 24) := by kernel_rfl
/-- An element of a row of slices. -/
theorem row_at {W : World} {b : Nat} {ok : Nat → Prop} {A : Option Addr} {n c : Nat} {V : List Value} (h : (Kd.raw 1).R 25 W b ok (.slice A n c) (ones V)) (i : Nat) (hi : i < V.length) : ∃ ad, A = some ad ∧ W.cell? (ad.add i) = some V[i] := by
  obtain ⟨hn, _, hC⟩ := Kd.R_reads' h
  obtain ⟨ad, cs, e, _, hK, hc⟩ := Kd.C_get hC ([] : List Value) (i : Int) (by omega) (by rw [ones_len]; omega)
  refine ⟨ad, e, ?_⟩
  rw [Int.toNat_natCast] at hK hc
  have e1 : (ones V).getD i [] = [V[i]] := by
    unfold ones
    rw [List.getD_eq_getElem?_getD, List.getElem?_map, List.getElem?_eq_getElem hi]
    rfl
  rw [e1] at hK
  have e2 : cs = [V[i]] := hK.1
  have := hc 0 V[i] (by rw [e2]; rfl)
  rwa [show i * (Kd.raw 1).sz + 0 = i from by show i * 1 + 0 = i; omega] at this

/-- A round's facts: the rows' row, what its slices lead to, nothing of old turned. -/
structure Sp (w W : World) (B : Nat) (v : Value) (V : List Value) : Prop where
  r : (Kd.raw 1).R 25 W w.heap.size (fun _ => True) v (ones V)
  ws : ∀ u ∈ V, Wb W B w.heap.size u
  bel : Below B w W
  up : w.heap.size ≤ W.heap.size
  bB : B ≤ w.heap.size
theorem Sp.put {w W : World} {B g j t : Nat} {A : Option Addr} {n c : Nat} {V : List Value} {cs : Array Value} (h : Sp w W B (.slice A n c) V) (hb : W.heap[g]? = some (.cells cs t (0, 0))) (h1 : B ≤ g) (h2 : g < w.heap.size) (y : Int) : Sp w (W.setCell ⟨g, j, none⟩ (.int .i32 y)) B (.slice A n c) V :=
  ⟨Kd.R_mono (Kd.R_far (p := ⟨g, j, none⟩) (Kd.R_bound h.r) (fun k hk => show k ≠ g by have := hk.2.1; omega) _) (fun _ _ => trivial), fun u hu => (h.ws u hu).set g j y hb, h.bel.setCell (p := ⟨g, j, none⟩) h1 _, by rw [World.size_setCell]; exact h.up, h.bB⟩
theorem Sp.step {w W W' : World} {B : Nat} {v : Value} {V : List Value} (h : Sp w W B v V) (hb : Below W.heap.size W W') : Sp w W' B v V :=
  ⟨Kd.R_below h.r hb, fun u hu => (h.ws u hu).step (hb.mono h.up), h.bel.trans (hb.mono (Nat.le_trans h.bB h.up)), Nat.le_trans h.up hb.size, h.bB⟩
theorem Sp.grow {w W W' : World} {B : Nat} {v v' : Value} {V U : List Value} (h : Sp w W B v V) (HW : ∀ u ∈ U, Wb w B w.heap.size u) (hk : Below w.heap.size w W) (hr : (Kd.raw 1).R 25 W' w.heap.size (fun _ => True) v' (ones (V ++ U))) (hb : Below w.heap.size W W') : Sp w W' B v' (V ++ U) :=
  ⟨hr, fun u hu => (List.mem_append.mp hu).elim (fun hu => (h.ws u hu).step hb) (fun hu => ((HW u hu).step hk).step hb), h.bel.trans (hb.mono h.bB), Nat.le_trans h.up hb.size, h.bB⟩
theorem own_head {w : World} {b : Nat} {ok : Nat → Prop} {A : Option Addr} {n c : Nat} {l : List BK} (h : kB.R 37 w b ok (.slice A n c) l) (hp : 0 < l.length) : ∃ g, A = some ⟨g, 0, none⟩ := by
  obtain ⟨_, inner, ho, _⟩ := h
  obtain ⟨g, cap, e, _⟩ := ho.form hp
  injection e with e1 e2 e3
  exact ⟨g, e1⟩
theorem Wb.blk {W : World} {g j : Nat} {x : Int} (h : W.cell? ⟨g, j, none⟩ = some (.int .i32 x)) (hf : W.frozen? ⟨g, j, none⟩ = false) : True := trivial

set_option maxHeartbeats 16000000 in
set_option maxRecDepth 100000 in
theorem spoil_calls (g B : Nat) (r c : Int) (l2 : List Int) (l3 : List BK) (l4 : List Int) (r' c' : Int) (l7 : List Int) (A2 : Option Addr) (c2 : Nat) (A3 : Option Addr) (c3 : Nat) (A4 : Option Addr) (c4 : Nat) (A7 : Option Addr) (c7 : Nat) (at_ : Int) (w : World)
    (hg : w.heap[g]? = some (.cells #[.int .i64 r, .int .i64 c, .slice A2 l2.length c2, .slice A3 l3.length c3, .slice A4 l4.length c4, .int .i64 r', .int .i64 c', .slice A7 l7.length c7] 30 (0, 0))) (h2 : kI.R NumT w B (fun _ => True) (.slice A2 l2.length c2) l2) (h3 : kB.R 37 w B (fun _ => True) (.slice A3 l3.length c3) l3) (h4 : kI.R NumT w B (fun _ => True) (.slice A4 l4.length c4) l4) (h7 : kI.R NumT w B (fun _ => True) (.slice A7 l7.length c7) l7)
    (m3 : l3.length ≤ 5) (n2 : l2.length ≤ 1000000000000000) (n4 : l4.length ≤ 1000000000000000) (n7 : l7.length ≤ 1000000000000000) (n3 : ∀ b ∈ l3, lensB 0 0 b.f0 b.f1.f2 b.f2.f2 b.f3.f2 b.f4.f2 b.f5 b.f6.f2 b.f7.f2) (hB : B ≤ w.heap.size) (a1 : -9223372036854775808 ≤ at_) (a2 : at_ ≤ 9223372036854775807) :
    Calls Try.prog 18 #[.pointer (some ⟨g, 0, none⟩), .int .i64 at_] w fun e w' => (∃ v, e = .returned v) ∧ Below B w w' := by
  have HG := Aside0.mk hg
  have H3 := Aside0.mk h3
  have M3 := Aside0.mk m3
  have N3 := Aside0.mk n3
  have HB := Aside0.mk hB
  have H0 := Aside0.mk (show ∀ u ∈ [(Value.slice A2 l2.length c2), (Value.slice A4 l4.length c4), (Value.slice A7 l7.length c7)], Wb w B w.heap.size u from fun u hu => by
    simp only [List.mem_cons, List.not_mem_nil, or_false] at hu
    rcases hu with rfl | rfl | rfl
    · exact Wb.of h2 n2
    · exact Wb.of h4 n4
    · exact Wb.of h7 n7)
  clear hg h2 h3 h4 h7 m3 n2 n4 n7 n3 hB
  go_enter Try.func18, Try.ntmps18
  go_upto_region 0 with fail
  refine start_ (n := 16) (S := fun w' => w'.cell? ⟨g, 0, none⟩ = some (Value.int .i64 r) ∧ w'.cell? ⟨g, 1, none⟩ = some (Value.int .i64 c) ∧ w'.cell? ⟨g, 2, none⟩ = some (Value.slice A2 l2.length c2) ∧ w'.cell? ⟨g, 3, none⟩ = some (Value.slice A3 l3.length c3) ∧ w'.cell? ⟨g, 4, none⟩ = some (Value.slice A4 l4.length c4) ∧ w'.cell? ⟨g, 5, none⟩ = some (Value.int .i64 r') ∧ w'.cell? ⟨g, 6, none⟩ = some (Value.int .i64 c') ∧ w'.cell? ⟨g, 7, none⟩ = some (Value.slice A7 l7.length c7)) (ds := []) #[false, false, false, false, false, false, false, false, false, false, false, false, false, false, false, false] (by kernel_rfl) rfl rfl ((SM8 (blk_drew HG.out))) (fun hHeld => ?_)
  refine pure_ (i := 0) (N := some 10) (v := ?_) (a' := ?_) #[true, false, false, false, false, false, false, false, false, false, false, false, false, false, false, false] rfl rfl (by kernel_rfl) (fun _ _ _ h => h) (Or.inl ⟨by rfl, ?_⟩) ?_ ?_
  rotate_left
  · intro w'
    go_simp
    with_reducible rfl
  rotate_left
  · simp only [Act.put, List.setIfInBounds_toArray, List.set_cons_zero, List.set_cons_succ, i64_w, i32_w]
    rfl
  refine pure_ (i := 1) (N := some 11) (v := ?_) (a' := ?_) #[true, true, false, false, false, false, false, false, false, false, false, false, false, false, false, false] rfl rfl (by kernel_rfl) (fun _ _ _ h => h) (Or.inl ⟨by rfl, ?_⟩) ?_ ?_
  rotate_left
  · intro w'
    go_simp
    with_reducible rfl
  rotate_left
  · simp only [Act.put, List.setIfInBounds_toArray, List.set_cons_zero, List.set_cons_succ, i64_w, i32_w]
    rfl
  refine pure_ (i := 2) (N := some 12) (v := ?_) (a' := ?_) #[true, true, true, false, false, false, false, false, false, false, false, false, false, false, false, false] rfl rfl (by kernel_rfl) (fun _ _ _ h => h) (Or.inl ⟨by rfl, ?_⟩) ?_ ?_
  rotate_left
  · intro w'
    go_simp
    with_reducible rfl
  rotate_left
  · simp only [Act.put, List.setIfInBounds_toArray, List.set_cons_zero, List.set_cons_succ, i64_w, i32_w]
    rfl
  refine pure_ (i := 3) (N := some 13) (v := ?_) (a' := ?_) #[true, true, true, true, false, false, false, false, false, false, false, false, false, false, false, false] rfl rfl (by kernel_rfl) (fun _ _ _ h => h) (Or.inl ⟨by rfl, ?_⟩) ?_ ?_
  rotate_left
  · intro w'
    go_simp
    with_reducible rfl
  rotate_left
  · simp only [Act.put, List.setIfInBounds_toArray, List.set_cons_zero, List.set_cons_succ, i64_w, i32_w]
    rfl
  refine pure_ (i := 5) (N := some 15) (v := ?_) (a' := ?_) #[true, true, true, true, false, true, false, false, false, false, false, false, false, false, false, false] rfl rfl (by kernel_rfl) (fun _ _ _ h => h) (Or.inl ⟨by rfl, ?_⟩) ?_ ?_
  rotate_left
  · intro w'
    go_simp
    with_reducible rfl
  rotate_left
  · simp only [Act.put, List.setIfInBounds_toArray, List.set_cons_zero, List.set_cons_succ, i64_w, i32_w]
    rfl
  refine pure_ (i := 6) (N := some 16) (v := ?_) (a' := ?_) #[true, true, true, true, false, true, true, false, false, false, false, false, false, false, false, false] rfl rfl (by kernel_rfl) (fun _ _ _ h => h) (Or.inl ⟨by rfl, ?_⟩) ?_ ?_
  rotate_left
  · intro w'
    go_simp
    with_reducible rfl
  rotate_left
  · simp only [Act.put, List.setIfInBounds_toArray, List.set_cons_zero, List.set_cons_succ, i64_w, i32_w]
    rfl
  refine pure_ (i := 7) (N := some 17) (v := ?_) (a' := ?_) #[true, true, true, true, false, true, true, true, false, false, false, false, false, false, false, false] rfl rfl (by kernel_rfl) (fun _ _ _ h => h) (Or.inl ⟨by rfl, ?_⟩) ?_ ?_
  rotate_left
  · intro w'
    go_simp
    with_reducible rfl
  rotate_left
  · simp only [Act.put, List.setIfInBounds_toArray, List.set_cons_zero, List.set_cons_succ, i64_w, i32_w]
    rfl
  refine pure_ (i := 9) (N := some 19) (v := ?_) (a' := ?_) #[true, true, true, true, false, true, true, true, false, true, false, false, false, false, false, false] rfl rfl (by kernel_rfl) (fun _ _ _ h => h) (Or.inl ⟨by rfl, ?_⟩) ?_ ?_
  rotate_left
  · intro w'
    go_simp
    with_reducible rfl
  rotate_left
  · simp only [Act.put, List.setIfInBounds_toArray, List.set_cons_zero, List.set_cons_succ, i64_w, i32_w]
    rfl
  refine pure_ (i := 10) (N := some 20) (v := ?_) (a' := ?_) #[true, true, true, true, false, true, true, true, false, true, true, false, false, false, false, false] rfl rfl (by kernel_rfl) (fun _ _ _ h => h) (Or.inl ⟨by rfl, ?_⟩) ?_ ?_
  rotate_left
  · intro w'
    go_simp
    with_reducible rfl
  rotate_left
  · simp only [Act.put, List.setIfInBounds_toArray, List.set_cons_zero, List.set_cons_succ, i64_w, i32_w]
    rfl
  refine pure_ (i := 11) (N := some 21) (v := ?_) (a' := ?_) #[true, true, true, true, false, true, true, true, false, true, true, true, false, false, false, false] rfl rfl (by kernel_rfl) (fun _ _ _ h => h) (Or.inl ⟨by rfl, ?_⟩) ?_ ?_
  rotate_left
  · intro w'
    go_simp
    with_reducible rfl
  rotate_left
  · simp only [Act.put, List.setIfInBounds_toArray, List.set_cons_zero, List.set_cons_succ, i64_w, i32_w]
    rfl
  refine pure_ (i := 12) (N := some 22) (v := ?_) (a' := ?_) #[true, true, true, true, false, true, true, true, false, true, true, true, true, false, false, false] rfl rfl (by kernel_rfl) (fun _ _ _ h => h) (Or.inl ⟨by rfl, ?_⟩) ?_ ?_
  rotate_left
  · intro w'
    go_simp
    with_reducible rfl
  rotate_left
  · simp only [Act.put, List.setIfInBounds_toArray, List.set_cons_zero, List.set_cons_succ, i64_w, i32_w]
    rfl
  refine take_ (i := 4) (N := some 14) (v := ?_) (a' := ?_) #[true, true, true, true, true, true, true, true, false, true, true, true, true, false, false, false] rfl rfl (by kernel_rfl) (fun _ _ _ h => h) (Or.inl ⟨by rfl, ?_⟩) hHeld ?_ ?_
  rotate_left
  · rintro w' ⟨s0, s1, s2, s3, s4, s5, s6, s7⟩
    go_simp
    with_reducible rfl
  rotate_left
  · simp only [Act.put, List.setIfInBounds_toArray, List.set_cons_zero, List.set_cons_succ, i64_w, i32_w]
    rfl
  refine take_ (i := 8) (N := some 18) (v := ?_) (a' := ?_) #[true, true, true, true, true, true, true, true, true, true, true, true, true, false, false, false] rfl rfl (by kernel_rfl) (fun _ _ _ h => h) (Or.inl ⟨by rfl, ?_⟩) hHeld ?_ ?_
  rotate_left
  · rintro w' ⟨s0, s1, s2, s3, s4, s5, s6, s7⟩
    go_simp
    with_reducible rfl
  rotate_left
  · simp only [Act.put, List.setIfInBounds_toArray, List.set_cons_zero, List.set_cons_succ, i64_w, i32_w]
    rfl
  refine take_ (i := 13) (N := some 23) (v := ?_) (a' := ?_) #[true, true, true, true, true, true, true, true, true, true, true, true, true, true, false, false] rfl rfl (by kernel_rfl) (fun _ _ _ h => h) (Or.inl ⟨by rfl, ?_⟩) hHeld ?_ ?_
  rotate_left
  · rintro w' ⟨s0, s1, s2, s3, s4, s5, s6, s7⟩
    go_simp
    with_reducible rfl
  rotate_left
  · simp only [Act.put, List.setIfInBounds_toArray, List.set_cons_zero, List.set_cons_succ, i64_w, i32_w]
    rfl
  refine one_ (i := 14) (N := some 24) #[true, true, true, true, true, true, true, true, true, true, true, true, true, true, true, false] rfl rfl (by kernel_rfl) (by decide) (fun K hK => ?_)
  refine value_ (w1 := ?_) (v := ?_) (by rfl) rfl ?_ ?_
  rotate_left 2
  · go_simp
    constructor
    · rfl
    · rfl
  refine hK.out _ _ ((SM8 (blk_below (blk_drew HG.out) (below_alloc (Below.refl _ _) (.cells [(Value.slice A2 l2.length c2), (Value.slice A4 l4.length c4), (Value.slice A7 l7.length c7)].toArray 25 (0, 0)))))) (fun hHeld => ?_)
  clear hK K
  refine norm_ (a' := ?_) ?_ ?_
  rotate_left
  · show Act.put _ (some 24) _ = _
    simp only [Act.put, List.setIfInBounds_toArray, List.set_cons_zero, List.set_cons_succ, i64_w, i32_w]
    rfl
  refine pure_ (i := 15) (N := some 4) (v := ?_) (a' := ?_) #[true, true, true, true, true, true, true, true, true, true, true, true, true, true, true, true] rfl rfl (by kernel_rfl) (fun _ _ _ h => h) (Or.inl ⟨by rfl, ?_⟩) ?_ ?_
  rotate_left
  · intro w'
    go_simp
    with_reducible rfl
  rotate_left
  · simp only [Act.put, List.setIfInBounds_toArray, List.set_cons_zero, List.set_cons_succ, i64_w, i32_w]
    rfl
  refine done_ (by kernel_rfl) ?_
  have B1 := (below_alloc (Below.refl w.heap.size w) (.cells [(Value.slice A2 l2.length c2), (Value.slice A4 l4.length c4), (Value.slice A7 l7.length c7)].toArray 25 (0, 0))).drew
  have SP := Aside0.mk (show Sp w (w.alloc (.cells [(Value.slice A2 l2.length c2), (Value.slice A4 l4.length c4), (Value.slice A7 l7.length c7)].toArray 25 (0, 0))).drew B (.slice (some ⟨w.heap.size, 0, none⟩) 3 3) [(Value.slice A2 l2.length c2), (Value.slice A4 l4.length c4), (Value.slice A7 l7.length c7)] from ⟨Kd.R_drew (new_rows w [(Value.slice A2 l2.length c2), (Value.slice A4 l4.length c4), (Value.slice A7 l7.length c7)] (by simp [Value.oneCell']) (by simp)), fun u hu => (H0.out u hu).step B1, B1.mono HB.out, B1.size, HB.out⟩)
  have KB := Aside0.mk B1
  have HG1 := Aside0.mk (blk_below HG.out B1)
  clear B1
  generalize (w.alloc (.cells [(Value.slice A2 l2.length c2), (Value.slice A4 l4.length c4), (Value.slice A7 l7.length c7)].toArray 25 (0, 0))).drew = w1 at SP KB HG1 ⊢
  have y3 := blk_cell HG1.out 3
  simp at y3
  go_wp2_with fail
  clear y3
  go_loopg [30, 4] l3.length (fun kq v30 v4 W => ∃ (i : Nat) (V : List Value), v30 = .int .i64 (i : Int) ∧ Aside0 (i + kq = l3.length ∧ V.length ≤ 3 + 8 * i) ∧ Aside0 (Sp w W B v4 V) ∧ Aside0 (Below w.heap.size w W))
  case atStart => exact ⟨0, [(Value.slice A2 l2.length c2), (Value.slice A4 l4.length c4), (Value.slice A7 l7.length c7)], rfl, ⟨Nat.zero_add _, by simp⟩, SP, KB⟩
  case round =>
    clear SP KB HG1
    obtain ⟨i, V, rfl, HI, SP, KB⟩ := hrel
    have hi := HI.out
    have hm := M3.out
    obtain ⟨AR, cR, rfl⟩ := Kd.R_slice SP.out.r
    cases gk with
    | succ q =>
      have b1 : decide (i < l3.length) = true := decide_eq_true (by omega)
      have p1 : 0 ≤ (i : Int) := by omega
      have q1 : (i : Int) < (l3.length : Int) := by omega
      have i2 : (i : Int) + 1 ≤ 1000 := by omega
      obtain ⟨gR, hA3⟩ := own_head H3.out (by omega)
      subst hA3
      obtain ⟨csx, hc1, hMx, hcx, hfx⟩ := Kd.R_elem H3.out z37 (i : Int) (by omega) (by omega)
      have hN3 := N3.out (rd_T37 l3 (i : Int)) (by unfold rd_T37; rw [Int.toNat_natCast, List.getD_eq_getElem?_getD, List.getElem?_eq_getElem (by omega)]; exact List.getElem_mem _)
      have hMx2 : kB.M w B (fun k => True ∧ k ≠ gR) (rd_T37 l3 (i : Int)) csx := hMx
      obtain ⟨X, hX⟩ : ∃ X, rd_T37 l3 (i : Int) = X := ⟨_, rfl⟩
      rw [hX] at hMx2 hN3
      obtain ⟨u0, u1, u2, u3, u4, u5, u6, u7, rfl, r0, r1, r2, r3, r4, r5, r6, r7⟩ := k37_openM hMx2
      obtain ⟨k0, k1, k2, k3, k4, k5, k6, k7⟩ := hN3
      have W8 : ∀ u ∈ [u0, u1, u2, u3, u4, u5, u6, u7], Wb w B w.heap.size u := fun u hu => by
        simp only [List.mem_cons, List.not_mem_nil, or_false] at hu
        rcases hu with rfl | rfl | rfl | rfl | rfl | rfl | rfl | rfl
        · exact Wb.of r0 (by omega)
        · exact Wb.of r1 (by omega)
        · exact Wb.of r2 (by omega)
        · exact Wb.of r3 (by omega)
        · exact Wb.of r4 (by omega)
        · exact Wb.of r5 (by omega)
        · exact Wb.of r6 (by omega)
        · exact Wb.of r7 (by omega)
      obtain ⟨x0, c_0, rfl⟩ := Kd.R_slice r0
      obtain ⟨x1, c_1, rfl⟩ := Kd.R_slice r1
      obtain ⟨x2, c_2, rfl⟩ := Kd.R_slice r2
      obtain ⟨x3, c_3, rfl⟩ := Kd.R_slice r3
      obtain ⟨x4, c_4, rfl⟩ := Kd.R_slice r4
      obtain ⟨x5, c_5, rfl⟩ := Kd.R_slice r5
      obtain ⟨x6, c_6, rfl⟩ := Kd.R_slice r6
      obtain ⟨x7, c_7, rfl⟩ := Kd.R_slice r7
      have HW8 := Aside0.mk W8
      have CX := Aside0.mk (show ∀ j u, ([(Value.slice x0 X.f0.length c_0), (Value.int .i64 X.f1.f0), (Value.int .i64 X.f1.f1), (Value.slice x1 X.f1.f2.length c_1), (Value.int .i64 X.f2.f0), (Value.int .i64 X.f2.f1), (Value.slice x2 X.f2.f2.length c_2), (Value.int .i64 X.f3.f0), (Value.int .i64 X.f3.f1), (Value.slice x3 X.f3.f2.length c_3), (Value.int .i64 X.f4.f0), (Value.int .i64 X.f4.f1), (Value.slice x4 X.f4.f2.length c_4), (Value.slice x5 X.f5.length c_5), (Value.int .i64 X.f6.f0), (Value.int .i64 X.f6.f1), (Value.slice x6 X.f6.f2.length c_6), (Value.int .i64 X.f7.f0), (Value.int .i64 X.f7.f1), (Value.slice x7 X.f7.f2.length c_7)] : List Value)[j]? = some u → wr.cell? ((⟨gR, i * 20, none⟩ : Addr).add j) = some u from fun j u hj => by
        have h1 := hcx j u hj
        have h2 := (KB.out.cell (World.block_lt_of_cell? w _ h1)).trans h1
        rw [Int.toNat_natCast] at h2
        rw [show (⟨gR, i * 20, none⟩ : Addr).add j = ⟨gR, i * 20 + j, none⟩ from by unfold Addr.add; split <;> simp_all]
        exact h2)
      clear hX hMx hMx2 hcx hfx hc1 W8 r0 r1 r2 r3 r4 r5 r6 r7 k0 k1 k2 k3 k4 k5 k6 k7 hm
      have LV := Aside0.mk hi.2
      clear hi
      go_wp2_with (first
        | ((with_reducible refine gate_dst (N := 33) rfl ?_); go_loud (refine load_any_event [(Value.slice x0 X.f0.length c_0), (Value.int .i64 X.f1.f0), (Value.int .i64 X.f1.f1), (Value.slice x1 X.f1.f2.length c_1), (Value.int .i64 X.f2.f0), (Value.int .i64 X.f2.f1), (Value.slice x2 X.f2.f2.length c_2), (Value.int .i64 X.f3.f0), (Value.int .i64 X.f3.f1), (Value.slice x3 X.f3.f2.length c_3), (Value.int .i64 X.f4.f0), (Value.int .i64 X.f4.f1), (Value.slice x4 X.f4.f2.length c_4), (Value.slice x5 X.f5.length c_5), (Value.int .i64 X.f6.f0), (Value.int .i64 X.f6.f1), (Value.slice x6 X.f6.f2.length c_6), (Value.int .i64 X.f7.f0), (Value.int .i64 X.f7.f1), (Value.slice x7 X.f7.f2.length c_7)] rfl rfl rfl rfl CX.out Try.underlying37 rfl (by kernel_rfl) ?_))
        | ((with_reducible refine gate_store (t := 37) (p := 6) rfl ?_); go_loud (refine store_new_event [(Value.slice x0 X.f0.length c_0), (Value.int .i64 X.f1.f0), (Value.int .i64 X.f1.f1), (Value.slice x1 X.f1.f2.length c_1), (Value.int .i64 X.f2.f0), (Value.int .i64 X.f2.f1), (Value.slice x2 X.f2.f2.length c_2), (Value.int .i64 X.f3.f0), (Value.int .i64 X.f3.f1), (Value.slice x3 X.f3.f2.length c_3), (Value.int .i64 X.f4.f0), (Value.int .i64 X.f4.f1), (Value.slice x4 X.f4.f2.length c_4), (Value.slice x5 X.f5.length c_5), (Value.int .i64 X.f6.f0), (Value.int .i64 X.f6.f1), (Value.slice x6 X.f6.f2.length c_6), (Value.int .i64 X.f7.f0), (Value.int .i64 X.f7.f1), (Value.slice x7 X.f7.f2.length c_7)].toArray rfl rfl rfl rfl rfl (by kernel_rfl) rfl (by simp [Value.oneCell']) ?_); have B5 := below_alloc (Below.refl wr.heap.size wr) (.cells [(Value.slice x0 X.f0.length c_0), (Value.int .i64 X.f1.f0), (Value.int .i64 X.f1.f1), (Value.slice x1 X.f1.f2.length c_1), (Value.int .i64 X.f2.f0), (Value.int .i64 X.f2.f1), (Value.slice x2 X.f2.f2.length c_2), (Value.int .i64 X.f3.f0), (Value.int .i64 X.f3.f1), (Value.slice x3 X.f3.f2.length c_3), (Value.int .i64 X.f4.f0), (Value.int .i64 X.f4.f1), (Value.slice x4 X.f4.f2.length c_4), (Value.slice x5 X.f5.length c_5), (Value.int .i64 X.f6.f0), (Value.int .i64 X.f6.f1), (Value.slice x6 X.f6.f2.length c_6), (Value.int .i64 X.f7.f0), (Value.int .i64 X.f7.f1), (Value.slice x7 X.f7.f2.length c_7)].toArray 37 (0, 0)); have KX := Aside0.mk (blk_new wr (.cells [(Value.slice x0 X.f0.length c_0), (Value.int .i64 X.f1.f0), (Value.int .i64 X.f1.f1), (Value.slice x1 X.f1.f2.length c_1), (Value.int .i64 X.f2.f0), (Value.int .i64 X.f2.f1), (Value.slice x2 X.f2.f2.length c_2), (Value.int .i64 X.f3.f0), (Value.int .i64 X.f3.f1), (Value.slice x3 X.f3.f2.length c_3), (Value.int .i64 X.f4.f0), (Value.int .i64 X.f4.f1), (Value.slice x4 X.f4.f2.length c_4), (Value.slice x5 X.f5.length c_5), (Value.int .i64 X.f6.f0), (Value.int .i64 X.f6.f1), (Value.slice x6 X.f6.f2.length c_6), (Value.int .i64 X.f7.f0), (Value.int .i64 X.f7.f1), (Value.slice x7 X.f7.f2.length c_7)].toArray 37 (0, 0))); have SP5 := Aside0.mk (SP.out.step B5); have KB5 := Aside0.mk (KB.out.trans (B5.mono KB.out.size)); clear B5; generalize wr.alloc (.cells [(Value.slice x0 X.f0.length c_0), (Value.int .i64 X.f1.f0), (Value.int .i64 X.f1.f1), (Value.slice x1 X.f1.f2.length c_1), (Value.int .i64 X.f2.f0), (Value.int .i64 X.f2.f1), (Value.slice x2 X.f2.f2.length c_2), (Value.int .i64 X.f3.f0), (Value.int .i64 X.f3.f1), (Value.slice x3 X.f3.f2.length c_3), (Value.int .i64 X.f4.f0), (Value.int .i64 X.f4.f1), (Value.slice x4 X.f4.f2.length c_4), (Value.slice x5 X.f5.length c_5), (Value.int .i64 X.f6.f0), (Value.int .i64 X.f6.f1), (Value.slice x6 X.f6.f2.length c_6), (Value.int .i64 X.f7.f0), (Value.int .i64 X.f7.f1), (Value.slice x7 X.f7.f2.length c_7)].toArray 37 (0, 0)) = w5 at KX SP5 KB5 ⊢; have k0 := blk_cell KX.out 0; have k1 := blk_cell KX.out 1; have k2 := blk_cell KX.out 2; have k3 := blk_cell KX.out 3; have k4 := blk_cell KX.out 4; have k5 := blk_cell KX.out 5; have k6 := blk_cell KX.out 6; have k7 := blk_cell KX.out 7; have k8 := blk_cell KX.out 8; have k9 := blk_cell KX.out 9; have k10 := blk_cell KX.out 10; have k11 := blk_cell KX.out 11; have k12 := blk_cell KX.out 12; have k13 := blk_cell KX.out 13; have k14 := blk_cell KX.out 14; have k15 := blk_cell KX.out 15; have k16 := blk_cell KX.out 16; have k17 := blk_cell KX.out 17; have k18 := blk_cell KX.out 18; have k19 := blk_cell KX.out 19; simp at k0 k1 k2 k3 k4 k5 k6 k7 k8 k9 k10 k11 k12 k13 k14 k15 k16 k17 k18 k19)
        | ((with_reducible refine gate_builtin (b := .append) (xs := #[.tmp 34, .tmp 57]) rfl ?_); go_loud ((refine Kd.R_append_rows (Kd.raw 1) (Rr := fun x cs => cs = x ∧ cs.length = 1 ∧ ∀ u ∈ cs, u.oneCell' = true) (w0 := w5.alloc (.cells [(Value.slice x0 X.f0.length c_0), (Value.slice x1 X.f1.f2.length c_1), (Value.slice x2 X.f2.f2.length c_2), (Value.slice x3 X.f3.f2.length c_3), (Value.slice x4 X.f4.f2.length c_4), (Value.slice x5 X.f5.length c_5), (Value.slice x6 X.f6.f2.length c_6), (Value.slice x7 X.f7.f2.length c_7)].toArray 25 (0, 0))) w.heap.size rfl (.tmp 34) (.tmp 57) 79 25 (.slice none 0 0) 24 rfl Try.underlying79 info_sl rfl (by decide) (by omega) (.slice AR (ones V).length cR) (ones V) (ones [(Value.slice x0 X.f0.length c_0), (Value.slice x1 X.f1.f2.length c_1), (Value.slice x2 X.f2.f2.length c_2), (Value.slice x3 X.f3.f2.length c_3), (Value.slice x4 X.f4.f2.length c_4), (Value.slice x5 X.f5.length c_5), (Value.slice x6 X.f6.f2.length c_6), (Value.slice x7 X.f7.f2.length c_7)]) (some ⟨w5.heap.size, 0, none⟩) 8 8 (fun _ => True) (fun _ => False) rfl (by first | rfl | (simp [Act.eval])) ?aO ?aR ?aK (fun _ h => h.elim) (fun _ _ => trivial) (Below.refl _ _) ?aS ?aL ?_); (case aO => exact (SP5.out.step (below_alloc (Below.refl _ _) _)).r); (case aR => exact (Kd.R_reads' (new_rows w5 [(Value.slice x0 X.f0.length c_0), (Value.slice x1 X.f1.f2.length c_1), (Value.slice x2 X.f2.f2.length c_2), (Value.slice x3 X.f3.f2.length c_3), (Value.slice x4 X.f4.f2.length c_4), (Value.slice x5 X.f5.length c_5), (Value.slice x6 X.f6.f2.length c_6), (Value.slice x7 X.f7.f2.length c_7)] (by simp [Value.oneCell']) (by simp))).2.2); (case aK => exact fun x cs h => h); (case aS => exact (SP5.out.step (below_alloc (Below.refl _ _) _)).up); (case aL => have e1 := LV.out; have e2 := HI.out.1; have e3 := M3.out; rw [ones_len]; omega); intro v9 w9 hN hB hg2 hat; rw [← ones_app] at hN; have SP9 := Aside0.mk ((SP5.out.step (below_alloc (Below.refl _ _) (.cells [(Value.slice x0 X.f0.length c_0), (Value.slice x1 X.f1.f2.length c_1), (Value.slice x2 X.f2.f2.length c_2), (Value.slice x3 X.f3.f2.length c_3), (Value.slice x4 X.f4.f2.length c_4), (Value.slice x5 X.f5.length c_5), (Value.slice x6 X.f6.f2.length c_6), (Value.slice x7 X.f7.f2.length c_7)].toArray 25 (0, 0)))).grow (HW := HW8.out) (KB5.out.trans ((below_alloc (Below.refl w5.heap.size w5) (.cells [(Value.slice x0 X.f0.length c_0), (Value.slice x1 X.f1.f2.length c_1), (Value.slice x2 X.f2.f2.length c_2), (Value.slice x3 X.f3.f2.length c_3), (Value.slice x4 X.f4.f2.length c_4), (Value.slice x5 X.f5.length c_5), (Value.slice x6 X.f6.f2.length c_6), (Value.slice x7 X.f7.f2.length c_7)].toArray 25 (0, 0))).mono KB5.out.size)) hN hB); have KB9 := Aside0.mk (KB5.out.trans (((below_alloc (Below.refl w5.heap.size w5) (.cells [(Value.slice x0 X.f0.length c_0), (Value.slice x1 X.f1.f2.length c_1), (Value.slice x2 X.f2.f2.length c_2), (Value.slice x3 X.f3.f2.length c_3), (Value.slice x4 X.f4.f2.length c_4), (Value.slice x5 X.f5.length c_5), (Value.slice x6 X.f6.f2.length c_6), (Value.slice x7 X.f7.f2.length c_7)].toArray 25 (0, 0))).mono KB5.out.size).trans hB)); clear hN hB hg2 hat)))
      go_roundg q
      case measure => omega
      case rel => exact ⟨i + 1, V ++ [(Value.slice x0 X.f0.length c_0), (Value.slice x1 X.f1.f2.length c_1), (Value.slice x2 X.f2.f2.length c_2), (Value.slice x3 X.f3.f2.length c_3), (Value.slice x4 X.f4.f2.length c_4), (Value.slice x5 X.f5.length c_5), (Value.slice x6 X.f6.f2.length c_6), (Value.slice x7 X.f7.f2.length c_7)], by go_num, ⟨by have := HI.out.1; omega, by have := LV.out; rw [List.length_append]; simp; omega⟩, SP9, KB9⟩
    | zero =>
      have b1 : decide (i < l3.length) = false := decide_eq_false (by omega)
      have LV := Aside0.mk (show V.length ≤ 43 by omega)
      have SL := Aside0.mk SP.out
      obtain ⟨nV, hnV⟩ : ∃ n, (ones V).length = n := ⟨_, rfl⟩
      have HV := Aside0.mk (show nV = V.length by rw [← hnV, ones_len])
      rw [hnV] at SL ⊢
      clear hi hm SP KB hnV
      go_wp2
      go_loopg [62] nV (fun kq v62 W => ∃ k : Nat, v62 = .int .i64 (k : Int) ∧ Aside0 (k + kq = nV) ∧ Aside0 (Sp w W B (.slice AR nV cR) V))
      case atStart => exact ⟨0, rfl, ⟨Nat.zero_add _⟩, SL⟩
      case round =>
        clear SL
        obtain ⟨k, rfl, HK, SL⟩ := hrel
        have hk := HK.out
        have hv := HV.out
        have lv := LV.out
        cases gk with
        | succ q =>
          have b2 : decide (k < nV) = true := decide_eq_true (by omega)
          have p1 : 0 ≤ (k : Int) := by omega
          have q1 : (k : Int) < (nV : Int) := by omega
          have i2 : (k : Int) + 1 ≤ 1000 := by omega
          obtain ⟨ad, e1, hx⟩ := row_at SL.out.r k (by omega)
          subst e1
          have hmem : V[k]'(by omega) ∈ V := List.getElem_mem _
          obtain ⟨u, hu⟩ : ∃ u, V[k]'(by omega) = u := ⟨_, rfl⟩
          rw [hu] at hx hmem
          obtain ⟨A, m, cc, e2, hm, _⟩ := SL.out.ws u hmem
          subst e2
          have HM := Aside0.mk (And.intro hmem hm)
          clear hk hv lv hmem hm hu
          go_wp2
          go_loopg [68] m (fun kq v68 W => ∃ j : Nat, v68 = .int .i64 (j : Int) ∧ Aside0 (j + kq = m) ∧ Aside0 (Sp w W B (.slice (some ad) nV cR) V))
          case atStart => exact ⟨0, rfl, ⟨Nat.zero_add _⟩, SL⟩
          case round =>
            clear SL hx
            obtain ⟨j, rfl, HJ, SL⟩ := hrel
            have hj := HJ.out
            have hm := HM.out.2
            cases gk with
            | succ q' =>
              have b3 : decide (j < m) = true := decide_eq_true (by omega)
              have p2 : 0 ≤ (j : Int) := by omega
              have q2 : (j : Int) < (m : Int) := by omega
              have i3 : (j : Int) + 1 ≤ 1000000000000000 := by omega
              obtain ⟨A', m', c', e3, hm', hW⟩ := SL.out.ws _ HM.out.1
              injection e3 with f1 f2 f3
              subst f1 f2 f3
              obtain ⟨gU, e4, h1, h2, ⟨cs, t, hh⟩, hc⟩ := hW (by omega)
              subst e4
              obtain ⟨⟨x, hx⟩, hf⟩ := hc j (by omega)
              have HU := Aside0.mk (And.intro hh (And.intro h1 h2))
              clear hj hm hm' hW hc hh h1 h2
              go_wp2
              go_roundg q'
              case measure => omega
              case rel => exact ⟨j + 1, by go_num, ⟨by have := HJ.out; omega⟩, ⟨SL.out.put HU.out.1 HU.out.2.1 HU.out.2.2 _⟩⟩
            | zero =>
              have b3 : decide (j < m) = false := decide_eq_false (by omega)
              clear hj hm
              go_wp2
              go_roundg q
              case measure => omega
              case rel => exact ⟨k + 1, by go_num, ⟨by have := HK.out; omega⟩, SL⟩
        | zero =>
          have b2 : decide (k < nV) = false := decide_eq_false (by omega)
          clear hk hv lv
          go_wp2
          refine bodyPost_end (results_none rfl _ _ _) rfl ?_
          exact ⟨⟨_, rfl⟩, SL.out.bel⟩
end Go.Proofs.Ytdlhodbokkaghaa.GQ
