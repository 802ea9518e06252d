/- NetPlays, walked by hand. -/
import Derived.Test.YtmcdgachfkkpeaaODoesA
set_option linter.unusedVariables false
set_option linter.unusedSimpArgs false
namespace Go.Proofs.Ytmcdgachfkkpeaa.OPlays
open Go.RowKit Go.Proofs.YtmcdgachfkkpeaaW.PrintWords Go.Proofs.YtmcdgachfkkpeaaW.PrintLast Go.Proofs.YtmcdgachfkkpeaaW.PrintMore Go.Proofs.Ytmcdgachfkkpeaa.GQ Go.Proofs.Ytmcdgachfkkpeaa.ONet
/-- Each call's numbers are of their types. -/
def okA (x : AC) : Prop := (-9223372036854775808 ≤ x.f2 ∧ x.f2 ≤ 9223372036854775807) ∧ (0 ≤ x.f4 ∧ x.f4 < 4294967296)
open Classical in
/-- The law's answer within the row's bounds. -/
noncomputable def tillerlaw16_NetPlays.f (l : List AC) : Option Bool := if ∀ x ∈ l, okA x then some true else none
/-- What holds within a round: the net lies right ahead of the document's box, which holds B. -/
structure Pre (w W : World) (B : Array Value) (A : Option Addr) (c : Nat) (X : NX) (S T : Nat → Prop) : Prop where
  net : NetAt w.heap.size (ap w.heap.size T) W w.heap.size X
  ref : Ref S W A c X.way
  sub : ∀ k, S k → T k
  low : ∀ k, T k → k < W.heap.size
  inT : T (w.heap.size + 1)
  noS : ¬ S (w.heap.size + 1)
  box : W.heap[w.heap.size + 1]? = some (.cells B 47 (0, 0))
  bel : Below w.heap.size w W
  size : w.heap.size + 2 ≤ W.heap.size
abbrev St (w W : World) (A : Option Addr) (c : Nat) (X : NX) (S T : Nat → Prop) : Prop := Pre w W #[.slice A X.way.length c, .int .i64 X.lost] A c X S T
theorem Pre.step {w W W' : World} {B : Array Value} {A : Option Addr} {c : Nat} {X : NX} {S T : Nat → Prop} (h : Pre w W B A c X S T) (hb : Below W.heap.size W W') : Pre w W' B A c X S T :=
  ⟨h.net.step hb, h.ref.below hb, h.sub, fun k hk => Nat.lt_of_lt_of_le (h.low k hk) hb.size, h.inT, h.noS, blk_below h.box hb, h.bel.trans (hb.mono (by have := h.size; omega)), Nat.le_trans h.size hb.size⟩
/-- What is laid beside lies in T from now on. -/
theorem Pre.wide {w W W' : World} {B : Array Value} {A : Option Addr} {c : Nat} {X : NX} {S T : Nat → Prop} (h : Pre w W B A c X S T) (hb : Below W.heap.size W W') : Pre w W' B A c X S (grew T W W') :=
  ⟨h.net.beside_new hb, h.ref.below hb, fun k hk => .inl (h.sub k hk), fun k hk => hk.elim (fun hk => Nat.lt_of_lt_of_le (h.low k hk) hb.size) (fun hk => hk.2), .inl h.inT, h.noS, blk_below h.box hb, h.bel.trans (hb.mono (by have := h.size; omega)), Nat.le_trans h.size hb.size⟩
theorem Pre.put {w W : World} {B : Array Value} {A : Option Addr} {c : Nat} {X : NX} {S T : Nat → Prop} (h : Pre w W B A c X S T) (b j : Nat) (u : Value) (hT : T b) (hS : ¬ S b) (hb : w.heap.size + 1 < b) : Pre w (W.setCell ⟨b, j, none⟩ u) B A c X S T :=
  ⟨h.net.put b j u hT, h.ref.put b j u hS, h.sub, fun k hk => by simpa [World.setCell] using h.low k hk, h.inT, h.noS, blk_far (p := ⟨b, j, none⟩) h.box (show w.heap.size + 1 ≠ b by omega) u, h.bel.setCell (p := ⟨b, j, none⟩) (show w.heap.size ≤ b by omega) u, by simpa [World.setCell] using h.size⟩
/-- The box is written over. -/
theorem Pre.boxed {w W : World} {x y : Value} {A : Option Addr} {c : Nat} {X : NX} {S T : Nat → Prop} (h : Pre w W #[x, y] A c X S T) : St w ((W.setCell ⟨w.heap.size + 1, 0, none⟩ (.slice A X.way.length c)).setCell ⟨w.heap.size + 1, 1, none⟩ (.int .i64 X.lost)) A c X S T := by
  have k2 := blk_set (blk_set h.box 0 (.slice A X.way.length c)) 1 (.int .i64 X.lost)
  simp at k2
  exact ⟨(h.net.put _ 0 _ h.inT).put _ 1 _ h.inT, (h.ref.put _ 0 _ h.noS).put _ 1 _ h.noS, h.sub, fun k hk => by simpa [World.setCell] using h.low k hk, h.inT, h.noS, k2, (h.bel.setCell (show w.heap.size ≤ w.heap.size + 1 by omega) _).setCell (show w.heap.size ≤ w.heap.size + 1 by omega) _, by simpa [World.setCell] using h.size⟩
theorem St.start (w : World) : St w ((w.alloc (.cells #[.slice none 0 0, .int .i64 0] 25 (0, 0))).alloc (.cells #[.slice none 0 0, .int .i64 0] 47 (0, 0))) none 0 ⟨[], 0⟩ (fun _ => False) (fun k => k = w.heap.size + 1) := by
  have e1 : (w.alloc (.cells #[.slice none 0 0, .int .i64 0] 25 (0, 0))).heap.size = w.heap.size + 1 := World.size_alloc _ _
  have b1 : Below w.heap.size w (w.alloc (.cells #[.slice none 0 0, .int .i64 0] 25 (0, 0))) := below_alloc (Below.refl _ _) _
  refine ⟨(NetAt.zero w _ _ (Nat.le_refl _) ⟨Nat.le_refl _, by omega⟩).step (below_alloc (Below.refl _ _) _), ⟨Kd.V_nil _ _ _ _ _, fun k hk => hk.elim⟩, fun k hk => hk.elim, fun k hk => ?_, rfl, fun h => h, ?_, b1.alloc (by rw [e1]; omega) _, ?_⟩
  · rw [World.size_alloc, e1]; omega
  · have h := blk_new (w.alloc (.cells #[.slice none 0 0, .int .i64 0] 25 (0, 0))) (.cells #[.slice none 0 0, .int .i64 0] 47 (0, 0))
    rwa [e1] at h
  · rw [World.size_alloc, e1]; omega
abbrev ycells (A : Option Addr) (c : Nat) (Y : NX) : Obj := .cells #[.slice A Y.way.length c, .int .i64 Y.lost] 47 (0, 0)
theorem Pre.after {w W w1 : World} {B : Array Value} {A A1 : Option Addr} {c c1 : Nat} {X Y : NX} {S T S1 T1 : Nat → Prop} (h : Pre w W B A c X S T) (hN : NetAt w.heap.size (ap w.heap.size T1) w1 w.heap.size Y) (hR : Ref S1 w1 A1 c1 Y.way) (h1 : ∀ k, S1 k → S k ∨ W.heap.size ≤ k) (h2 : ∀ k, S1 k ∨ T k → T1 k) (h3 : ∀ k, T1 k → k < w1.heap.size) (hb : Below w.heap.size W w1) (hk : Kept W w1 (ap w.heap.size T)) : Pre w w1 B A1 c1 Y S1 T1 :=
  ⟨hN, hR, fun k hk => h2 k (.inl hk), h3, h2 _ (.inr h.inT), fun hh => (h1 _ hh).elim h.noS (fun hh => by have := h.size; omega), blk_kept h.box hk (fun hh => hh.2 h.inT), h.bel.trans hb, Nat.le_trans h.size hb.size⟩
/-- The zero box, laid ahead of the call. -/
abbrev zbox : Obj := .cells #[.slice none 0 0, .int .i64 0] 47 (0, 0)
theorem zbox_below (W : World) : Below W.heap.size W (W.alloc zbox).drew := (below_alloc (Below.refl _ _) _).drew
/-- The box that was laid ahead of the call, behind it. -/
theorem ahead {w W w1 : World} {B : Array Value} {A : Option Addr} {c : Nat} {X : NX} {S T S1 T1 : Nat → Prop} (h : Pre w W B A c X S T) (hk : Kept (W.alloc zbox).drew w1 (ap w.heap.size (grew T W (W.alloc zbox).drew))) (h1 : ∀ k, S1 k → S k ∨ (W.alloc zbox).drew.heap.size ≤ k) (h2 : ∀ k, S1 k ∨ grew T W (W.alloc zbox).drew k → T1 k) :
    w1.heap[W.heap.size]? = some zbox ∧ T1 W.heap.size ∧ ¬ S1 W.heap.size ∧ w.heap.size + 1 < W.heap.size := by
  have e : (W.alloc zbox).drew.heap.size = W.heap.size + 1 := World.size_alloc _ _
  have g : grew T W (W.alloc zbox).drew W.heap.size := .inr ⟨Nat.le_refl _, by omega⟩
  refine ⟨blk_kept (show (W.alloc zbox).drew.heap[W.heap.size]? = some zbox from blk_new W zbox) hk (fun hh => hh.2 g), h2 _ (.inr g), fun hh => (h1 _ hh).elim (fun hh => by have := h.low _ (h.sub _ hh); omega) (fun hh => by omega), by have := h.size; omega⟩
theorem does_to {base : Nat} {S T : Nat → Prop} {g : Nat} {X Y : NX} {A : Option Addr} {c : Nat} {a : AC} {w : World} (hN : NetAt base (ap base T) w g X) (hR : Ref S w A c X.way) (hST : ∀ k, S k → T k) (hT : ∀ k, T k → k < w.heap.size) (hb : base ≤ w.heap.size) (i : Nat) (hi : i ≤ 60) (hI : Inv i X) (ha : okA a) (hY : nDoes X a = Y) :
    Calls Try.prog 17 #[.pointer (some ⟨g, 0, none⟩), .agg #[.slice A X.way.length c, .int .i64 X.lost], .agg #[.int .i64 a.f0, .int .i64 a.f1, .int .i64 a.f2, .string a.f3, .int .u32 a.f4]] w (DPost base S T w g Y) := by
  subst hY
  exact does_any base S T g X A c a w hN hR hST hT hb i hi hI ha.1 ha.2
theorem box_read {w W : World} {A : Option Addr} {c : Nat} {X : NX} {S T : Nat → Prop} (hs : St w W A c X S T) : W.cell? ⟨w.heap.size + 1, 0, none⟩ = some (.slice A X.way.length c) ∧ W.cell? ⟨w.heap.size + 1, 1, none⟩ = some (.int .i64 X.lost) := by
  have a := blk_cell hs.box 0
  have b := blk_cell hs.box 1
  simp at a b
  exact ⟨a, b⟩
theorem way_read {w W : World} {A : Option Addr} {c : Nat} {X : NX} {S T : Nat → Prop} (hs : St w W A c X S T) {n : Nat} (h : n < X.way.length) : ∃ ad , A = some ad ∧ W.cell? (ad.add (n * 3)) = some (.int .i64 (pcl X.way n).f0) ∧ W.cell? ⟨(ad.add (n * 3)).block, (ad.add (n * 3)).off + 1, none⟩ = some (.string (pcl X.way n).f1) ∧ W.cell? ⟨(ad.add (n * 3)).block, (ad.add (n * 3)).off + 2, none⟩ = some (.bool (pcl X.way n).f2) := by
  obtain ⟨hc, hC⟩ := hs.ref.reads
  obtain ⟨ad, ea, h0, h1, h2⟩ := at_T53 hC (n : Int) (by omega) (by omega)
  rw [ref_at X.way n h, Int.toNat_natCast] at h0 h1 h2
  exact ⟨ad, ea, h0, h1, h2⟩
theorem len_q {w W : World} {A : Option Addr} {c : Nat} {X : NX} {S T : Nat → Prop} (h : St w W A c X S T) (n : Nat) : Calls Try.prog 10 #[.pointer (some ⟨w.heap.size, 0, none⟩)] (W.drewN n) fun e w' => e = .returned (.int .i64 (X.way.length : Int)) ∧ w' = W.drewN n :=
  (len_calls _ _ _ X _ (h.net.step (pw_below_drewN (Below.refl _ _) n))).mono fun e w' hh => ⟨hh.1, hh.2.symm⟩
theorem lost_q {w W : World} {A : Option Addr} {c : Nat} {X : NX} {S T : Nat → Prop} (h : St w W A c X S T) (n : Nat) : Calls Try.prog 11 #[.pointer (some ⟨w.heap.size, 0, none⟩)] (W.drewN n) fun e w' => e = .returned (.int .i64 X.lost) ∧ w' = W.drewN n :=
  (lost_calls _ _ _ X _ (h.net.step (pw_below_drewN (Below.refl _ _) n))).mono fun e w' hh => ⟨hh.1, hh.2.symm⟩
set_option maxHeartbeats 16000000 in
set_option maxRecDepth 100000 in
theorem tillerlaw16_NetPlays.calls (A0 : Option Addr) (c0 : Nat) (l0 : List AC) (r : Bool) (w : World) (hr0 : Kd.C kA w A0 l0.length l0) (hc0 : l0.length ≤ c0) (hr_ : Aside0 (r = true)) (h : tillerlaw16_NetPlays.f l0 = some r) : Calls Try.prog 7 #[.slice A0 l0.length c0] w fun e w' => e = .returned (.bool r) ∧ Below w.heap.size w w' := by
  obtain ⟨r_⟩ := hr_
  subst r_
  have OK := Aside0.mk (show ∀ x ∈ l0, okA x by
    intro x hx
    unfold tillerlaw16_NetPlays.f at h
    by_cases e : ∀ x ∈ l0, okA x
    · exact e x hx
    · rw [if_neg e] at h; cases h)
  have R0 := Aside0.mk hr0
  have S0 := Aside0.mk (St.start w)
  clear hr0 h
  go_enter Try.func7, Try.ntmps7
  go_wp2_with (first
    | (go_at_call 8; refine (awake_calls _).mono ?_; rintro e w1 ⟨rfl, hb⟩; have S1 := Aside0.mk (S0.out.step hb); clear hb))
  obtain ⟨M, hM⟩ : ∃ M : Nat, M = min l0.length 60 := ⟨_, rfl⟩
  have HM := Aside0.mk hM
  have I0 := Aside0.mk (show Inv 0 ⟨[], 0⟩ from ⟨by decide, by decide, fun p hp => by cases hp⟩)
  clear hM S0
  go_loopg [5] M (fun kq v5 w' => ∃ (i : Nat) (A : Option Addr) (c : Nat) (X : NX) (S T : Nat → Prop), v5 = .int .i64 (i : Int) ∧ Aside0 (i + kq = M) ∧ Aside0 (Inv i X) ∧ Aside0 (St w w' A c X S T))
  case atStart => exact ⟨0, _, _, _, _, _, rfl, ⟨Nat.zero_add _⟩, I0, S1⟩
  case round =>
    clear S1 I0
    obtain ⟨i, A, c, X, S, T, rfl, HI, HX, HS⟩ := hrel
    have hi := HI.out
    have hm := HM.out
    cases gk with
    | succ k =>
      have b1 : decide (i < l0.length) = true := decide_eq_true (by omega)
      have b2 : decide ((i : Int) < 60) = true := decide_eq_true (by omega)
      have b2' : decide (i < 60) = true := decide_eq_true (by omega)
      have hi2 : (i : Int) + 1 ≤ 60 := by omega
      have p1 : 0 ≤ (i : Int) := by omega
      have q1 : (i : Int) < (l0.length : Int) := by omega
      have LI := Aside0.mk (show i ≤ 60 by omega)
      obtain ⟨ad, e0, hx0, hx1, hx2, hx3, hx4⟩ := at_act R0.out i (by omega)
      have OA := Aside0.mk (OK.out _ (act_mem l0 i (by omega)))
      cases e0
      obtain ⟨a, ha⟩ : ∃ a, act l0 i = a := ⟨_, rfl⟩
      rw [ha] at hx0 hx1 hx2 hx3 hx4 OA
      obtain ⟨Y, hY⟩ : ∃ Y, nDoes X a = Y := ⟨_, rfl⟩
      have EY := Aside0.mk hY
      have IY := Aside0.mk (show Inv (i + 1) Y by rw [← hY]; exact inv_step i X a HX.out (by obtain ⟨_, _, _, _, _, _, h5⟩ := HS.out.net; exact h5))
      replace hx0 := (HS.out.bel.cell (World.block_lt_of_cell? w _ hx0)).trans hx0
      replace hx1 := (HS.out.bel.cell (World.block_lt_of_cell? w _ hx1)).trans hx1
      replace hx2 := (HS.out.bel.cell (World.block_lt_of_cell? w _ hx2)).trans hx2
      replace hx3 := (HS.out.bel.cell (World.block_lt_of_cell? w _ hx3)).trans hx3
      replace hx4 := (HS.out.bel.cell (World.block_lt_of_cell? w _ hx4)).trans hx4
      obtain ⟨x0, x1⟩ := box_read HS.out
      have hk : ∀ (a : Addr) (u : Value), wr.cell? a = some u → (wr.alloc (.cells #[.slice none 0 0, .int .i64 0] 47 (0, 0))).cell? a = some u := fun a u hu => (World.cell?_alloc_lt _ _ _ (World.block_lt_of_cell? wr _ hu)).trans hu
      have m0 := hk _ _ hx0
      have m1 := hk _ _ hx1
      have m2 := hk _ _ hx2
      have m3 := hk _ _ hx3
      have m4 := hk _ _ hx4
      have m5 := hk _ _ x0
      have m6 := hk _ _ x1
      clear hi hm ha hY hk
      go_wp2
      go_region_with (first
        | (go_at_call 17; refine (does_to (HS.out.step (Below.refl _ _).drew).net (HS.out.step (Below.refl _ _).drew).ref HS.out.sub (HS.out.step (Below.refl _ _).drew).low (HS.out.step (Below.refl _ _).drew).bel.size i LI.out HX.out OA.out EY.out).mono ?_; rintro e w1 ⟨S1, T1, A1, c1, rfl, hN1, hR1, hs1, hs2, hs3, hb1, hk1⟩; have N1 := Aside0.mk (((HS.out.step (Below.refl _ _).drew).after hN1 hR1 hs1 hs2 hs3 hb1 hk1).step (below_alloc (Below.refl _ _) (ycells A1 c1 Y))); have N3 := Aside0.mk N1.out.boxed; have y0 := blk_cell N1.out.box 0; have y1 := blk_cell N1.out.box 1; have y2 := blk_frozen N1.out.box 0; have y3 := blk_frozen N1.out.box 1; simp at y0 y1; clear hN1 hR1 hs1 hs2 hs3 hb1 hk1)
        | (go_at_call 17; refine (does_to (HS.out.wide (zbox_below wr)).net (HS.out.wide (zbox_below wr)).ref (HS.out.wide (zbox_below wr)).sub (HS.out.wide (zbox_below wr)).low (HS.out.wide (zbox_below wr)).bel.size i LI.out HX.out OA.out EY.out).mono ?_; rintro e w1 ⟨S1, T1, A1, c1, rfl, hN1, hR1, hs1, hs2, hs3, hb1, hk1⟩; have N0 := (HS.out.wide (zbox_below wr)).after hN1 hR1 hs1 hs2 hs3 hb1 hk1; obtain ⟨z0, z1, z2, z3⟩ := ahead HS.out hk1 hs1 hs2; have N1 := Aside0.mk ((N0.put wr.heap.size 0 (.slice A1 Y.way.length c1) z1 z2 z3).put wr.heap.size 1 (.int .i64 Y.lost) z1 z2 z3); have N3 := Aside0.mk N1.out.boxed; have z4 := blk_set (blk_set z0 0 (.slice A1 Y.way.length c1)) 1 (.int .i64 Y.lost); have u0 := blk_cell z0 0; have u1 := blk_cell z0 1; have u2 := blk_frozen z0 0; have u3 := blk_frozen z0 1; have u4 := blk_cell z4 0; have u5 := blk_cell z4 1; have y0 := blk_cell N1.out.box 0; have y1 := blk_cell N1.out.box 1; have y2 := blk_frozen N1.out.box 0; have y3 := blk_frozen N1.out.box 1; simp at y0 y1 u0 u1 u4 u5; have z5 := Nat.ne_of_gt z3; clear hN1 hR1 hs1 hs2 hs3 hb1 hk1 z0 z1 z2 z3 z4 N0))
      all_goals go_wp2
      all_goals (
        first
          | (generalize ((w1.alloc (.cells #[.slice A1 Y.way.length c1, .int .i64 Y.lost] 47 (0, 0))).setCell ⟨w.heap.size + 1, 0, none⟩ (.slice A1 Y.way.length c1)).setCell ⟨w.heap.size + 1, 1, none⟩ (.int .i64 Y.lost) = w3 at N3 ⊢)
          | (generalize (((w1.setCell ⟨wr.heap.size, 0, none⟩ (.slice A1 Y.way.length c1)).setCell ⟨wr.heap.size, 1, none⟩ (.int .i64 Y.lost)).setCell ⟨w.heap.size + 1, 0, none⟩ (.slice A1 Y.way.length c1)).setCell ⟨w.heap.size + 1, 1, none⟩ (.int .i64 Y.lost) = w3 at N3 ⊢; clear u0 u1 u2 u3 u4 u5 z5)
        clear x0 x1 y0 y1 y2 y3 m0 m1 m2 m3 m4 m5 m6 hx0 hx1 hx2 hx3 hx4
        obtain ⟨q0, q1⟩ := box_read N3.out
        have QN := N3
        clear N1 N3
        go_quiet ((first | (go_at_call 10; exact Calls.quiet_of_same (len_q QN.out _)) | (go_at_call 11; exact Calls.quiet_of_same (lost_q QN.out _))))
        go_wp2
        obtain ⟨N, hN⟩ : ∃ N : Nat, Y.way.length = N := ⟨_, rfl⟩
        have HN := Aside0.mk hN
        have LN := Aside0.mk (show N ≤ 256 by rw [← hN]; obtain ⟨_, _, _, _, _, _, h5⟩ := QN.out.net; exact h5)
        clear q0 q1 hN
        go_loopg [8] (N + 2) (fun kq v8 w' => ∃ (k : Int), v8 = .int .i64 k ∧ Aside0 (-1 ≤ k ∧ k + (kq : Int) = (N : Int) + 1) ∧ Aside0 (St w w' A1 c1 Y S1 T1))
        case atStart => exact ⟨-1, rfl, ⟨by decide, by push_cast; omega⟩, ⟨QN.out.step (pw_below_drewN (Below.refl _ _) _)⟩⟩
        case round =>
          clear QN
          obtain ⟨j, rfl, HJ, QN⟩ := hrel
          have hj := HJ.out
          obtain ⟨q0, q1⟩ := box_read QN.out
          have hN := HN.out
          rw [hN] at q0
          cases gk with
          | succ g =>
            have d1 : decide (j ≤ (N : Int)) = true := decide_eq_true (by push_cast at hj; omega)
            have hj2 : j ≤ 256 := by have := LN.out; push_cast at hj; omega
            by_cases c1 : j < 0
            · have e1 : decide (j < 0) = true := decide_eq_true c1
              have EL := Aside0.mk (show nLook Y j = (z35, 8) by unfold nLook; rw [if_pos (.inl c1)])
              have j1 : -1 ≤ j := by omega
              clear hj hN c1
              go_wp2_with (first
                  | (go_at_call 15; refine (look_calls _ _ w.heap.size Y j _ QN.out.net).mono ?_; rw [EL.out]; simp only [aggP, z35]; rintro e w2 ⟨rfl, hb⟩; have P2 := Aside0.mk ((QN.out.step hb).step (below_alloc (Below.refl _ _) (.cells #[.int .i64 0, .string ⟨#[]⟩, .bool false] 35 (0, 0)))); obtain ⟨s0, s1⟩ := box_read P2.out; rw [HN.out] at s0; clear hb))
              go_roundg g
              case measure => omega
              case rel => exact ⟨j + 1, by go_num, ⟨by omega, by have := HJ.out.2; push_cast at this; omega⟩, P2⟩
            · have e1 : decide (j < 0) = false := decide_eq_false c1
              obtain ⟨n, rfl⟩ : ∃ n : Nat, j = (n : Int) := ⟨j.toNat, (Int.toNat_of_nonneg (by omega)).symm⟩
              have d2 : decide (n ≤ N) = true := decide_eq_true (by push_cast at hj; omega)
              by_cases c2 : n = N
              · have e2 : ((n : Int) == (N : Int)) = true := beq_iff_eq.mpr (by omega)
                have e2' : decide (n = N) = true := decide_eq_true c2
                have EL := Aside0.mk (show nLook Y (n : Int) = (z35, 8) by unfold nLook; rw [if_pos (.inr (by rw [hN]; omega))])
                have j1 : 0 ≤ (n : Int) := by omega
                have c2a := Aside0.mk c2
                clear hj hN c1 c2
                go_wp2_with (first
                  | (go_at_call 15; refine (look_calls _ _ w.heap.size Y (n : Int) _ QN.out.net).mono ?_; rw [EL.out]; simp only [aggP, z35]; rintro e w2 ⟨rfl, hb⟩; have P2 := Aside0.mk ((QN.out.step hb).step (below_alloc (Below.refl _ _) (.cells #[.int .i64 0, .string ⟨#[]⟩, .bool false] 35 (0, 0)))); obtain ⟨s0, s1⟩ := box_read P2.out; rw [HN.out] at s0; clear hb))
                go_roundg g
                case measure => omega
                case rel => exact ⟨(n : Int) + 1, by go_num, ⟨by omega, by have := HJ.out.2; push_cast at this; omega⟩, P2⟩
              · have e2 : ((n : Int) == (N : Int)) = false := beq_eq_false_iff_ne.mpr (by omega)
                have e2' : decide (n = N) = false := decide_eq_false c2
                have hn : n < N := by push_cast at hj; omega
                have EL := Aside0.mk (show nLook Y (n : Int) = (pcl Y.way n, 0) by unfold nLook; rw [if_neg (by rw [hN]; omega)])
                have j1 : 0 ≤ (n : Int) := by omega
                have j2 : (n : Int) < (N : Int) := by omega
                obtain ⟨p, hp⟩ : ∃ p, pcl Y.way n = p := ⟨_, rfl⟩
                rw [hp] at EL
                have HP := Aside0.mk hp
                clear hj hN c1 c2 hp
                go_wp2_with (first
                  | (go_at_call 15; refine (look_calls _ _ w.heap.size Y (n : Int) _ QN.out.net).mono ?_; rw [EL.out]; simp only [aggP, z35]; rintro e w2 ⟨rfl, hb⟩; have P2 := Aside0.mk ((QN.out.step hb).step (below_alloc (Below.refl _ _) (.cells #[.int .i64 p.f0, .string p.f1, .bool p.f2] 35 (0, 0)))); obtain ⟨s0, s1⟩ := box_read P2.out; rw [HN.out] at s0; obtain ⟨ad1, ea, t0, t1, t2⟩ := way_read P2.out (show n < Y.way.length by rw [HN.out]; omega); rw [HP.out] at t0 t1 t2; rw [ea] at s0; clear ea; clear hb))
                go_quiet (fail)
                go_wp2
                go_roundg g
                case measure => omega
                case rel => exact ⟨(n : Int) + 1, by go_num, ⟨by omega, by have := HJ.out.2; push_cast at this; omega⟩, ⟨P2.out.step (pw_below_drewN (Below.refl _ _) _)⟩⟩
          | zero =>
            have d1 : decide (j ≤ (N : Int)) = false := decide_eq_false (by push_cast at hj; omega)
            clear hj hN
            go_wp2
            go_roundg k
            case measure => omega
            case rel => exact ⟨i + 1, A1, c1, Y, S1, T1, by go_num, ⟨by have := HI.out; omega⟩, IY, QN⟩)
    | zero =>
      have b1 : decide (i < l0.length) = false ∨ (decide (i < l0.length) = true ∧ decide ((i : Int) < 60) = false ∧ decide (i < 60) = false) := by
        by_cases h1 : i < l0.length
        · exact .inr ⟨decide_eq_true h1, decide_eq_false (by omega), decide_eq_false (by omega)⟩
        · exact .inl (decide_eq_false h1)
      clear hi hm
      rcases b1 with b1 | ⟨b1, b2, b3⟩
      all_goals (
        go_wp2
        go_ret
        exact ⟨rfl, HS.out.bel⟩)
end Go.Proofs.Ytmcdgachfkkpeaa.OPlays
