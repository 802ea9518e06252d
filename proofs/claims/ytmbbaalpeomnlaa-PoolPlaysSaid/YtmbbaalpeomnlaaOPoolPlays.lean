/- PoolPlays, walked by hand. -/
import Derived.Test.YtmbbaalpeomnlaaOShows
import Derived.Deep.RegionHeld3
import Derived.StillTailTactics
set_option linter.unusedVariables false
set_option linter.unusedSimpArgs false
namespace Go.Proofs.Ytmbbaalpeomnlaa.OPoolPlays
open Go.RowKit Go.Proofs.YtmbbaalpeomnlaaW.PrintWords Go.Proofs.YtmbbaalpeomnlaaW.PrintLast Go.Proofs.YtmbbaalpeomnlaaW.PrintMore Go.Proofs.Ytmbbaalpeomnlaa.GQ Go.Proofs.Ytmbbaalpeomnlaa.OPool Go.Proofs.Ytmbbaalpeomnlaa.OInv Go.Proofs.Ytmbbaalpeomnlaa.UPoolR Go.Proofs.Ytmbbaalpeomnlaa.OTwo
def tillerlaw12_PoolPlays.f (a0 : Int) (l1 : List S47) : Option Bool := if -9223372036854775808 ≤ a0 ∧ a0 ≤ 9223372036854775807 then some true else none
/-- The law's state: the pool at g, the document's box at E. -/
structure St (w W : World) (g E : Nat) (X : PX) (S R : Nat → Prop) (v0 v1 p0 p1 : Value) : Prop extends Two w.heap.size S R w W g X X v0 v1 where
  box : W.heap[E]? = some (.cells #[p0, p1] 43 (0, 0))
  inS : S E
  nR : ¬ R E
  ge : w.heap.size ≤ E
theorem St.step {w W W' : World} {g E : Nat} {X : PX} {S R : Nat → Prop} {v0 v1 p0 p1 : Value} (h : St w W g E X S R v0 v1 p0 p1) (hb : Below W.heap.size W W') : St w W' g E X (fun k => S k ∨ (W.heap.size ≤ k ∧ k < W'.heap.size)) R v0 v1 p0 p1 :=
  ⟨h.toTwo.more hb, blk_below h.box hb, .inl h.inS, h.nR, h.ge⟩
theorem St.after {w W W' : World} {g E : Nat} {X X' : PX} {S R S' R' : Nat → Prop} {v0 v1 p0 p1 v0' v1' : Value} (h : St w W g E X S R v0 v1 p0 p1) (ht : Two w.heap.size S' R' w W' g X' X' v0' v1') (hk : Kin S R W S' R' W') : St w W' g E X' S' R' v0' v1' p0 p1 :=
  ⟨ht, (hk.kp E h.inS).trans h.box, hk.sup E h.inS, fun q => (hk.rup E q).elim h.nR (fun q2 => by have := blk_lt h.box; omega), h.ge⟩
theorem St.put {w W : World} {g E : Nat} {X : PX} {S R : Nat → Prop} {v0 v1 p0 p1 : Value} (h : St w W g E X S R v0 v1 p0 p1) (t0 t1 : Value) : St w ((W.setCell ⟨E, 0, none⟩ t0).setCell ⟨E, 1, none⟩ t1) g E X S R v0 v1 t0 t1 := by
  refine ⟨(h.toTwo.set (j := 0) h.inS h.nR h.ge t0).set (j := 1) h.inS h.nR h.ge t1, ?_, h.inS, h.nR, h.ge⟩
  have := blk_set (blk_set h.box 0 t0) 1 t1
  simpa using this
/-- A store into another box that is none of the rows'. -/
theorem St.other {w W : World} {g E B : Nat} {X : PX} {S R : Nat → Prop} {v0 v1 p0 p1 : Value} (h : St w W g E X S R v0 v1 p0 p1) (hS : S B) (hR : ¬ R B) (hge : w.heap.size ≤ B) (hne : E ≠ B) (j : Nat) (u : Value) : St w (W.setCell ⟨B, j, none⟩ u) g E X S R v0 v1 p0 p1 :=
  ⟨h.toTwo.set (j := j) hS hR hge u, blk_far (p := ⟨B, j, none⟩) h.box hne u, h.inS, h.nR, h.ge⟩
set_option maxHeartbeats 16000000 in
set_option maxRecDepth 100000 in
theorem tillerlaw12_PoolPlays.calls (a0 : Int) (A1 : Option Addr) (c1 : Nat) (l1 : List S47) (r : Bool) (w : World) (hr1 : Kd.C k47 w A1 l1.length l1) (hc1 : l1.length ≤ c1) (hr_ : Aside0 (r = true)) (h : tillerlaw12_PoolPlays.f a0 l1 = some r) : Calls Try.prog 6 #[.int .i64 a0, .slice A1 l1.length c1] w fun e w' => e = .returned (.bool r) ∧ Below w.heap.size w w' := by
  obtain ⟨r_⟩ := hr_
  subst r_
  clear h
  by_cases hn : a0 < 1 ∨ a0 > 64
  · rcases hn with hn | hn
    · have d1 : decide (a0 < 1) = true := decide_eq_true hn
      clear hr1
      go_enter Try.func6, Try.ntmps6
      go_wp2_with (first
        | (go_at_call 9; refine (new_low a0 _ hn).mono ?_; rintro e w1 ⟨rfl, rfl⟩)
        | (go_at_call 8; refine (awake_calls _).mono ?_; rintro e w1 ⟨rfl, hb⟩))
      go_ret
      exact ⟨rfl, hb⟩
    · have d1 : decide (a0 < 1) = false := decide_eq_false (by omega)
      have d2 : decide (a0 > 64) = true := decide_eq_true hn
      clear hr1
      go_enter Try.func6, Try.ntmps6
      go_wp2_with (first
        | (go_at_call 9; refine (new_high a0 _ hn).mono ?_; rintro e w1 ⟨rfl, rfl⟩)
        | (go_at_call 8; refine (awake_calls _).mono ?_; rintro e w1 ⟨rfl, hb⟩))
      go_ret
      exact ⟨rfl, hb⟩
  obtain ⟨n, rfl⟩ : ∃ n : Nat, a0 = (n : Int) := ⟨a0.toNat, (Int.toNat_of_nonneg (by omega)).symm⟩
  have d1 : decide ((n : Int) < 1) = false := decide_eq_false (by omega)
  have d2 : decide ((n : Int) > 64) = false := decide_eq_false (by omega)
  have hn1 : n ≤ 64 := by omega
  have hn0 : 1 ≤ n := by omega
  clear hn
  have HR := Aside0.mk hr1
  have HF := Aside0.mk (show (fresh n).pages.length = n by show (List.replicate n z55).length = n; rw [List.length_replicate])
  have HJ := Aside0.mk (inv_fresh n hn1)
  have HRF := Aside0.mk (show rows (fresh n).pages = List.replicate n z70 from by show List.map toR (List.replicate n z55) = _; rw [List.map_replicate]; rfl)
  obtain ⟨M, hM⟩ : ∃ M : Nat, M = min l1.length 80 := ⟨_, rfl⟩
  have HM := Aside0.mk hM
  clear hr1 hM
  go_enter Try.func6, Try.ntmps6
  go_upto_region 7 with (first
    | (go_at_call 9; refine (new_ok n w hn0 (by omega)).mono ?_; rintro e w1 ⟨g, rfl, hP, hb⟩; have P1 := Aside0.mk hP; have B1 := Aside0.mk hb; clear hP hb)
    | (go_at_call 8; go_loud ((refine (awake_calls _).mono ?_); rintro e w2 ⟨rfl, hb⟩; have P2 := Aside0.mk (P1.out.step hb); have B2 := Aside0.mk (below_step B1.out hb); clear hb))
    | ((with_reducible refine gate_dst (N := 54) rfl ?_); go_loud ((refine Kd.R_make kP (w0 := w2) w2.heap.size 70 rfl (N := 54) rfl 41 (.tmp 53) (.tmp 53) rfl (n : Int) rfl rfl Try.underlying41 (.agg #[(.int .i64 0), (.bool false), (.int .i64 0)]) 24 (by kernel_rfl) rfl (by decide) (by decide) z70 (ok := fun _ => True) (okp := fun _ => True) ?aZ (fun _ hk => hk) trivial (by omega) (by omega) (Below.refl _ _) (Nat.le_refl _) ?_); (case aZ => exact k70_mkM _ _ _ z70); intro vo w3 ho hb hg hnew; simp only [Int.toNat_natCast] at ho; obtain ⟨Ao, co, rfl⟩ := Kd.R_slice ho; have R3 := Aside0.mk ho; have B3 := Aside0.mk hb; clear ho hb hg hnew)))
  have S4 := Aside0.mk (show St w (w3.alloc (.cells #[.slice Ao n co, .slice none 0 0] 43 (0, 0))) g w3.heap.size (fresh n) (fun k => w2.heap.size ≤ k ∧ k < w3.heap.size + 1) (fun k => w2.heap.size ≤ k ∧ k < w3.heap.size) (.slice Ao n co) (.slice none 0 0) (.slice Ao n co) (.slice none 0 0) from by
    have b4 := below_alloc (Below.refl w3.heap.size w3) (.cells #[.slice Ao n co, .slice none 0 0] 43 (0, 0))
    have bb := B2.out.trans (B3.out.mono B2.out.size)
    have hs := B3.out.size
    have hs2 := B2.out.size
    have hr := R3.out
    refine ⟨⟨((OTwo.PoolAt.bound P2.out).step (B3.out.trans (b4.mono hs))).mono (fun k hk => ⟨hk.1, fun q => by have := hk.2; omega⟩), ⟨?_, Kd.V_nil _ _ _ _ _⟩, fun k hk => ⟨hk.1, by omega⟩, fun k hk => by rw [World.size_alloc]; exact hk.2, bb.trans (b4.mono bb.size), by rw [World.size_alloc]; omega⟩, blk_new _ _, ⟨hs, by omega⟩, fun q => by omega, by omega⟩
    rw [HRF.out]
    rw [List.length_replicate] at hr
    exact Kd.V_below (Kd.V_mono (Kd.R_V (Kd.R_bound hr)) (fun k hk => ⟨hk.2.1, hk.2.2.1⟩)) b4)
  generalize w3.alloc (.cells #[.slice Ao n co, .slice none 0 0] 43 (0, 0)) = w4 at S4 ⊢
  obtain ⟨E, hE⟩ : ∃ E, w3.heap.size = E := ⟨_, rfl⟩
  rw [hE] at S4 ⊢
  clear hE P1 B1 P2 B2 R3 B3
  go_wp2
  go_loopg [8] M (fun kq v8 w' => ∃ (i : Nat) (X : PX) (S R : Nat → Prop) (A A' : Option Addr) (c c' : Nat), v8 = .int .i64 (i : Int) ∧ Aside0 (i + kq = M) ∧ Aside0 (Inv X) ∧ Aside0 (St w w' g E X S R (.slice A (rows X.pages).length c) (.slice A' X.idle.length c') (.slice A (rows X.pages).length c) (.slice A' X.idle.length c')))
  case atStart =>
    refine ⟨0, fresh n, (fun k => w2.heap.size ≤ k ∧ k < E + 1), (fun k => w2.heap.size ≤ k ∧ k < E), Ao, none, co, 0, rfl, ⟨Nat.zero_add _⟩, HJ, ?_⟩
    have e : (rows (fresh n).pages).length = n := by rw [HRF.out, List.length_replicate]
    rw [e]
    exact S4
  case round =>
    clear S4
    obtain ⟨i, X, S, R, A, A', c, c', rfl, HI, HX, HS⟩ := hrel
    have hi := HI.out
    have hm := HM.out
    cases gk with
    | succ k =>
      have b1 : decide (i < l1.length) = true := decide_eq_true (by omega)
      have b2 : decide ((i : Int) < 80) = true := decide_eq_true (by omega)
      have b2' : decide (i < 80) = true := decide_eq_true (by omega)
      have hi2 : (i : Int) + 1 ≤ 80 := by omega
      have p1 : 0 ≤ (i : Int) := by omega
      have q1 : (i : Int) < (l1.length : Int) := by omega
      obtain ⟨ad, e0, hx0, hx1, hx2⟩ := at_act HR.out (i : Int) p1 q1
      cases e0
      obtain ⟨a, ha⟩ : ∃ a, act l1 (i : Int) = a := ⟨_, rfl⟩
      rw [ha, Int.toNat_natCast] at hx0 hx1 hx2
      have HA := Aside0.mk (And.intro hx0 (And.intro hx1 hx2))
      replace hx0 := (HS.out.bel.cell (World.block_lt_of_cell? w _ hx0)).trans hx0
      replace hx1 := (HS.out.bel.cell (World.block_lt_of_cell? w _ hx1)).trans hx1
      replace hx2 := (HS.out.bel.cell (World.block_lt_of_cell? w _ hx2)).trans hx2
      obtain ⟨Y, hY⟩ : ∃ Y, pDo X a.f0 a.f1 a.f2 = Y := ⟨_, rfl⟩
      have IY := Aside0.mk (show Inv Y by rw [← hY]; exact inv_do HX.out _ _ _)
      have x0 := blk_cell HS.out.box 0
      have x1 := blk_cell HS.out.box 1
      simp at x0 x1
      have zb := below_alloc (Below.refl wr.heap.size wr) (.cells #[.slice none 0 0, .slice none 0 0] 43 (0, 0))
      have SZ := Aside0.mk (HS.out.step zb)
      have ZB := Aside0.mk (blk_new wr (.cells #[.slice none 0 0, .slice none 0 0] 43 (0, 0)))
      have m0 := pw_cell_below zb hx0
      have m1 := pw_cell_below zb hx1
      have m2 := pw_cell_below zb hx2
      have m3 := pw_cell_below zb x0
      have m4 := pw_cell_below zb x1
      have SD := Aside0.mk (HS.out.step (below_drew (Below.refl wr.heap.size wr)))
      have SZD := Aside0.mk (SZ.out.step (below_drew (Below.refl _ (wr.alloc (.cells #[.slice none 0 0, .slice none 0 0] 43 (0, 0))))))
      have BS := Aside0.mk (show (S wr.heap.size ∨ (wr.heap.size ≤ wr.heap.size ∧ wr.heap.size < (wr.alloc (.cells #[.slice none 0 0, .slice none 0 0] 43 (0, 0))).heap.size)) ∧ ¬ R wr.heap.size ∧ E < wr.heap.size ∧ w.heap.size ≤ wr.heap.size from ⟨.inr ⟨Nat.le_refl _, by rw [World.size_alloc]; omega⟩, fun q => by have := HS.out.lt _ (HS.out.sub _ q); omega, blk_lt HS.out.box, HS.out.le⟩)
      have D1 := does_any w.heap.size g _ R A A' c c' X HX.out a.f0 a.f1 a.f2 w _ SD.out.toTwo
      have D2 := does_any w.heap.size g _ R A A' c c' X HX.out a.f0 a.f1 a.f2 w _ SZD.out.toTwo
      rw [hY] at D1 D2
      obtain ⟨n0, hn0⟩ : ∃ n, (rows X.pages).length = n := ⟨_, rfl⟩
      obtain ⟨n1, hn1⟩ : ∃ n, X.idle.length = n := ⟨_, rfl⟩
      simp only [hn0, hn1] at D1 D2 HS SD SZD x0 x1 m3 m4 ⊢
      have D1 := Aside0.mk D1
      have D2 := Aside0.mk D2
      clear hi hm ha hY hn0 hn1 zb SZ
      obtain ⟨k0, hk0⟩ : ∃ n, (rows Y.pages).length = n := ⟨_, rfl⟩
      obtain ⟨k1, hk1⟩ : ∃ n, Y.idle.length = n := ⟨_, rfl⟩
      have HK := Aside0.mk (And.intro hk0 hk1)
      clear hk0 hk1
      go_upto_region 10 with (fail)
      go_cut [9, 10] from 56 to 89 (fun s9 s10 wx => ∃ (B : Nat) (S1 R1 : Nat → Prop) (A2 A3 : Option Addr) (c2 c3 : Nat), s9 = .pointer (some ⟨B, 0, none⟩) ∧ s10 = .bool true ∧ Aside0 (St w wx g E Y S1 R1 (.slice A2 k0 c2) (.slice A3 k1 c3) (.slice A n0 c) (.slice A' n1 c')) ∧ Aside0 (wx.heap[B]? = some (.cells #[.slice A2 k0 c2, .slice A3 k1 c3] 43 (0, 0))) ∧ Aside0 (E < B))
      case first =>
        go_region_with (first
          | (go_at_call 19; (with_reducible refine D1.out.mono ?_); go_loud (rintro e w1 ⟨S1, R1, A2, A3, c2, c3, rfl, t1, kn⟩; rw [HK.out.1, HK.out.2] at t1 ⊢; have N0 := SD.out.after t1 kn; have N1 := Aside0.mk (N0.step (below_alloc (Below.refl w1.heap.size w1) (.cells #[.slice A2 k0 c2, .slice A3 k1 c3] 43 (0, 0)))); have Z1 := Aside0.mk (blk_new w1 (.cells #[.slice A2 k0 c2, .slice A3 k1 c3] 43 (0, 0))); have Z2 := Aside0.mk (blk_lt N0.box); clear t1 kn N0))
          | (go_at_call 19; (with_reducible refine D2.out.mono ?_); go_loud (rintro e w1 ⟨S1, R1, A2, A3, c2, c3, rfl, t1, kn⟩; rw [HK.out.1, HK.out.2] at t1 ⊢; have z0 := (kn.kp wr.heap.size (.inl BS.out.1)).trans ZB.out; have zS := kn.sup wr.heap.size (.inl BS.out.1); have zR : ¬ R1 wr.heap.size := (fun q => (kn.rup _ q).elim BS.out.2.1 (fun q2 => by have q3 : (wr.alloc (.cells #[.slice none 0 0, .slice none 0 0] 43 (0, 0))).heap.size ≤ wr.heap.size := q2; rw [World.size_alloc] at q3; omega)); have N0 := SZD.out.after t1 kn; have N1 := Aside0.mk ((N0.other zS zR BS.out.2.2.2 (Nat.ne_of_lt BS.out.2.2.1) 0 (.slice A2 k0 c2)).other zS zR BS.out.2.2.2 (Nat.ne_of_lt BS.out.2.2.1) 1 (.slice A3 k1 c3)); have z4 := blk_set (blk_set z0 0 (.slice A2 k0 c2)) 1 (.slice A3 k1 c3); have Z1 := Aside0.mk (show _ = some (Obj.cells #[.slice A2 k0 c2, .slice A3 k1 c3] 43 (0, 0)) from by simpa using z4); have Z2 := Aside0.mk BS.out.2.2.1; have u0 := blk_cell z0 0; have u1 := blk_cell z0 1; have u2 := blk_frozen z0 0; have u3 := blk_frozen z0 1; simp at u0 u1; clear t1 kn z0 zS zR z4 N0)))
        all_goals (
          go_wp2
          go_meet
          exact ⟨_, _, _, A2, A3, c2, c3, rfl, rfl, N1, Z1, Z2⟩)
      case rest =>
        clear x0 x1 m0 m1 m2 m3 m4 hx0 hx1 hx2 D1 D2 SD SZD ZB BS HS
        obtain ⟨B, S1, R1, A2, A3, c2, c3, rfl, rfl, N1, Z1, Z2⟩ := hcut
        have N3 := Aside0.mk (N1.out.put (.slice A2 k0 c2) (.slice A3 k1 c3))
        have u0 := blk_cell Z1.out 0
        have u1 := blk_cell Z1.out 1
        have y2 := blk_frozen N1.out.box 0
        have y3 := blk_frozen N1.out.box 1
        have y0 := blk_cell N1.out.box 0
        have y1 := blk_cell N1.out.box 1
        simp at y0 y1 u0 u1
        have EB : ¬ B = E := by have := Z2.out; omega
        have EB2 : ¬ E = B := fun q => EB q.symm
        go_upto_region 12 with (fail)
        obtain ⟨w3, hw3⟩ : ∃ w3, w3 = (wc.setCell ⟨E, 0, none⟩ (.slice A2 k0 c2)).setCell ⟨E, 1, none⟩ (.slice A3 k1 c3) := ⟨_, rfl⟩
        rw [← hw3] at N3 ⊢
        clear hw3 y0 y1 y2 y3 u0 u1 N1 Z1
        have h2 := pw_cell_below N3.out.bel HA.out.2.2
        have e0 := blk_cell N3.out.box 0
        have e1 := blk_cell N3.out.box 1
        simp at e0 e1
        have SC := shows_calls w.heap.size g _ _ A2 A3 c2 c3 Y IY.out a.f2 w w3.drew (by rw [HK.out.1, HK.out.2]; exact (N3.out.step (below_drew (Below.refl _ _))).toTwo)
        rw [HK.out.1, HK.out.2] at SC
        have SC := Aside0.mk SC
        go_region_held3 (fun w' => w'.cell? ⟨E, 0, none⟩ = some (.slice A2 k0 c2) ∧ w'.cell? ⟨E, 1, none⟩ = some (.slice A3 k1 c3) ∧ w'.cell? ⟨(ad.add (i * 3)).block, (ad.add (i * 3)).off + 2, none⟩ = some (.int .i64 a.f2)) (go_keep) ((go_at_call 20; go_loud ((refine SC.out.mono ?_); rintro e w4 ⟨rfl, hb⟩; have N4 := Aside0.mk ((N3.out.step (below_drew (Below.refl _ _))).step hb); have v0 := pw_cell_below hb (pw_cell_below (below_drew (Below.refl w3.heap.size w3)) e0); have v1 := pw_cell_below hb (pw_cell_below (below_drew (Below.refl w3.heap.size w3)) e1); have v2 := pw_cell_below hb (pw_cell_below (below_drew (Below.refl w3.heap.size w3)) h2); clear hb)))
        go_wp2
        go_roundg k
        case measure => omega
        case rel =>
          rw [← HK.out.1, ← HK.out.2] at N4
          exact ⟨i + 1, Y, _, _, A2, A3, c2, c3, by go_num, ⟨by have := HI.out; omega⟩, IY, N4⟩
    | zero =>
      have bb : decide (i < l1.length) = false ∨ (decide (i < l1.length) = true ∧ decide ((i : Int) < 80) = false ∧ decide (i < 80) = false) := by
        by_cases h1 : i < l1.length
        · exact .inr ⟨decide_eq_true h1, decide_eq_false (by omega), decide_eq_false (by omega)⟩
        · exact .inl (decide_eq_false h1)
      clear hi hm
      rcases bb with b1 | ⟨b1, b2, b3⟩
      all_goals (
        go_wp2
        go_ret
        exact ⟨rfl, HS.out.bel⟩)
end Go.Proofs.Ytmbbaalpeomnlaa.OPoolPlays
