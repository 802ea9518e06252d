/- PoolForgets, walked by hand: all pages taken, one sealed, dropped, forgotten and taken anew. -/
import Derived.Test.YtmbbaalpeomnlaaOAwake
set_option linter.unusedVariables false
set_option linter.unusedSimpArgs false
namespace Go.Proofs.Ytmbbaalpeomnlaa.OForgets
open Go.RowKit Go.Proofs.YtmbbaalpeomnlaaW.PrintWords Go.Proofs.YtmbbaalpeomnlaaW.PrintLast Go.Proofs.YtmbbaalpeomnlaaW.PrintMore Go.Proofs.Ytmbbaalpeomnlaa.GQ Go.Proofs.Ytmbbaalpeomnlaa.OPool
def u1 : PG := ⟨1, false, 0⟩
/-- Pages that are needed once, but for one. -/
def but (n a : Nat) (p : PG) : List PG := List.replicate a u1 ++ p :: List.replicate (n - a - 1) u1
theorem set_rep : ∀ (n a : Nat) (p : PG), a < n → (List.replicate n u1).set a p = but n a p := by
  intro n
  induction n with
  | zero => intro a p h; omega
  | succ n ih =>
    intro a p h
    unfold but at *
    cases a with
    | zero => rw [List.replicate_succ, List.set_cons_zero]; simp
    | succ a =>
      rw [List.replicate_succ, List.set_cons_succ, ih a p (by omega), List.replicate_succ, List.cons_append, show n + 1 - (a + 1) - 1 = n - a - 1 by omega]
theorem but_set (n a : Nat) (p q : PG) : (but n a p).set a q = but n a q := by
  unfold but
  rw [List.set_append_right _ _ (by simp), List.length_replicate, Nat.sub_self, List.set_cons_zero]
theorem but_len (n a : Nat) (p : PG) (h : a < n) : (but n a p).length = n := by unfold but; simp; omega
theorem but_pg (n a : Nat) (p : PG) : pg (but n a p) (a : Int) = p := by
  unfold pg but
  rw [Int.toNat_natCast, List.getD_eq_getElem?_getD, List.getElem?_append_right (by simp)]
  simp
theorem rep_pg (n a : Nat) (h : a < n) : pg (List.replicate n u1) (a : Int) = u1 := by
  rw [pg_at _ a (by simpa using h), List.getElem_replicate]
theorem kidx_skip (key : Int) (l : List PG) : ∀ (a i : Nat), kidx key (List.replicate a u1 ++ l) i = kidx key l (i + a) := by
  intro a
  induction a with
  | zero => intro i; rfl
  | succ a ih =>
    intro i
    rw [List.replicate_succ, List.cons_append]
    simp only [kidx]
    rw [if_neg (fun h => by have := h.1; cases this), ih (i + 1), show i + 1 + a = i + (a + 1) by omega]
theorem kidx_rep (key : Int) (a i : Nat) : kidx key (List.replicate a u1) i = -1 := by
  have := kidx_skip key [] a i
  rw [List.append_nil] at this
  exact this
theorem kidx_but (key : Int) (n a : Nat) (p : PG) : kidx key (but n a p) 0 = if p.f1 = true ∧ p.f2 = key then (a : Int) else -1 := by
  unfold but
  rw [kidx_skip]
  simp only [kidx]
  rw [kidx_rep, Nat.zero_add]
theorem fidx_skip (l : List PG) : ∀ (a i : Nat), fidx (List.replicate a u1 ++ l) i = fidx l (i + a) := by
  intro a
  induction a with
  | zero => intro i; rfl
  | succ a ih =>
    intro i
    rw [List.replicate_succ, List.cons_append]
    simp only [fidx]
    rw [if_neg (by decide), ih (i + 1), show i + 1 + a = i + (a + 1) by omega]
theorem fidx_but (n a : Nat) : fidx (but n a z55) 0 = (a : Int) := by
  unfold but
  rw [fidx_skip]
  simp only [fidx]
  rw [if_pos (by decide), Nat.zero_add]
theorem cfre_but (n a : Nat) : cfre (but n a z55) = 1 := by
  have h : fre u1 = false := by decide
  have hz : fre z55 = true := by decide
  unfold cfre but
  rw [List.countP_append, List.countP_cons, List.countP_replicate, List.countP_replicate, h, hz]
  simp
/-- So many pages are taken. -/
def fs (n i : Nat) : PX := ⟨List.replicate i u1 ++ List.replicate (n - i) z55, []⟩
theorem fs_zero (n : Nat) : fresh n = fs n 0 := rfl
theorem fs_all (n : Nat) : fs n n = ⟨List.replicate n u1, []⟩ := by unfold fs; rw [Nat.sub_self]; simp
theorem fs_take (n i : Nat) (h : i < n) : pTake (fs n i) = (fs n (i + 1), ((i : Int), 0, false, 0)) := by
  have hf : fidx (fs n i).pages 0 = (i : Int) := by
    unfold fs
    rw [fidx_skip, show n - i = n - (i + 1) + 1 by omega, List.replicate_succ]
    simp only [fidx]
    rw [if_pos (by decide), Nat.zero_add]
  unfold pTake
  rw [hf, if_pos (by omega)]
  have hs : pset (fs n i).pages (i : Int) ⟨1, false, 0⟩ = (fs n (i + 1)).pages := by
    unfold pset fs
    rw [Int.toNat_natCast, List.set_append_right _ _ (by simp), List.length_replicate, Nat.sub_self, show n - i = n - (i + 1) + 1 by omega, List.replicate_succ, List.set_cons_zero, List.replicate_succ', List.append_assoc]
    rfl
  rw [hs]
  rfl
/-- The places on the way. -/
def Y0 (n : Nat) : PX := ⟨List.replicate n u1, []⟩
def Y1 (n a : Nat) (key : Int) : PX := ⟨but n a ⟨1, true, key⟩, []⟩
def Y2 (n a : Nat) (key : Int) : PX := ⟨but n a ⟨0, true, key⟩, [(a : Int)]⟩
def Y3 (n a : Nat) : PX := ⟨but n a z55, []⟩
def Y4 (n a : Nat) : PX := ⟨but n a u1, []⟩
theorem y_forget (ps : List PG) (i : Int) : pForget ⟨ps, []⟩ i = (⟨ps, []⟩, 8) := rfl
theorem y0_seal (n a : Nat) (key : Int) (h : a < n) : pSeal (Y0 n) a key = (Y1 n a key, 0) := by
  have ht : there (Y0 n).pages (a : Int) = true := by
    unfold there Y0
    rw [rep_pg n a h, decide_eq_true (by omega), decide_eq_true (by simp; omega)]
    rfl
  unfold pSeal
  rw [if_pos ht]
  have hk := (find_no (kidx_rep key n 0)).2
  have hp : pg (Y0 n).pages (a : Int) = u1 := rep_pg n a h
  rw [hp, if_neg]
  · unfold pset Y0 Y1
    rw [Int.toNat_natCast, set_rep n a _ h]
    rfl
  · intro hh
    rcases hh with hh | hh
    · have : findB key (List.replicate n u1) = true := hh
      rw [hk] at this; cases this
    · cases hh
theorem but_there (n a : Nat) (p : PG) (h : a < n) (hp : fre p = false) : there (but n a p) (a : Int) = true := by
  unfold there
  rw [but_pg, but_len n a p h, hp, decide_eq_true (by omega), decide_eq_true (by omega)]
  rfl
theorem y1_drop (n a : Nat) (key : Int) (h : a < n) : pDrop (Y1 n a key) a = (Y2 n a key, 0) := by
  have ht : there (Y1 n a key).pages (a : Int) = true := but_there n a _ h (fre_1 rfl)
  have hp : pg (Y1 n a key).pages (a : Int) = ⟨1, true, key⟩ := but_pg n a _
  unfold pDrop
  rw [hp, if_pos ⟨ht, by show ¬ (1 : Int) = 0; omega⟩, if_neg (by show ¬ (1 : Int) - 1 > 0; omega), if_pos rfl]
  unfold pset Y1 Y2
  rw [Int.toNat_natCast, but_set]
  rfl
theorem y2_find (n a : Nat) (key : Int) : findI key (Y2 n a key).pages = (a : Int) ∧ findB key (Y2 n a key).pages = true := by
  refine find_yes ?_
  show kidx key (but n a ⟨0, true, key⟩) 0 = _
  rw [kidx_but, if_pos ⟨rfl, rfl⟩]
theorem y2_forget (n a : Nat) (key : Int) : pForget (Y2 n a key) a = (Y3 n a, 0) := by
  have hi : iidx (a : Int) (Y2 n a key).idle 0 = 0 := if_pos rfl
  unfold pForget
  rw [hi, if_neg (by omega)]
  unfold pset Y2 Y3
  rw [Int.toNat_natCast, but_set]
  rfl
theorem y3_find (n a : Nat) (key : Int) : findI key (Y3 n a).pages = 0 ∧ findB key (Y3 n a).pages = false := by
  refine find_no ?_
  show kidx key (but n a z55) 0 = _
  rw [kidx_but, if_neg (fun h => by have := h.1; cases this)]
theorem y3_take (n a : Nat) : pTake (Y3 n a) = (Y4 n a, ((a : Int), 0, false, 0)) := by
  have hf : fidx (Y3 n a).pages 0 = (a : Int) := fidx_but n a
  unfold pTake
  rw [hf, if_pos (by omega)]
  unfold pset Y3 Y4
  rw [Int.toNat_natCast, but_set]
  rfl
theorem y4_open (n a : Nat) (h : a < n) : openV (Y4 n a).pages a = true := by
  have ht : there (Y4 n a).pages (a : Int) = true := but_there n a _ h (by decide)
  have hp : pg (Y4 n a).pages (a : Int) = u1 := but_pg n a _
  unfold openV
  rw [ht, hp]
  rfl
def tillerlaw12_PoolForgets.f (a0 a1 a2 : Int) : Option Bool := if (-9223372036854775808 ≤ a0 ∧ a0 ≤ 9223372036854775807) ∧ (-9223372036854775808 ≤ a1 ∧ a1 ≤ 9223372036854775807) then some true else none
set_option maxHeartbeats 8000000 in
set_option maxRecDepth 100000 in
theorem tillerlaw12_PoolForgets.calls (a0 a1 a2 : Int) (r : Bool) (w : World) (hr_ : Aside0 (r = true)) (h : tillerlaw12_PoolForgets.f a0 a1 a2 = some r) : Calls Try.prog 5 #[.int .i64 a0, .int .i64 a1, .int .i64 a2] w fun e w' => e = .returned (.bool r) ∧ Below w.heap.size w w' := by
  obtain ⟨r_⟩ := hr_
  subst r_
  clear h
  by_cases hn : 1 ≤ a0 ∧ a0 ≤ 20 ∧ 0 ≤ a1 ∧ a1 < a0
  case neg =>
    have hcase : a0 < 1 ∨ (1 ≤ a0 ∧ a0 > 20) ∨ (1 ≤ a0 ∧ a0 ≤ 20 ∧ a1 < 0) ∨ (1 ≤ a0 ∧ a0 ≤ 20 ∧ 0 ≤ a1 ∧ a1 ≥ a0) := by omega
    rcases hcase with c | ⟨c0, c⟩ | ⟨c0, c1, c⟩ | ⟨c0, c1, c2, c⟩
    · have d1 : decide (a0 < 1) = true := decide_eq_true c
      go_enter Try.func5, Try.ntmps5
      go_wp2_with (go_at_call 8; refine (awake_calls _).mono ?_; rintro e w1 ⟨rfl, hb⟩)
      go_ret
      exact ⟨rfl, hb⟩
    · have d1 : decide (a0 < 1) = false := decide_eq_false (by omega)
      have d2 : decide (a0 > 20) = true := decide_eq_true c
      go_enter Try.func5, Try.ntmps5
      go_wp2_with (go_at_call 8; refine (awake_calls _).mono ?_; rintro e w1 ⟨rfl, hb⟩)
      go_ret
      exact ⟨rfl, hb⟩
    · have d1 : decide (a0 < 1) = false := decide_eq_false (by omega)
      have d2 : decide (a0 > 20) = false := decide_eq_false (by omega)
      have d3 : decide (a1 < 0) = true := decide_eq_true c
      go_enter Try.func5, Try.ntmps5
      go_wp2_with (go_at_call 8; refine (awake_calls _).mono ?_; rintro e w1 ⟨rfl, hb⟩)
      go_ret
      exact ⟨rfl, hb⟩
    · have d1 : decide (a0 < 1) = false := decide_eq_false (by omega)
      have d2 : decide (a0 > 20) = false := decide_eq_false (by omega)
      have d3 : decide (a1 < 0) = false := decide_eq_false (by omega)
      have d4 : decide (a1 ≥ a0) = true := decide_eq_true c
      go_enter Try.func5, Try.ntmps5
      go_wp2_with (go_at_call 8; refine (awake_calls _).mono ?_; rintro e w1 ⟨rfl, hb⟩)
      go_ret
      exact ⟨rfl, hb⟩
  obtain ⟨n0, n1, m0, m1⟩ := hn
  obtain ⟨n, rfl⟩ : ∃ n : Nat, a0 = (n : Int) := ⟨a0.toNat, (Int.toNat_of_nonneg (by omega)).symm⟩
  obtain ⟨a, rfl⟩ : ∃ a : Nat, a1 = (a : Int) := ⟨a1.toNat, (Int.toNat_of_nonneg (by omega)).symm⟩
  have hn0 : 1 ≤ n := by omega
  have hn1 : n ≤ 20 := by omega
  have ha : a < n := by omega
  have d1 : decide ((n : Int) < 1) = false := decide_eq_false (by omega)
  have d2 : decide ((n : Int) > 20) = false := decide_eq_false (by omega)
  have d3 : decide ((a : Int) < 0) = false := decide_eq_false (by omega)
  have d4 : ¬ n ≤ a := by omega
  clear n0 n1 m0 m1
  go_enter Try.func5, Try.ntmps5
  go_wp2_with (first
    | (go_at_call 9; refine (new_ok n w hn0 (by omega)).mono ?_; rw [fs_zero]; rintro e w1 ⟨g, rfl, hP, hb⟩; have P1 := Aside0.mk hP; have B1 := Aside0.mk hb; clear hP hb))
  go_loopg [9] n (fun kq v9 w' => ∃ (i : Nat), v9 = .int .i64 (i : Int) ∧ Aside0 (i + kq = n) ∧ Aside0 (PoolAt w.heap.size (fun k => w.heap.size ≤ k) w' g (fs n i)) ∧ Aside0 (Below w.heap.size w w'))
  case atStart => exact ⟨0, rfl, ⟨Nat.zero_add _⟩, P1, B1⟩
  case round =>
    clear P1 B1
    obtain ⟨i, rfl, HI, HP, HB⟩ := hrel
    have hi := HI.out
    cases gk with
    | succ k =>
      have b1 : decide (i < n) = true := decide_eq_true (by omega)
      have hi2 : (i : Int) + 1 ≤ 20 := by omega
      have HE := Aside0.mk (fs_take n i (by omega))
      clear hi
      go_wp2_with (go_at_call 10; refine (take_calls _ _ g _ _ HP.out (by intro j hj; cases hj)).mono ?_; rw [HE.out]; rintro e w3 ⟨rfl, hb, hk, hP⟩; have P3 := Aside0.mk hP; have B3 := Aside0.mk (HB.out.trans hb); clear hP hb hk)
      go_roundg k
      case measure => omega
      case rel => exact ⟨i + 1, by go_num, ⟨by have := HI.out; omega⟩, P3, B3⟩
    | zero =>
      have b1 : decide (i < n) = false := decide_eq_false (by omega)
      obtain rfl : i = n := by omega
      rw [fs_all] at HP
      have E1 := Aside0.mk (y0_seal i a a2 ha)
      have E2 := Aside0.mk (y1_drop i a a2 ha)
      have E3 := Aside0.mk (y2_find i a a2)
      have E4 := Aside0.mk (y2_forget i a a2)
      have E5 := Aside0.mk (y3_find i a a2)
      have E6 := Aside0.mk (y3_take i a)
      have E7 := Aside0.mk (y4_open i a ha)
      have L2 := Aside0.mk (show there (Y1 i a a2).pages (a : Int) = true → 0 ≤ (pg (Y1 i a a2).pages (a : Int)).f0 ∧ (pg (Y1 i a a2).pages (a : Int)).f0 ≤ 1000 from fun _ => by rw [show (Y1 i a a2).pages = but i a ⟨1, true, a2⟩ from rfl, but_pg]; show 0 ≤ (1 : Int) ∧ (1 : Int) ≤ 1000; omega)
      have L4 := Aside0.mk (show 0 ≤ iidx (a : Int) (Y2 i a a2).idle 0 → 0 ≤ (a : Int) ∧ (a : Int) < (Y2 i a a2).pages.length from fun _ => by rw [show (Y2 i a a2).pages = but i a ⟨0, true, a2⟩ from rfl, but_len i a _ ha]; omega)
      have C1 := Aside0.mk (cfre_but i a)
      have C2 := Aside0.mk (but_len i a z55 ha)
      have hi3 : 1 ≤ (i : Int) := by omega
      clear hi HI
      go_wp2_with (first
        | (go_at_call 16; refine (forget_calls _ _ g ⟨List.replicate i u1, []⟩ _ _ HP.out (fun k hk => Nat.le_trans HB.out.size hk) (fun h => absurd h (by show ¬ (0 : Int) ≤ -1; omega))).mono ?_; rw [y_forget]; rintro e w2 ⟨rfl, hb, _, hP⟩; have P2 := Aside0.mk (show PoolAt w.heap.size (fun k => w.heap.size ≤ k) w2 g (Y0 i) from hP); have B2 := Aside0.mk (HB.out.trans hb); clear hP hb HP HB)
        | (go_at_call 15; refine (seal_calls _ _ g (Y0 i) _ a2 _ P2.out).mono ?_; rw [E1.out]; rintro e w3 ⟨rfl, hb, _, hP⟩; have P3 := Aside0.mk hP; have B3 := Aside0.mk (B2.out.trans hb); clear hP hb P2 B2)
        | (go_at_call 16; refine (forget_calls _ _ g (Y1 i a a2) _ _ P3.out (fun k hk => Nat.le_trans B3.out.size hk) (fun h => absurd h (by show ¬ (0 : Int) ≤ -1; omega))).mono ?_; rw [show pForget (Y1 i a a2) (a : Int) = (Y1 i a a2, 8) from rfl]; rintro e w4 ⟨rfl, hb, _, hP⟩; have P4 := Aside0.mk hP; have B4 := Aside0.mk (B3.out.trans hb); clear hP hb P3 B3)
        | (go_at_call 13; refine (drop_calls _ _ g (Y1 i a a2) _ _ P4.out (fun k hk => Nat.le_trans B4.out.size hk) L2.out (fun _ => .inl (Nat.zero_le _))).mono ?_; rw [E2.out]; rintro e w5 ⟨rfl, hb, _, hP⟩; have P5 := Aside0.mk hP; have B5 := Aside0.mk (B4.out.trans hb); clear hP hb P4 B4)
        | (go_at_call 17; refine (find_at _ _ g (Y2 i a a2) a2 _ P5.out).mono ?_; rw [E3.out.1, E3.out.2]; rintro e w6 ⟨rfl, ⟨_, _, hP⟩, hb⟩; have P6 := Aside0.mk hP; have B6 := Aside0.mk (below_step B5.out hb); clear hP hb P5 B5)
        | (go_at_call 16; refine (forget_calls _ _ g (Y2 i a a2) _ _ P6.out (fun k hk => Nat.le_trans B6.out.size hk) L4.out).mono ?_; rw [E4.out]; rintro e w7 ⟨rfl, hb, _, hP⟩; have P7 := Aside0.mk hP; have B7 := Aside0.mk (B6.out.trans hb); clear hP hb P6 B6)
        | (go_at_call 16; refine (forget_calls _ _ g (Y3 i a) _ _ P7.out (fun k hk => Nat.le_trans B7.out.size hk) (fun h => absurd h (by show ¬ (0 : Int) ≤ -1; omega))).mono ?_; rw [show pForget (Y3 i a) (a : Int) = (Y3 i a, 8) from rfl]; rintro e w8 ⟨rfl, hb, _, hP⟩; have P8 := Aside0.mk hP; have B8 := Aside0.mk (B7.out.trans hb); clear hP hb P7 B7)
        | (go_at_call 17; refine (find_at _ _ g (Y3 i a) a2 _ P8.out).mono ?_; rw [E5.out.1, E5.out.2]; rintro e w9 ⟨rfl, ⟨_, _, hP⟩, hb⟩; have P9 := Aside0.mk hP; have B9 := Aside0.mk (below_step B8.out hb); clear hP hb P8 B8)
        | (go_at_call 14; refine (counts_at _ _ g (Y3 i a) _ P9.out).mono ?_; rw [show cfre (Y3 i a).pages = 1 from C1.out, show (Y3 i a).pages.length = i from C2.out, show (Y3 i a).idle.length = 0 from rfl]; rintro e w10 ⟨rfl, ⟨_, _, hP⟩, hb⟩; have P10 := Aside0.mk hP; have B10 := Aside0.mk (below_step B9.out hb); clear hP hb P9 B9)
        | (go_at_call 10; refine (take_calls _ _ g (Y3 i a) _ P10.out (by intro j hj; cases hj)).mono ?_; rw [E6.out]; rintro e w11 ⟨rfl, hb, _, hP⟩; have P11 := Aside0.mk hP; have B11 := Aside0.mk (B10.out.trans hb); clear hP hb P10 B10)
        | (go_at_call 8; refine (awake_calls _).mono ?_; rintro e w12 ⟨rfl, hb⟩; have P12 := Aside0.mk (P11.out.step hb); have B12 := Aside0.mk (below_step B11.out hb); clear hb P11 B11)
        | (go_at_call 18; refine (open_at _ _ g (Y4 i a) _ _ P12.out).mono ?_; rw [E7.out]; rintro e w13 ⟨rfl, rfl⟩))
      go_ret
      exact ⟨rfl, B12.out⟩
end Go.Proofs.Ytmbbaalpeomnlaa.OForgets
