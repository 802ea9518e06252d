/- PoolHolds, walked by hand: one page, held and dropped. -/
import Derived.Test.YtmbbaalpeomnlaaOAwake
set_option linter.unusedVariables false
set_option linter.unusedSimpArgs false
namespace Go.Proofs.Ytmbbaalpeomnlaa.OHolds
open Go.RowKit Go.Proofs.YtmbbaalpeomnlaaW.PrintWords Go.Proofs.YtmbbaalpeomnlaaW.PrintLast Go.Proofs.YtmbbaalpeomnlaaW.PrintMore Go.Proofs.Ytmbbaalpeomnlaa.OPool
attribute [local go_sem] max2_int min2_int max_two min_two max_three min_three max_four min_four
/-- One page that is needed so often. -/
def hx (k : Int) : PX := ⟨[⟨k, false, 0⟩], []⟩
theorem hx_page (k : Int) : pg (hx k).pages 0 = ⟨k, false, 0⟩ := rfl
theorem hx_there (k : Int) (h : 1 ≤ k) : there (hx k).pages 0 = true := by
  unfold there
  rw [hx_page, fre_0 (by show ¬ k = 0; omega)]
  rfl
theorem hx_none : there (hx 0).pages 0 = false := rfl
theorem hx_hold (k : Int) (h : 1 ≤ k) (h1 : k < 1000) : pHold (hx k) 0 = (hx (k + 1), 0) := by
  unfold pHold
  rw [if_pos (hx_there k h), hx_page, if_neg (by show ¬ k ≥ 1000; omega), if_neg (by show ¬ k = 0; omega)]
  rfl
theorem hx_full : pHold (hx 1000) 0 = (hx 1000, 2) := rfl
theorem hx_drop (k : Int) (h : 1 ≤ k) : pDrop (hx k) 0 = (hx (k - 1), 0) := by
  unfold pDrop
  rw [if_pos ⟨hx_there k h, by rw [hx_page]; show ¬ k = 0; omega⟩, hx_page]
  by_cases hp : k - 1 > 0
  · rw [if_pos hp]; rfl
  · rw [if_neg hp, if_neg (by show ¬ (false = true); decide)]; rfl
theorem hx_gone : pDrop (hx 0) 0 = (hx 0, 8) := rfl
theorem hx_refs (k : Int) (h : 1 ≤ k) : refsV (hx k).pages 0 = k := by rw [refs_yes (hx_there k h), hx_page]
theorem hx_free : cfre (hx 0).pages = 1 := rfl
theorem hx_fre (k : Int) (h : 1 ≤ k) : cfre (hx k).pages = 0 := by
  unfold cfre hx
  rw [List.countP_cons, List.countP_nil, fre_0 (by show ¬ k = 0; omega)]
  rfl
theorem one_hx : one1 = hx 1 := rfl
/-- How often the page is needed behind i calls. -/
def hd (i : Nat) : Int := if i < 999 then (i : Int) + 1 else 1000
def tillerlaw12_PoolHolds.f (a0 : Int) : Option Bool := if -9223372036854775808 ≤ a0 ∧ a0 ≤ 9223372036854775807 then some true else none
set_option maxHeartbeats 8000000 in
set_option maxRecDepth 100000 in
theorem tillerlaw12_PoolHolds.calls (a0 : Int) (r : Bool) (w : World) (hr_ : Aside0 (r = true)) (h : tillerlaw12_PoolHolds.f a0 = some r) : Calls Try.prog 3 #[.int .i64 a0] w fun e w' => e = .returned (.bool r) ∧ Below w.heap.size w w' := by
  obtain ⟨r_⟩ := hr_
  subst r_
  clear h
  by_cases hn : a0 < 0 ∨ a0 > 1100
  · have W : ∀ (d1 : Bool), True := fun _ => trivial
    rcases hn with hn | hn
    · have d1 : decide (a0 < 0) = true := decide_eq_true hn
      go_enter Try.func3, Try.ntmps3
      go_wp2_with (go_at_call 8; refine (awake_calls _).mono ?_; rintro e w1 ⟨rfl, hb⟩)
      go_ret
      exact ⟨rfl, hb⟩
    · have d1 : decide (a0 < 0) = false := decide_eq_false (by omega)
      have d2 : decide (a0 > 1100) = true := decide_eq_true hn
      go_enter Try.func3, Try.ntmps3
      go_wp2_with (go_at_call 8; refine (awake_calls _).mono ?_; rintro e w1 ⟨rfl, hb⟩)
      go_ret
      exact ⟨rfl, hb⟩
  obtain ⟨n, rfl⟩ : ∃ n : Nat, a0 = (n : Int) := ⟨a0.toNat, (Int.toNat_of_nonneg (by omega)).symm⟩
  have d1 : decide ((n : Int) < 0) = false := decide_eq_false (by omega)
  have d2 : decide ((n : Int) > 1100) = false := decide_eq_false (by omega)
  have hn1 : n ≤ 1100 := by omega
  clear hn
  go_enter Try.func3, Try.ntmps3
  go_wp2_with (first
    | (go_at_call 9; refine (new_ok 1 w (by decide) (by decide)).mono ?_; rintro e w1 ⟨g, rfl, hP, hb⟩; have P1 := Aside0.mk hP; have B1 := Aside0.mk hb; clear hP hb)
    | (go_at_call 10; refine (take_calls _ _ g _ _ P1.out (by intro i hi; cases hi)).mono ?_; rw [one_take, one_hx]; rintro e w2 ⟨rfl, hb, hk, hP⟩; have P2 := Aside0.mk hP; have B2 := Aside0.mk (B1.out.trans hb); clear hP hb hk P1 B1))
  go_loopg [5, 6] n (fun kq v5 v6 w' => ∃ (i : Nat) (h : Int), v5 = .int .i64 h ∧ v6 = .int .i64 (i : Int) ∧ Aside0 (i + kq = n) ∧ Aside0 (h = hd i) ∧ Aside0 (PoolAt w.heap.size (fun k => w.heap.size ≤ k) w' g (hx h)) ∧ Aside0 (Below w.heap.size w w'))
  case atStart => exact ⟨0, 1, rfl, rfl, ⟨Nat.zero_add _⟩, ⟨rfl⟩, P2, B2⟩
  case round =>
    clear P2 B2
    obtain ⟨i, h, rfl, rfl, HI, HH, HP, HB⟩ := hrel
    have hi := HI.out
    cases gk with
    | zero =>
      have b1 : decide (i < n) = false := decide_eq_false (by omega)
      obtain rfl : i = n := by omega
      have hcase : (i ≤ 999 ∧ h = (i : Int) + 1) ∨ (1000 ≤ i ∧ h = 1000) := by
        have hh := HH.out
        unfold hd at hh
        split at hh <;> omega
      clear hi
      rcases hcase with ⟨c1, rfl⟩ | ⟨c1, rfl⟩
      · have r1 := Aside0.mk (hx_refs ((i : Int) + 1) (by omega))
        have b2 : ¬ ((1000 : Int) < (i : Int) + 1) := by omega
        go_wp2_with (go_at_call 12; refine (refs_at _ _ g _ 0 _ HP.out).mono ?_; rw [r1.out]; rintro e w5 ⟨rfl, rfl⟩)
        obtain ⟨H, hH⟩ : ∃ H : Nat, (i : Int) + 1 = (H : Int) := ⟨i + 1, by omega⟩
        rw [hH] at HP
        have HHB : H ≤ 1000 := by omega
        rw [hH]
        clear HH r1 b2 c1 hH
        go_loopg [8] H (fun kq v8 w' => ∃ (i : Nat), v8 = .int .i64 (i : Int) ∧ Aside0 (i + kq = H) ∧ Aside0 (PoolAt w.heap.size (fun k => w.heap.size ≤ k) w' g (hx ((H : Int) - i))) ∧ Aside0 (Below w.heap.size w w'))
        case atStart => exact ⟨0, rfl, ⟨Nat.zero_add _⟩, ⟨by rw [show (H : Int) - ((0 : Nat) : Int) = H by omega]; exact HP.out⟩, HB⟩
        case round =>
          clear HP HB
          obtain ⟨i, rfl, HI, HP, HB⟩ := hrel
          have hi := HI.out
          cases gk with
          | zero =>
            have b1 : decide (i < H) = false := decide_eq_false (by omega)
            have e0 : (H : Int) - (i : Int) = 0 := by omega
            rw [e0] at HP
            have HL := Aside0.mk (show there (hx 0).pages 0 = true → 0 ≤ (pg (hx 0).pages 0).f0 ∧ (pg (hx 0).pages 0).f0 ≤ 1000 from fun _ => by decide)
            clear hi e0
            go_wp2_with (first
              | (go_at_call 14; refine (counts_at _ _ g _ _ HP.out).mono ?_; rw [hx_free]; rintro e w6 ⟨rfl, ⟨_, _, hP⟩, hb⟩; have P6 := Aside0.mk hP; have B6 := Aside0.mk (below_step HB.out hb); clear hP hb)
              | (go_at_call 8; refine (awake_calls _).mono ?_; rintro e w7 ⟨rfl, hb⟩; have P7 := Aside0.mk (P6.out.step hb); have B7 := Aside0.mk (below_step B6.out hb); clear hb)
              | (go_at_call 13; refine (drop_calls _ _ g _ 0 _ P7.out (fun k hk => Nat.le_trans B7.out.size hk) HL.out (.inl (Nat.zero_le _))).mono ?_; rw [hx_gone]; rintro e w8 ⟨rfl, hb, _, hP⟩; have B8 := Aside0.mk (B7.out.trans hb); clear hb hP))
            go_ret
            exact ⟨rfl, B8.out⟩
          | succ k =>
            have b1 : decide (i < H) = true := decide_eq_true (by omega)
            have HE := Aside0.mk (hx_drop ((H : Int) - i) (by omega))
            have HS := Aside0.mk (show (H : Int) - i - 1 = (H : Int) - ((i + 1 : Nat) : Int) by omega)
            have HL := Aside0.mk (show there (hx ((H : Int) - i)).pages 0 = true → 0 ≤ (pg (hx ((H : Int) - i)).pages 0).f0 ∧ (pg (hx ((H : Int) - i)).pages 0).f0 ≤ 1000 from fun _ => by rw [hx_page]; show 0 ≤ (H : Int) - i ∧ (H : Int) - i ≤ 1000; omega)
            have hi2 : (i : Int) + 1 ≤ 1000 := by omega
            clear hi
            go_wp2_with (go_at_call 13; refine (drop_calls _ _ g _ 0 _ HP.out (fun k hk => Nat.le_trans HB.out.size hk) HL.out (.inl (Nat.zero_le _))).mono ?_; rw [HE.out]; rintro e w3 ⟨rfl, hb, hk, hP⟩; rw [HS.out] at hP; have P3 := Aside0.mk hP; have B3 := Aside0.mk (HB.out.trans hb); clear hP hb hk)
            go_roundg k
            case measure => omega
            case rel => exact ⟨i + 1, by go_num, ⟨by have := HI.out; omega⟩, P3, B3⟩
      · have r1 := Aside0.mk (hx_refs 1000 (by omega))
        have b2 : (1000 : Int) < (i : Int) + 1 := by omega
        go_wp2_with (go_at_call 12; refine (refs_at _ _ g _ 0 _ HP.out).mono ?_; rw [r1.out]; rintro e w5 ⟨rfl, rfl⟩)
        obtain ⟨H, hH⟩ : ∃ H : Nat, (1000 : Int) = (H : Int) := ⟨1000, by omega⟩
        rw [hH] at HP
        have HHB : H ≤ 1000 := by omega
        rw [hH]
        clear HH r1 b2 c1 hH
        go_loopg [8] H (fun kq v8 w' => ∃ (i : Nat), v8 = .int .i64 (i : Int) ∧ Aside0 (i + kq = H) ∧ Aside0 (PoolAt w.heap.size (fun k => w.heap.size ≤ k) w' g (hx ((H : Int) - i))) ∧ Aside0 (Below w.heap.size w w'))
        case atStart => exact ⟨0, rfl, ⟨Nat.zero_add _⟩, ⟨by rw [show (H : Int) - ((0 : Nat) : Int) = H by omega]; exact HP.out⟩, HB⟩
        case round =>
          clear HP HB
          obtain ⟨i, rfl, HI, HP, HB⟩ := hrel
          have hi := HI.out
          cases gk with
          | zero =>
            have b1 : decide (i < H) = false := decide_eq_false (by omega)
            have e0 : (H : Int) - (i : Int) = 0 := by omega
            rw [e0] at HP
            have HL := Aside0.mk (show there (hx 0).pages 0 = true → 0 ≤ (pg (hx 0).pages 0).f0 ∧ (pg (hx 0).pages 0).f0 ≤ 1000 from fun _ => by decide)
            clear hi e0
            go_wp2_with (first
              | (go_at_call 14; refine (counts_at _ _ g _ _ HP.out).mono ?_; rw [hx_free]; rintro e w6 ⟨rfl, ⟨_, _, hP⟩, hb⟩; have P6 := Aside0.mk hP; have B6 := Aside0.mk (below_step HB.out hb); clear hP hb)
              | (go_at_call 8; refine (awake_calls _).mono ?_; rintro e w7 ⟨rfl, hb⟩; have P7 := Aside0.mk (P6.out.step hb); have B7 := Aside0.mk (below_step B6.out hb); clear hb)
              | (go_at_call 13; refine (drop_calls _ _ g _ 0 _ P7.out (fun k hk => Nat.le_trans B7.out.size hk) HL.out (.inl (Nat.zero_le _))).mono ?_; rw [hx_gone]; rintro e w8 ⟨rfl, hb, _, hP⟩; have B8 := Aside0.mk (B7.out.trans hb); clear hb hP))
            go_ret
            exact ⟨rfl, B8.out⟩
          | succ k =>
            have b1 : decide (i < H) = true := decide_eq_true (by omega)
            have HE := Aside0.mk (hx_drop ((H : Int) - i) (by omega))
            have HS := Aside0.mk (show (H : Int) - i - 1 = (H : Int) - ((i + 1 : Nat) : Int) by omega)
            have HL := Aside0.mk (show there (hx ((H : Int) - i)).pages 0 = true → 0 ≤ (pg (hx ((H : Int) - i)).pages 0).f0 ∧ (pg (hx ((H : Int) - i)).pages 0).f0 ≤ 1000 from fun _ => by rw [hx_page]; show 0 ≤ (H : Int) - i ∧ (H : Int) - i ≤ 1000; omega)
            have hi2 : (i : Int) + 1 ≤ 1000 := by omega
            clear hi
            go_wp2_with (go_at_call 13; refine (drop_calls _ _ g _ 0 _ HP.out (fun k hk => Nat.le_trans HB.out.size hk) HL.out (.inl (Nat.zero_le _))).mono ?_; rw [HE.out]; rintro e w3 ⟨rfl, hb, hk, hP⟩; rw [HS.out] at hP; have P3 := Aside0.mk hP; have B3 := Aside0.mk (HB.out.trans hb); clear hP hb hk)
            go_roundg k
            case measure => omega
            case rel => exact ⟨i + 1, by go_num, ⟨by have := HI.out; omega⟩, P3, B3⟩
    | succ k =>
      have b1 : decide (i < n) = true := decide_eq_true (by omega)
      by_cases hc : i < 999
      · have hh := HH.out
        unfold hd at hh
        rw [if_pos hc] at hh
        have h1 : 1 ≤ h := by omega
        have h2 : h < 1000 := by omega
        have he := hx_hold h h1 h2
        have HE := Aside0.mk he
        have HL := Aside0.mk (show there (hx h).pages 0 = true → 0 ≤ (pg (hx h).pages 0).f0 from fun _ => by rw [hx_page]; show 0 ≤ h; omega)
        have HZ := Aside0.mk (show there (hx h).pages 0 = true → (pg (hx h).pages 0).f0 = 0 → 0 ≤ iidx 0 (hx h).idle 0 from fun _ h0 => by rw [hx_page] at h0; have h0' : h = 0 := h0; omega)
        have HS := Aside0.mk (show h + 1 = hd (i + 1) by unfold hd; split <;> omega)
        clear he hh hi
        go_wp2_with (go_at_call 11; refine (hold_calls _ _ g _ 0 _ HP.out (fun k hk => Nat.le_trans HB.out.size hk) HZ.out HL.out).mono ?_; rw [HE.out]; rintro e w3 ⟨rfl, hb, hk, hP⟩; have P3 := Aside0.mk hP; have B3 := Aside0.mk (HB.out.trans hb); clear hP hb hk)
        go_roundg k
        case measure => omega
        case rel => exact ⟨i + 1, h + 1, rfl, by go_num, ⟨by have := HI.out; omega⟩, HS, P3, B3⟩
      · have hh := HH.out
        unfold hd at hh
        rw [if_neg hc] at hh
        subst hh
        have HL := Aside0.mk (show there (hx 1000).pages 0 = true → 0 ≤ (pg (hx 1000).pages 0).f0 from fun _ => by decide)
        have HZ := Aside0.mk (show there (hx 1000).pages 0 = true → (pg (hx 1000).pages 0).f0 = 0 → 0 ≤ iidx 0 (hx 1000).idle 0 from fun _ h0 => absurd h0 (by decide))
        have HS := Aside0.mk (show (1000 : Int) = hd (i + 1) by unfold hd; rw [if_neg (by omega)])
        have hi2 : (i : Int) + 1 ≤ 1100 := by omega
        clear hi
        go_wp2_with (go_at_call 11; refine (hold_calls _ _ g _ 0 _ HP.out (fun k hk => Nat.le_trans HB.out.size hk) HZ.out HL.out).mono ?_; rw [hx_full]; rintro e w3 ⟨rfl, hb, hk, hP⟩; have P3 := Aside0.mk hP; have B3 := Aside0.mk (HB.out.trans hb); clear hP hb hk)
        go_roundg k
        case measure => omega
        case rel => exact ⟨i + 1, 1000, rfl, by go_num, ⟨by have := HI.out; omega⟩, HS, P3, B3⟩
end Go.Proofs.Ytmbbaalpeomnlaa.OHolds
