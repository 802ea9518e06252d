/- NetTurned, walked by hand. -/
import Derived.Test.YtmcdgachfkkpeaaONBits
set_option linter.unusedVariables false
set_option linter.unusedSimpArgs false
namespace Go.Proofs.Ytmcdgachfkkpeaa.OTurned
open Go.RowKit Go.Proofs.YtmcdgachfkkpeaaW.PrintWords Go.Proofs.YtmcdgachfkkpeaaW.PrintLast Go.Proofs.YtmcdgachfkkpeaaW.PrintMore Go.Proofs.Ytmcdgachfkkpeaa.GQ Go.Proofs.Ytmcdgachfkkpeaa.ONet
def tillerlaw16_NetTurned.f (s : ByteArray) (a b : Int) : Option Bool := if (-9223372036854775808 ≤ a ∧ a ≤ 9223372036854775807) ∧ (0 ≤ b ∧ b < 4294967296) then some true else none
def cutTo (n : Int) (s : ByteArray) : ByteArray := if (s.size : Int) > n then s.extract 0 n.toNat else s
theorem cutTo_eq (n : Int) (h0 : 0 ≤ n) (s : ByteArray) : tillerlaw14_Cut.f s n = some (cutTo n s) := by
  unfold tillerlaw14_Cut.f cutTo
  by_cases h : (s.size : Int) > n
  · rw [if_pos h, if_pos h, if_pos h0, if_pos (by omega)]
  · rw [if_neg h, if_neg h]
theorem cutTo_size (n : Int) (h0 : 0 ≤ n) (s : ByteArray) : ((cutTo n s).size : Int) ≤ n := by
  unfold cutTo
  split
  · rw [ByteArray.size_extract]; omega
  · omega
theorem bytes_nums (bs : List Int) (h : wholeB bs) : bytesOf (strOfNums bs) = bs := by
  apply List.ext_getElem
  · simp [bytesOf, strOfNums]
  · intro j h1 h2
    have h3 := h j
    rw [List.getD_eq_getElem?_getD, List.getElem?_eq_getElem h2] at h3
    simp only [Option.getD_some] at h3
    simp [bytesOf, strOfNums]
    omega
theorem whole_bytes (s : ByteArray) : wholeB (bytesOf s) := fun j => by
  have h := bt_range s (j : Int)
  rw [← rd_bytesOf] at h
  unfold rd at h
  rw [Int.toNat_natCast] at h
  omega
theorem nums_size (bs : List Int) : (strOfNums bs).size = bs.length := by
  show (strOfNums bs).data.size = bs.length
  simp [strOfNums]
theorem turned_size (s : ByteArray) (a b : Int) : (turned s a b).size = s.size := by
  unfold turned
  rw [nums_size, tsteps_length, bytesOf_length]
theorem turned_bit (s : ByteArray) (a b : Int) (a0 : 0 ≤ a) (b0 : 0 ≤ b) (b1 : b < 4294967296) (i : Nat) (hi : i < 8 * s.size) :
    (bt (turned s a b) ((i / 8 : Nat) : Int) / 2 ^ (i % 8)) % 2 = if a ≤ (i : Int) ∧ (i : Int) < a + 32 ∧ (b / 2 ^ ((i : Int) - a).toNat) % 2 = 1 then 1 - (bt s ((i / 8 : Nat) : Int) / 2 ^ (i % 8)) % 2 else (bt s ((i / 8 : Nat) : Int) / 2 ^ (i % 8)) % 2 := by
  obtain ⟨hw, h⟩ := steps_bit (a := a) (b := b) (m := s.size) (whole_bytes s) (bytesOf_length s) a0 b0 b1 32
  have h1 := h i hi
  unfold bitAt at h1
  rw [← rd_bytesOf, ← rd_bytesOf]
  unfold turned rd
  rw [bytes_nums _ hw, Int.toNat_natCast]
  exact h1
/-- Bit i is the same, or it was asked. -/
theorem same_iff (s : ByteArray) (a b : Int) (a0 : 0 ≤ a) (b0 : 0 ≤ b) (b1 : b < 4294967296) (i : Nat) (hi : i < 8 * s.size) :
    ((bt (turned s a b) ((i / 8 : Nat) : Int) / 2 ^ (i % 8)) % 2 == (bt s ((i / 8 : Nat) : Int) / 2 ^ (i % 8)) % 2) = !decide (a ≤ (i : Int) ∧ (i : Int) < a + 32 ∧ (b / 2 ^ ((i : Int) - a).toNat) % 2 = 1) := by
  rw [turned_bit s a b a0 b0 b1 i hi]
  have h2 : (bt s ((i / 8 : Nat) : Int) / 2 ^ (i % 8)) % 2 = 0 ∨ (bt s ((i / 8 : Nat) : Int) / 2 ^ (i % 8)) % 2 = 1 := by omega
  by_cases c : a ≤ (i : Int) ∧ (i : Int) < a + 32 ∧ (b / 2 ^ ((i : Int) - a).toNat) % 2 = 1
  · rw [if_pos c, decide_eq_true c]
    rcases h2 with h2 | h2 <;> rw [h2] <;> rfl
  · rw [if_neg c, decide_eq_false c]
    simp
set_option maxHeartbeats 16000000 in
set_option maxRecDepth 100000 in
theorem tillerlaw16_NetTurned.calls (s0 : ByteArray) (a b : Int) (r : Bool) (w : World) (hr_ : Aside0 (r = true)) (h : tillerlaw16_NetTurned.f s0 a b = some r) : Calls Try.prog 5 #[.string s0, .int .i64 a, .int .u32 b] w fun e w' => e = .returned (.bool r) ∧ Below w.heap.size w w' := by
  obtain ⟨r_⟩ := hr_
  subst r_
  have hab : (-9223372036854775808 ≤ a ∧ a ≤ 9223372036854775807) ∧ (0 ≤ b ∧ b < 4294967296) := by
    unfold tillerlaw16_NetTurned.f at h
    split at h
    · assumption
    · cases h
  clear h
  obtain ⟨s, hs⟩ : ∃ s, cutTo 100 s0 = s := ⟨_, rfl⟩
  have FC := Aside0.mk (show tillerlaw14_Cut.f s0 100 = some s by rw [← hs]; exact cutTo_eq 100 (by decide) s0)
  obtain ⟨m, hm⟩ : ∃ m : Nat, s.size = m := ⟨_, rfl⟩
  have m100 : (m : Int) ≤ 100 := by have h1 := cutTo_size 100 (by decide) s0; rw [hs, hm] at h1; exact h1
  have m8 : 8 * (m : Int) ≤ 800 := by omega
  have E1 := Aside0.mk (show nSend ⟨[], 0⟩ 0 s = (⟨[⟨0, s, false⟩], 0⟩, 0) from nSend_ok (by decide) (by decide) (by omega) (show 0 < 256 by decide))
  have P0 := Aside0.mk (NetAt.start w)
  have B0 := Aside0.mk (below_alloc (Below.refl w.heap.size w) (.cells #[.slice none 0 0, .int .i64 0] 25 (0, 0)))
  have HB := Aside0.mk hab.2
  have FM := Aside0.mk hm
  have FZ := Aside0.mk (show (pcl (⟨[⟨0, s, false⟩], 0⟩ : NX).way 0).f1.size ≤ 65536 by show s.size ≤ 65536; omega)
  by_cases ha : a < 0 ∨ a ≥ 8 * (m : Int)
  · have E2 := Aside0.mk (show nTurn ⟨[⟨0, s, false⟩], 0⟩ 0 a b = (⟨[⟨0, s, false⟩], 0⟩, 1) by unfold nTurn; rw [if_neg (by show ¬ ((0 : Int) < 0 ∨ (0 : Int) ≥ ((1 : Nat) : Int)); omega), if_pos (by show a < 0 ∨ a ≥ 8 * ((s.size : Nat) : Int); rw [hm]; exact ha)])
    have E3 := Aside0.mk (show nLook ⟨[⟨0, s, false⟩], 0⟩ 0 = (⟨0, s, false⟩, 0) from rfl)
    have hd : decide (a < 0) = true ∨ (decide (a < 0) = false ∧ decide (a ≥ 8 * (m : Int)) = true) := by
      by_cases h0 : a < 0
      · exact .inl (decide_eq_true h0)
      · exact .inr ⟨decide_eq_false h0, decide_eq_true (by omega)⟩
    clear ha hs hab
    rcases hd with d1 | ⟨d1, d2⟩
    all_goals (
      go_enter Try.func5, Try.ntmps5
      go_wp2_with (first
        | (go_at_call 12; refine (tillerlaw14_Cut.calls s0 100 s _ FC.out).mono ?_; rintro e w1 ⟨rfl, hd⟩; have D1 := Aside0.mk hd.below; have P1 := Aside0.mk (NetAt.start w1); have B1 := Aside0.mk (hd.below.alloc D1.out.size (.cells #[.slice none 0 0, .int .i64 0] 25 (0, 0))); clear hd)
        | (go_at_call 9; go_loud (refine (send_calls _ _ w1.heap.size _ 0 s _ P1.out (up_ok (below_alloc (Below.refl w1.heap.size w1) _)) (show (0 : Int) ≤ 0 ∧ (0 : Int) ≤ 1000000000 by decide)).mono ?_); rw [E1.out]; rintro e w2 ⟨rfl, hb, _, hN⟩; have P2 := Aside0.mk hN; have B2 := Aside0.mk ((below_alloc (Below.refl w1.heap.size w1) (.cells #[.slice none 0 0, .int .i64 0] 25 (0, 0))).trans hb); clear hb hN)
        | (go_at_call 14; refine (turn_calls _ _ w1.heap.size _ 0 a b _ P2.out (up_ok B2.out) FZ.out HB.out).mono ?_; rw [E2.out]; rintro e w3 ⟨rfl, hb, _, hN⟩; have P3 := Aside0.mk hN; have B3 := Aside0.mk (B2.out.trans hb); clear hb hN)
        | (go_at_call 15; refine (look_calls _ _ w1.heap.size _ 0 _ P3.out).mono ?_; rw [E3.out]; simp only [aggP]; rintro e w4 ⟨rfl, hb⟩; have B4 := Aside0.mk (below_step B3.out hb); have K4 := Aside0.mk (blk_new w4 (.cells (cellsP ⟨0, s, false⟩) 35 (0, 0))); clear hb)
        | (go_at_call 8; refine (awake_calls _).mono ?_; rintro e w5 ⟨rfl, hb⟩; have B5 := Aside0.mk hb; obtain ⟨y0, y1, y2⟩ := box3 (p := ⟨0, s, false⟩) (blk_below K4.out hb); clear hb))
      go_ret
      exact ⟨rfl, below_step D1.out (below_step (B4.out.alloc B4.out.size _) B5.out)⟩)
  have a0 : 0 ≤ a := by omega
  have a1 : a < 8 * (m : Int) := by omega
  have d1 : decide (a < 0) = false := decide_eq_false (by omega)
  have d2 : decide (a ≥ 8 * (m : Int)) = false := decide_eq_false (by omega)
  obtain ⟨T, hT⟩ : ∃ T, turned s a b = T := ⟨_, rfl⟩
  have tm : T.size = m := by rw [← hT, turned_size]; exact hm
  have TB := Aside0.mk (show ∀ i : Nat, i < 8 * m → ((bt T ((i / 8 : Nat) : Int) / 2 ^ (i % 8)) % 2 == (bt s ((i / 8 : Nat) : Int) / 2 ^ (i % 8)) % 2) = !decide (a ≤ (i : Int) ∧ (i : Int) < a + 32 ∧ (b / 2 ^ ((i : Int) - a).toNat) % 2 = 1) from fun i hi => by rw [← hT]; exact same_iff s a b a0 hab.2.1 hab.2.2 i (by rw [hm]; exact hi))
  have E2 := Aside0.mk (show nTurn ⟨[⟨0, s, false⟩], 0⟩ 0 a b = (⟨[⟨0, T, true⟩], 0⟩, 0) by
    unfold nTurn
    rw [if_neg (by show ¬ ((0 : Int) < 0 ∨ (0 : Int) ≥ ((1 : Nat) : Int)); omega), if_neg (by show ¬ (a < 0 ∨ a ≥ 8 * ((s.size : Nat) : Int)); rw [hm]; exact ha), if_neg (by show ¬ (false = true); decide), ← hT]
    rfl)
  have E3 := Aside0.mk (show nLook ⟨[⟨0, T, true⟩], 0⟩ 0 = (⟨0, T, true⟩, 0) from rfl)
  have E4 := Aside0.mk (show nTurn ⟨[⟨0, T, true⟩], 0⟩ 0 a b = (⟨[⟨0, T, true⟩], 0⟩, 9) by
    unfold nTurn
    rw [if_neg (by show ¬ ((0 : Int) < 0 ∨ (0 : Int) ≥ ((1 : Nat) : Int)); omega), if_neg (by show ¬ (a < 0 ∨ a ≥ 8 * ((T.size : Nat) : Int)); rw [tm]; exact ha), if_pos (by show true = true; rfl)])
  have FT := Aside0.mk (show (pcl (⟨[⟨0, T, true⟩], 0⟩ : NX).way 0).f1.size ≤ 65536 by show T.size ≤ 65536; omega)
  have hb0 := hab.2.1
  have hb1 := hab.2.2
  clear ha hs hab hT
  go_enter Try.func5, Try.ntmps5
  go_wp2_with (first
    | (go_at_call 12; refine (tillerlaw14_Cut.calls s0 100 s _ FC.out).mono ?_; rintro e w1 ⟨rfl, hd⟩; have D1 := Aside0.mk hd.below; have P1 := Aside0.mk (NetAt.start w1); have B1 := Aside0.mk (hd.below.alloc D1.out.size (.cells #[.slice none 0 0, .int .i64 0] 25 (0, 0))); clear hd)
    | (go_at_call 9; refine (send_calls _ _ w1.heap.size _ 0 s _ P1.out (up_ok (below_alloc (Below.refl w1.heap.size w1) _)) (show (0 : Int) ≤ 0 ∧ (0 : Int) ≤ 1000000000 by decide)).mono ?_; rw [E1.out]; rintro e w2 ⟨rfl, hb, _, hN⟩; have P2 := Aside0.mk hN; have B2 := Aside0.mk ((below_alloc (Below.refl w1.heap.size w1) (.cells #[.slice none 0 0, .int .i64 0] 25 (0, 0))).trans hb); clear hb hN)
    | (go_at_call 14; refine (turn_calls _ _ w1.heap.size _ 0 a b _ P2.out (up_ok B2.out) FZ.out HB.out).mono ?_; rw [E2.out]; rintro e w3 ⟨rfl, hb, _, hN⟩; have P3 := Aside0.mk hN; have B3 := Aside0.mk (B2.out.trans hb); clear hb hN)
    | (go_at_call 15; refine (look_calls _ _ w1.heap.size _ 0 _ P3.out).mono ?_; rw [E3.out]; simp only [aggP]; rintro e w4 ⟨rfl, hb⟩; have B4 := Aside0.mk (below_step B3.out hb); have K4 := Aside0.mk (blk_new w4 (.cells (cellsP ⟨0, T, true⟩) 35 (0, 0))); have P4 := Aside0.mk ((P3.out.step hb).step (below_alloc (Below.refl _ _) (.cells (cellsP ⟨0, T, true⟩) 35 (0, 0)))); clear hb))
  go_loopg [11] (8 * m) (fun kq v11 w' => ∃ (i : Nat), v11 = .int .i64 (i : Int) ∧ Aside0 (i + kq = 8 * m) ∧ Aside0 (Below w1.heap.size w1 w') ∧ Aside0 (NetAt w1.heap.size (from_ w1.heap.size) w' w1.heap.size ⟨[⟨0, T, true⟩], 0⟩) ∧ Aside0 (w'.heap[w4.heap.size]? = some (.cells (cellsP ⟨0, T, true⟩) 35 (0, 0))))
  case atStart => exact ⟨0, rfl, ⟨Nat.zero_add _⟩, ⟨B4.out.alloc B4.out.size _⟩, P4, K4⟩
  case round =>
    clear P4 K4 P3 P2 P1
    obtain ⟨i, rfl, HI, HW, HP, HX⟩ := hrel
    have hi := HI.out
    obtain ⟨y0, y1, y2⟩ := box3 HX.out
    cases gk with
    | succ k =>
      have j1 : decide (i < 8 * m) = true := decide_eq_true (by omega)
      have j2 : decide ((i : Int) < 8 * (m : Int)) = true := decide_eq_true (by omega)
      have i800 : (i : Int) + 1 ≤ 800 := by omega
      have i0 : 0 ≤ (i : Int) := by omega
      obtain ⟨j, hj⟩ : ∃ j : Nat, i / 8 = j := ⟨_, rfl⟩
      obtain ⟨q, hq⟩ : ∃ q : Nat, i % 8 = q := ⟨_, rfl⟩
      have jm : j < m := by omega
      have f2 : (i : Int).tdiv 8 = (j : Int) := by rw [Int.tdiv_eq_ediv_of_nonneg (by omega)]; omega
      have f3 : (i : Int).tmod 8 = (q : Int) := by rw [Int.tmod_eq_emod_of_nonneg (by omega)]; omega
      have f6 : 0 ≤ (j : Int) := by omega
      have f7 : (j : Int) < (m : Int) := by omega
      have f8 : 0 ≤ (q : Int) := by omega
      have q8 : (q : Int) < 8 := by omega
      have TI := TB.out i (by omega)
      rw [hj, hq] at TI
      have g1 : ∀ h : j < T.size, ((T[j]'h).toNat : Int) = bt T (j : Int) := fun h => bt_at T (j : Int) h
      have g2 : ∀ h : j < s.size, ((s[j]'h).toNat : Int) = bt s (j : Int) := fun h => bt_at s (j : Int) h
      have TJ := Aside0.mk TI
      have f4 : IntKind.i64.wrap (j : Int) = (j : Int) := IntWalk.i64_in _ (by omega)
      have f5 : IntKind.i64.wrap (q : Int) = (q : Int) := IntWalk.i64_in _ (by omega)
      clear hi hj hq TI
      have tn : ∀ z : Int, 0 ≤ z → z.tmod 2 = z % 2 := fun z hz => Int.tmod_eq_emod_of_nonneg hz
      have z0 : ∀ z : Int, 0 ≤ z → 0 ≤ z / 2 ^ q := fun z hz => Int.ediv_nonneg hz (Int.pow_nonneg (by decide))
      have SM : ((bt T (j : Int) / 2 ^ q).tmod 2 == (bt s (j : Int) / 2 ^ q).tmod 2) = !decide (a ≤ (i : Int) ∧ (i : Int) < a + 32 ∧ (b / 2 ^ ((i : Int) - a).toNat) % 2 = 1) := by
        rw [tn _ (z0 _ (bt_range T _).1), tn _ (z0 _ (bt_range s _).1)]
        exact TJ.out
      clear tn z0
      by_cases c1 : a ≤ (i : Int)
      · have e1 : decide ((i : Int) ≥ a) = true := decide_eq_true c1
        obtain ⟨d, hd⟩ : ∃ d : Nat, (i : Int) - a = (d : Int) := ⟨((i : Int) - a).toNat, by omega⟩
        rw [hd, Int.toNat_natCast] at SM
        by_cases c2 : d < 32
        · have e2 : decide (d < 32) = true := decide_eq_true c2
          have e3 : (d : Int) < 32 := by omega
          have dn : (b / 2 ^ d).tmod 2 = (b / 2 ^ d) % 2 := Int.tmod_eq_emod_of_nonneg (Int.ediv_nonneg hb0 (Int.pow_nonneg (by decide)))
          by_cases c3 : (b / 2 ^ d) % 2 = 1
          · rw [decide_eq_true ⟨c1, (by omega : (i : Int) < a + 32), c3⟩] at SM
            have e4 : ((b / 2 ^ d).tmod 2 == 1) = true := by rw [dn]; exact beq_iff_eq.mpr c3
            have SM2 : ((bt T (j : Int) / 2 ^ q).tmod 2 == (bt s (j : Int) / 2 ^ q).tmod 2) = false := SM
            clear SM dn c1 c3
            go_wp2
            go_quiet (fail)
            go_wp2
            go_roundg k
            case measure => omega
            case rel => exact ⟨i + 1, by go_num, ⟨by have := HI.out; omega⟩, ⟨pw_below_drewN HW.out _⟩, ⟨HP.out.step (pw_below_drewN (Below.refl _ _) _)⟩, ⟨bkN HX.out _⟩⟩
          · rw [decide_eq_false (fun h => c3 h.2.2)] at SM
            have e4 : ((b / 2 ^ d).tmod 2 == 1) = false := by rw [dn]; exact beq_eq_false_iff_ne.mpr c3
            have SM2 : ((bt T (j : Int) / 2 ^ q).tmod 2 == (bt s (j : Int) / 2 ^ q).tmod 2) = true := SM
            clear SM dn c1 c3
            go_wp2
            go_quiet (fail)
            go_wp2
            go_roundg k
            case measure => omega
            case rel => exact ⟨i + 1, by go_num, ⟨by have := HI.out; omega⟩, ⟨pw_below_drewN HW.out _⟩, ⟨HP.out.step (pw_below_drewN (Below.refl _ _) _)⟩, ⟨bkN HX.out _⟩⟩
        · have e2 : decide (d < 32) = false := decide_eq_false c2
          rw [decide_eq_false (fun h => by omega)] at SM
          have SM2 : ((bt T (j : Int) / 2 ^ q).tmod 2 == (bt s (j : Int) / 2 ^ q).tmod 2) = true := SM
          clear SM c1
          go_wp2
          go_quiet (fail)
          go_wp2
          go_roundg k
          case measure => omega
          case rel => exact ⟨i + 1, by go_num, ⟨by have := HI.out; omega⟩, ⟨pw_below_drewN HW.out _⟩, ⟨HP.out.step (pw_below_drewN (Below.refl _ _) _)⟩, ⟨bkN HX.out _⟩⟩
      · have e1 : decide ((i : Int) ≥ a) = false := decide_eq_false c1
        rw [decide_eq_false (fun h => c1 h.1)] at SM
        have SM2 : ((bt T (j : Int) / 2 ^ q).tmod 2 == (bt s (j : Int) / 2 ^ q).tmod 2) = true := SM
        clear SM c1
        go_wp2
        go_quiet (fail)
        go_wp2
        go_roundg k
        case measure => omega
        case rel => exact ⟨i + 1, by go_num, ⟨by have := HI.out; omega⟩, ⟨pw_below_drewN HW.out _⟩, ⟨HP.out.step (pw_below_drewN (Below.refl _ _) _)⟩, ⟨bkN HX.out _⟩⟩
    | zero =>
      obtain rfl : i = 8 * m := by omega
      have j1 : decide (8 * m < 8 * m) = false := decide_eq_false (by omega)
      have HR := Aside0.mk HB.out
      clear hi
      go_wp2_with (first
        | (go_at_call 8; refine (awake_calls _).mono ?_; rintro e w5 ⟨rfl, hb⟩; have B5 := Aside0.mk (below_step HW.out hb); have P5 := Aside0.mk (HP.out.step hb); clear hb)
        | (go_at_call 14; refine (turn_calls _ _ w1.heap.size _ 0 a b _ P5.out (up_ok B5.out) FT.out HB.out).mono ?_; rw [E4.out]; rintro e w6 ⟨rfl, hb, _, hN⟩; have B6 := Aside0.mk (B5.out.trans hb); clear hb hN))
      go_ret
      exact ⟨rfl, below_step D1.out B6.out⟩
end Go.Proofs.Ytmcdgachfkkpeaa.OTurned
