/- NetFull, walked by hand. -/
import Derived.Test.YtmcdgachfkkpeaaONAwake
set_option linter.unusedVariables false
set_option linter.unusedSimpArgs false
namespace Go.Proofs.Ytmcdgachfkkpeaa.OFull
open Go.RowKit Go.Proofs.YtmcdgachfkkpeaaW.PrintWords Go.Proofs.YtmcdgachfkkpeaaW.PrintLast Go.Proofs.YtmcdgachfkkpeaaW.PrintMore Go.Proofs.Ytmcdgachfkkpeaa.GQ Go.Proofs.Ytmcdgachfkkpeaa.ONet
def tillerlaw16_NetFull.f (a0 a1 : Int) : Option Bool := if (-9223372036854775808 ≤ a0 ∧ a0 ≤ 9223372036854775807) ∧ (-9223372036854775808 ≤ a1 ∧ a1 ≤ 9223372036854775807) then some true else none
/-- The net behind i calls of Send. -/
def full (i : Nat) (s : Int) : NX → Prop := fun X => if s > 65536 then X.way = [] ∧ X.lost = 0 else X.way.length = min i 256 ∧ X.lost = (i : Int) - min i 256
theorem full_big {i s : Nat} {X : NX} (h : full i s X) (f : ByteArray) (hf : f.size = s) (tg : Int) (h0 : 0 ≤ tg) (h8 : tg < 8) (c : (s : Int) > 65536) : full (i + 1) s (nSend X tg f).1 ∧ (nSend X tg f).2 = 2 := by
  have e : nSend X tg f = (X, 2) := by unfold nSend; rw [if_neg (by omega), hf, if_pos c]
  rw [e]
  unfold full at h ⊢
  rw [if_pos c] at h ⊢
  exact ⟨h, rfl⟩
theorem full_more {i s : Nat} {X : NX} (h : full i s X) (f : ByteArray) (hf : f.size = s) (tg : Int) (h0 : 0 ≤ tg) (h8 : tg < 8) (c : ¬ (s : Int) > 65536) (d : 256 ≤ i) : full (i + 1) s (nSend X tg f).1 ∧ (nSend X tg f).2 = 10 := by
  unfold full at h
  rw [if_neg c] at h
  have e : nSend X tg f = (⟨X.way, X.lost + 1⟩, 10) := by unfold nSend; rw [if_neg (by omega), hf, if_neg c, if_pos (by omega)]
  rw [e]
  unfold full
  rw [if_neg c]
  refine ⟨⟨?_, ?_⟩, rfl⟩
  · show X.way.length = _
    omega
  · show X.lost + 1 = _
    omega
theorem full_room {i s : Nat} {X : NX} (h : full i s X) (f : ByteArray) (hf : f.size = s) (tg : Int) (h0 : 0 ≤ tg) (h8 : tg < 8) (c : ¬ (s : Int) > 65536) (d : i < 256) : full (i + 1) s (nSend X tg f).1 ∧ (nSend X tg f).2 = 0 := by
  unfold full at h
  rw [if_neg c] at h
  have e : nSend X tg f = (⟨X.way ++ [⟨tg, f, false⟩], X.lost⟩, 0) := by unfold nSend; rw [if_neg (by omega), hf, if_neg c, if_neg (by omega)]
  rw [e]
  unfold full
  rw [if_neg c]
  refine ⟨⟨?_, ?_⟩, rfl⟩
  · show (X.way ++ [_]).length = _
    rw [List.length_append, List.length_singleton]
    omega
  · show X.lost = _
    omega
theorem full_lost {i s : Nat} {X : NX} (h : full i s X) (hi : i ≤ 300) : 0 ≤ X.lost ∧ X.lost ≤ 1000000000 := by
  unfold full at h
  split at h <;> omega
theorem make_below {w w1 : World} (h : w.grownBy w1 none) : Below w.heap.size w w1 := (Below.refl w.heap.size w).grown h (Nat.le_refl _) (fun _ h => by cases h)
theorem zeros_size (n : Nat) : (strOfNums (List.replicate n 0)).size = n := by simp [strOfNums, ByteArray.size]
theorem zeros_string {base : Nat} {ok : Nat → Prop} {w : World} {v : Value} {n : Nat} (h : (Kd.int .u8).R 5 w base ok v (List.replicate n 0)) : (convert 28 9 v).run Try.prog w = .ok (.string (strOfNums (List.replicate n 0))) w := by
  obtain ⟨A, c, rfl, _, hc⟩ := Kd.R_reads h
  exact Kd.C_string rfl rfl rfl hc
set_option maxHeartbeats 16000000 in
set_option maxRecDepth 100000 in
theorem tillerlaw16_NetFull.calls (a0 a1 : Int) (r : Bool) (w : World) (hr_ : Aside0 (r = true)) (h : tillerlaw16_NetFull.f a0 a1 = some r) : Calls Try.prog 3 #[.int .i64 a0, .int .i64 a1] w fun e w' => e = .returned (.bool r) ∧ Below w.heap.size w w' := by
  obtain ⟨r_⟩ := hr_
  subst r_
  clear h
  by_cases c1 : a0 < 0
  · have d1 : decide (a0 < 0) = true := decide_eq_true c1
    clear c1
    go_enter Try.func3, Try.ntmps3
    go_wp2_with (go_at_call 8; refine (awake_calls _).mono ?_; rintro e w1 ⟨rfl, hb⟩)
    go_ret
    exact ⟨rfl, hb⟩
  have d1 : decide (a0 < 0) = false := decide_eq_false c1
  by_cases c2 : a0 > 300
  · have d2 : decide (a0 > 300) = true := decide_eq_true c2
    clear c1 c2
    go_enter Try.func3, Try.ntmps3
    go_wp2_with (go_at_call 8; refine (awake_calls _).mono ?_; rintro e w1 ⟨rfl, hb⟩)
    go_ret
    exact ⟨rfl, hb⟩
  have d2 : decide (a0 > 300) = false := decide_eq_false c2
  by_cases c3 : a1 < 0
  · have d3 : decide (a1 < 0) = true := decide_eq_true c3
    clear c1 c2 c3
    go_enter Try.func3, Try.ntmps3
    go_wp2_with (go_at_call 8; refine (awake_calls _).mono ?_; rintro e w1 ⟨rfl, hb⟩)
    go_ret
    exact ⟨rfl, hb⟩
  have d3 : decide (a1 < 0) = false := decide_eq_false c3
  by_cases c4 : a1 > 66000
  · have d4 : decide (a1 > 66000) = true := decide_eq_true c4
    clear c1 c2 c3 c4
    go_enter Try.func3, Try.ntmps3
    go_wp2_with (go_at_call 8; refine (awake_calls _).mono ?_; rintro e w1 ⟨rfl, hb⟩)
    go_ret
    exact ⟨rfl, hb⟩
  have d4 : decide (a1 > 66000) = false := decide_eq_false c4
  obtain ⟨n, rfl⟩ : ∃ n : Nat, a0 = (n : Int) := ⟨a0.toNat, (Int.toNat_of_nonneg (by omega)).symm⟩
  obtain ⟨s, rfl⟩ : ∃ s : Nat, a1 = (s : Int) := ⟨a1.toNat, (Int.toNat_of_nonneg (by omega)).symm⟩
  have hp : (n : Int) * (s : Int) ≤ 19800000 := by
    have h1 : (n : Int) * (s : Int) ≤ 300 * (s : Int) := Int.mul_le_mul_of_nonneg_right (by omega) (by omega)
    omega
  have hp0 : 0 ≤ (n : Int) * (s : Int) := Int.mul_nonneg (by omega) (by omega)
  by_cases c5 : (n : Int) * (s : Int) > 70000
  · have d5 : decide ((n : Int) * (s : Int) > 70000) = true := decide_eq_true c5
    clear c1 c2 c3 c4 c5
    go_enter Try.func3, Try.ntmps3
    go_wp2_with (go_at_call 8; refine (awake_calls _).mono ?_; rintro e w1 ⟨rfl, hb⟩)
    go_ret
    exact ⟨rfl, hb⟩
  have d5 : decide ((n : Int) * (s : Int) > 70000) = false := decide_eq_false c5
  have hn : n ≤ 300 := by omega
  have hs : s ≤ 66000 := by omega
  clear c1 c2 c3 c4 c5
  have P0 := Aside0.mk (NetAt.start w)
  have B0 := Aside0.mk (below_alloc (Below.refl w.heap.size w) (.cells #[.slice none 0 0, .int .i64 0] 25 (0, 0)))
  have F0 := Aside0.mk (show full 0 s ⟨[], 0⟩ by unfold full; split <;> simp)
  go_enter Try.func3, Try.ntmps3
  go_wp2
  go_loopg [6] n (fun kq v6 w' => ∃ (i : Nat) (X : NX), v6 = .int .i64 (i : Int) ∧ Aside0 (i + kq = n) ∧ Aside0 (full i s X) ∧ Aside0 (NetAt w.heap.size (from_ w.heap.size) w' w.heap.size X) ∧ Aside0 (Below w.heap.size w w'))
  case atStart => exact ⟨0, ⟨[], 0⟩, rfl, ⟨Nat.zero_add _⟩, F0, P0, B0⟩
  case round =>
    clear P0 B0 F0
    obtain ⟨i, X, rfl, HI, HX, HP, HB⟩ := hrel
    have hi := HI.out
    cases gk with
    | succ k =>
      have b1 : decide (i < n) = true := decide_eq_true (by omega)
      have hi2 : (i : Int) + 1 ≤ 300 := by omega
      have tq : 0 ≤ (i : Int) := by omega
      by_cases c : (s : Int) > 65536
      · have e1 : decide ((s : Int) > 65536) = true := decide_eq_true c
        have e1' : decide (s > 65536) = true := decide_eq_true (by omega)
        obtain ⟨Z, hZ⟩ : ∃ Z, Z = strOfNums (List.replicate s 0) := ⟨_, rfl⟩
        have zs : Z.size = s := by rw [hZ]; exact zeros_size s
        obtain ⟨tg, htg⟩ : ∃ tg : Int, tg = (i : Int).tmod 8 := ⟨_, rfl⟩
        have tg0 : 0 ≤ tg ∧ tg < 8 := by rw [htg]; exact ⟨Int.tmod_nonneg _ tq, Int.tmod_lt_of_pos _ (by decide)⟩
        obtain ⟨Y, hY⟩ : ∃ Y, Y = (nSend X tg Z).1 := ⟨_, rfl⟩
        obtain ⟨fy, ey⟩ := full_big HX.out Z zs tg tg0.1 tg0.2 c
        have FL := Aside0.mk (full_lost HX.out (by omega))
        rw [← hY] at fy
        have FY := Aside0.mk fy
        have EY := Aside0.mk ey
        have HZ := Aside0.mk hZ
        have HY := Aside0.mk hY
        have SZ := Aside0.mk HB.out.size
        have st : (i : Int).tmod 8 = tg := htg.symm
        clear hi zs tg0 fy ey hZ hY htg hp hp0 d1 d2 d3 d4 d5
        go_wp2_with (first
          | ((with_reducible refine gate_dst (N := 41) rfl ?_); refine Kd.R_make (Kd.int .u8) (w0 := w) w.heap.size 5 rfl (N := 41) rfl 28 (.tmp 40) (.tmp 40) rfl (s : Int) rfl rfl rfl (.int .u8 0) 1 (by kernel_rfl) rfl (by decide) (by decide) 0 (ok := fun _ => True) (okp := fun _ => True) rfl (fun _ hk => hk) trivial (by omega) (by omega) HB.out SZ.out ?_; intro v1 w1 ho hb hg hnew; simp only [Int.toNat_natCast] at ho; have cv := zeros_string ho; rw [← HZ.out] at cv; have PM := Aside0.mk (HP.out.step (make_below hg)); have BM := Aside0.mk hb; clear ho hb hg hnew)
          | (go_at_call 9; refine (send_calls _ _ w.heap.size X tg Z _ PM.out (up_ok BM.out) FL.out).mono ?_; rw [EY.out, ← HY.out]; rintro e w2 ⟨rfl, hb, _, hN⟩; have P2 := Aside0.mk hN; have B2 := Aside0.mk (BM.out.trans hb); clear hb hN))
        go_roundg k
        case measure => omega
        case rel => exact ⟨i + 1, Y, by go_num, ⟨by have := HI.out; omega⟩, FY, P2, B2⟩
      have e1 : decide ((s : Int) > 65536) = false := decide_eq_false c
      have e1' : decide (s > 65536) = false := decide_eq_false (by omega)
      by_cases d : 256 ≤ i
      · have e2 : decide ((i : Int) ≥ 256) = true := decide_eq_true (by omega)
        have e2' : decide (i ≥ 256) = true := decide_eq_true d
        obtain ⟨Z, hZ⟩ : ∃ Z, Z = strOfNums (List.replicate s 0) := ⟨_, rfl⟩
        have zs : Z.size = s := by rw [hZ]; exact zeros_size s
        obtain ⟨tg, htg⟩ : ∃ tg : Int, tg = (i : Int).tmod 8 := ⟨_, rfl⟩
        have tg0 : 0 ≤ tg ∧ tg < 8 := by rw [htg]; exact ⟨Int.tmod_nonneg _ tq, Int.tmod_lt_of_pos _ (by decide)⟩
        obtain ⟨Y, hY⟩ : ∃ Y, Y = (nSend X tg Z).1 := ⟨_, rfl⟩
        obtain ⟨fy, ey⟩ := full_more HX.out Z zs tg tg0.1 tg0.2 c d
        have FL := Aside0.mk (full_lost HX.out (by omega))
        rw [← hY] at fy
        have FY := Aside0.mk fy
        have EY := Aside0.mk ey
        have HZ := Aside0.mk hZ
        have HY := Aside0.mk hY
        have SZ := Aside0.mk HB.out.size
        have st : (i : Int).tmod 8 = tg := htg.symm
        clear hi zs tg0 fy ey hZ hY htg hp hp0 d1 d2 d3 d4 d5
        go_wp2_with (first
          | ((with_reducible refine gate_dst (N := 41) rfl ?_); refine Kd.R_make (Kd.int .u8) (w0 := w) w.heap.size 5 rfl (N := 41) rfl 28 (.tmp 40) (.tmp 40) rfl (s : Int) rfl rfl rfl (.int .u8 0) 1 (by kernel_rfl) rfl (by decide) (by decide) 0 (ok := fun _ => True) (okp := fun _ => True) rfl (fun _ hk => hk) trivial (by omega) (by omega) HB.out SZ.out ?_; intro v1 w1 ho hb hg hnew; simp only [Int.toNat_natCast] at ho; have cv := zeros_string ho; rw [← HZ.out] at cv; have PM := Aside0.mk (HP.out.step (make_below hg)); have BM := Aside0.mk hb; clear ho hb hg hnew)
          | (go_at_call 9; refine (send_calls _ _ w.heap.size X tg Z _ PM.out (up_ok BM.out) FL.out).mono ?_; rw [EY.out, ← HY.out]; rintro e w2 ⟨rfl, hb, _, hN⟩; have P2 := Aside0.mk hN; have B2 := Aside0.mk (BM.out.trans hb); clear hb hN))
        go_roundg k
        case measure => omega
        case rel => exact ⟨i + 1, Y, by go_num, ⟨by have := HI.out; omega⟩, FY, P2, B2⟩
      · have e2 : decide ((i : Int) ≥ 256) = false := decide_eq_false (by omega)
        have e2' : decide (i ≥ 256) = false := decide_eq_false d
        obtain ⟨Z, hZ⟩ : ∃ Z, Z = strOfNums (List.replicate s 0) := ⟨_, rfl⟩
        have zs : Z.size = s := by rw [hZ]; exact zeros_size s
        obtain ⟨tg, htg⟩ : ∃ tg : Int, tg = (i : Int).tmod 8 := ⟨_, rfl⟩
        have tg0 : 0 ≤ tg ∧ tg < 8 := by rw [htg]; exact ⟨Int.tmod_nonneg _ tq, Int.tmod_lt_of_pos _ (by decide)⟩
        obtain ⟨Y, hY⟩ : ∃ Y, Y = (nSend X tg Z).1 := ⟨_, rfl⟩
        obtain ⟨fy, ey⟩ := full_room HX.out Z zs tg tg0.1 tg0.2 c (by omega)
        have FL := Aside0.mk (full_lost HX.out (by omega))
        rw [← hY] at fy
        have FY := Aside0.mk fy
        have EY := Aside0.mk ey
        have HZ := Aside0.mk hZ
        have HY := Aside0.mk hY
        have SZ := Aside0.mk HB.out.size
        have st : (i : Int).tmod 8 = tg := htg.symm
        clear hi zs tg0 fy ey hZ hY htg hp hp0 d1 d2 d3 d4 d5
        go_wp2_with (first
          | ((with_reducible refine gate_dst (N := 41) rfl ?_); refine Kd.R_make (Kd.int .u8) (w0 := w) w.heap.size 5 rfl (N := 41) rfl 28 (.tmp 40) (.tmp 40) rfl (s : Int) rfl rfl rfl (.int .u8 0) 1 (by kernel_rfl) rfl (by decide) (by decide) 0 (ok := fun _ => True) (okp := fun _ => True) rfl (fun _ hk => hk) trivial (by omega) (by omega) HB.out SZ.out ?_; intro v1 w1 ho hb hg hnew; simp only [Int.toNat_natCast] at ho; have cv := zeros_string ho; rw [← HZ.out] at cv; have PM := Aside0.mk (HP.out.step (make_below hg)); have BM := Aside0.mk hb; clear ho hb hg hnew)
          | (go_at_call 9; refine (send_calls _ _ w.heap.size X tg Z _ PM.out (up_ok BM.out) FL.out).mono ?_; rw [EY.out, ← HY.out]; rintro e w2 ⟨rfl, hb, _, hN⟩; have P2 := Aside0.mk hN; have B2 := Aside0.mk (BM.out.trans hb); clear hb hN))
        go_roundg k
        case measure => omega
        case rel => exact ⟨i + 1, Y, by go_num, ⟨by have := HI.out; omega⟩, FY, P2, B2⟩
    | zero =>
      obtain rfl : i = n := by omega
      have b1 : decide (i < i) = false := decide_eq_false (by omega)
      have FX := HX.out
      unfold full at FX
      have L1 := Aside0.mk (full_lost HX.out (by omega))
      have E8 := Aside0.mk (show nSend X 8 ⟨#[]⟩ = (X, 1) by unfold nSend; rw [if_pos (by omega)])
      by_cases c : (s : Int) > 65536
      · have e1 : decide ((s : Int) > 65536) = true := decide_eq_true c
        have e1' : decide (s > 65536) = true := decide_eq_true (by omega)
        rw [if_pos c] at FX
        have X1 := Aside0.mk (show X.way.length = 0 by rw [FX.1]; rfl)
        have X2 := Aside0.mk FX.2
        clear hi hp hp0 d1 d2 d3 d4 d5 FX
        go_wp2_with (first
          | (go_at_call 8; refine (awake_calls _).mono ?_; rintro e w1 ⟨rfl, hb⟩; have P1 := Aside0.mk (HP.out.step hb); have B1 := Aside0.mk (below_step HB.out hb); clear hb)
          | (go_at_call 10; refine (len_calls _ _ w.heap.size X _ P1.out).mono ?_; rw [X1.out]; rintro e w4 ⟨rfl, rfl⟩)
          | (go_at_call 11; refine (lost_calls _ _ w.heap.size X _ P1.out).mono ?_; rw [X2.out]; rintro e w4 ⟨rfl, rfl⟩))
        go_ret
        exact ⟨rfl, B1.out⟩
      · have e1 : decide ((s : Int) > 65536) = false := decide_eq_false c
        have e1' : decide (s > 65536) = false := decide_eq_false (by omega)
        rw [if_neg c] at FX
        obtain ⟨M, hM⟩ : ∃ M : Int, M = min (i : Int) 256 := ⟨_, rfl⟩
        obtain ⟨D, hD⟩ : ∃ D : Int, D = max ((i : Int) - 256) 0 := ⟨_, rfl⟩
        have X1 := Aside0.mk (show (X.way.length : Int) = M by omega)
        have X2 := Aside0.mk (show X.lost = D by omega)
        have m1 : min (i : Int) 256 = M := hM.symm
        have m2 : max ((i : Int) - 256) 0 = D := hD.symm
        clear hi hp hp0 d1 d2 d3 d4 d5 FX hM hD
        go_wp2_with (first
          | (go_at_call 8; refine (awake_calls _).mono ?_; rintro e w1 ⟨rfl, hb⟩; have P1 := Aside0.mk (HP.out.step hb); have B1 := Aside0.mk (below_step HB.out hb); clear hb)
          | (go_at_call 10; refine (len_calls _ _ w.heap.size X _ P1.out).mono ?_; rw [X1.out]; rintro e w4 ⟨rfl, rfl⟩)
          | (go_at_call 11; refine (lost_calls _ _ w.heap.size X _ P1.out).mono ?_; rw [X2.out]; rintro e w4 ⟨rfl, rfl⟩)
          | (go_at_call 9; refine (send_calls _ _ w.heap.size X 8 (⟨#[]⟩ : ByteArray) _ P1.out (up_ok B1.out) L1.out).mono ?_; rw [E8.out]; rintro e w2 ⟨rfl, hb, _, hN⟩; have B2 := Aside0.mk (B1.out.trans hb); clear hb hN))
        all_goals (first | (go_ret; exact ⟨rfl, B2.out⟩) | (exfalso; omega) | skip)
end Go.Proofs.Ytmcdgachfkkpeaa.OFull
