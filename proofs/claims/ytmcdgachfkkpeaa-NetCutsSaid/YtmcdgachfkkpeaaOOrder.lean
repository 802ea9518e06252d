/- NetOrder, walked by hand. -/
import Derived.Test.YtmcdgachfkkpeaaONRows
set_option linter.unusedVariables false
set_option linter.unusedSimpArgs false
namespace Go.Proofs.Ytmcdgachfkkpeaa.OOrder
open Go.RowKit Go.Proofs.YtmcdgachfkkpeaaW.PrintWords Go.Proofs.YtmcdgachfkkpeaaW.PrintLast Go.Proofs.YtmcdgachfkkpeaaW.PrintMore Go.Proofs.Ytmcdgachfkkpeaa.GQ Go.Proofs.Ytmcdgachfkkpeaa.ONet
def tillerlaw16_NetOrder.f (l0 : List ByteArray) (l1 : List Int) : Option Bool := if l0.length ≤ maxLen then some true else none
theorem start_net (w : World) : NetAt w.heap.size (off w.heap.size (.slice (some ⟨w.heap.size + 1, 0, none⟩) 0 0)) ((w.alloc (.cells #[.slice none 0 0, .int .i64 0] 25 (0, 0))).alloc (.cells #[] 35 (0, 0))) w.heap.size ⟨[], 0⟩ := by
  have h := (NetAt.start w).clear (.slice (some ⟨(w.alloc (.cells #[.slice none 0 0, .int .i64 0] 25 (0, 0))).heap.size, 0, none⟩) 0 0) (empty_own _) (.cells #[] 35 (0, 0))
  rwa [World.size_alloc] at h
theorem start_row (w : World) : Row w.heap.size ((w.alloc (.cells #[.slice none 0 0, .int .i64 0] 25 (0, 0))).alloc (.cells #[] 35 (0, 0))) (.slice (some ⟨w.heap.size + 1, 0, none⟩) 0 0) [] := by
  have h := Row.empty w.heap.size (w.alloc (.cells #[.slice none 0 0, .int .i64 0] 25 (0, 0))) (by rw [World.size_alloc]; omega)
  rwa [World.size_alloc] at h
theorem take_drop (xs : List PC) (j : Nat) (h : j < xs.length) : nTake ⟨xs.drop j, 0⟩ 0 = (⟨xs.drop (j + 1), 0⟩, pcl xs j, 0) := by
  unfold nTake
  rw [if_neg (by rw [List.length_drop]; omega)]
  have e1 : (xs.drop j).eraseIdx (0 : Int).toNat = xs.drop (j + 1) := by
    rw [List.drop_eq_getElem_cons h]
    rfl
  have e2 : pcl (xs.drop j) 0 = pcl xs j := by
    unfold pcl
    rw [List.drop_eq_getElem_cons h, Int.toNat_natCast]
    simp [h]
  rw [e1, e2]
theorem box3 {W : World} {b : Nat} {p : PC} (h2 : W.heap[b]? = some (.cells (cellsP p) 35 (0, 0))) :
    W.cell? ⟨b, 0, none⟩ = some (.int .i64 p.f0) ∧ W.cell? ⟨b, 1, none⟩ = some (.string p.f1) ∧ W.cell? ⟨b, 2, none⟩ = some (.bool p.f2) := by
  rw [blk_cell h2, blk_cell h2, blk_cell h2]
  exact ⟨rfl, rfl, rfl⟩
def cut40 (s : ByteArray) : ByteArray := if (s.size : Int) > 40 then s.extract 0 40 else s
theorem cut40_eq (s : ByteArray) : tillerlaw14_Cut.f s 40 = some (cut40 s) := by
  unfold tillerlaw14_Cut.f cut40
  by_cases h : (s.size : Int) > 40
  · rw [if_pos h, if_pos h, if_pos (by omega), if_pos (by omega)]
    rfl
  · rw [if_neg h, if_neg h]
theorem cut40_size (s : ByteArray) : (cut40 s).size ≤ 40 := by
  unfold cut40
  split
  · rw [ByteArray.size_extract]; omega
  · omega
def str (l : List ByteArray) (i : Nat) : ByteArray := l.getD i ⟨#[]⟩
def num (l : List Int) (i : Nat) : Int := l.getD i 0
theorem at_str {w : World} {A : Option Addr} {xs : List ByteArray} (h : Kd.C Kd.string w A xs.length xs) (i : Nat) (h1 : i < xs.length) : ∃ ad , A = some ad ∧ w.cell? (ad.add i) = some (.string (str xs i)) := by
  obtain ⟨ad, c, e, _, hK, hc0⟩ := Kd.C_get h (⟨#[]⟩ : ByteArray) (i : Int) (by omega) (by omega)
  have hK : c = [Value.string (str xs i)] := by simpa [Kd.string, Kd.scalar, str] using hK
  have h2 := hc0 0 (.string (str xs i)) (by rw [hK]; rfl)
  exact ⟨ad, e, by simpa [Kd.string, Kd.scalar] using h2⟩
theorem at_num {w : World} {A : Option Addr} {xs : List Int} (h : Kd.C (Kd.int .i64) w A xs.length xs) (i : Nat) (h1 : i < xs.length) : ∃ ad , A = some ad ∧ w.cell? (ad.add i) = some (.int .i64 (num xs i)) := by
  obtain ⟨ad, c, e, _, hK, hc0⟩ := Kd.C_get h (0 : Int) (i : Int) (by omega) (by omega)
  have hK : c = [Value.int .i64 (num xs i)] := by simpa [Kd.int, Kd.scalar, num] using hK
  have h2 := hc0 0 (.int .i64 (num xs i)) (by rw [hK]; rfl)
  exact ⟨ad, e, by simpa [Kd.int, Kd.scalar] using h2⟩
set_option maxHeartbeats 16000000 in
set_option maxRecDepth 100000 in
theorem tillerlaw16_NetOrder.calls (A0 : Option Addr) (c0 : Nat) (l0 : List ByteArray) (A1 : Option Addr) (c1 : Nat) (l1 : List Int) (r : Bool) (w : World) (hr0 : Kd.C Kd.string w A0 l0.length l0) (hc0 : l0.length ≤ c0) (hr1 : Kd.C (Kd.int .i64) w A1 l1.length l1) (hc1 : l1.length ≤ c1) (hr_ : Aside0 (r = true)) (h : tillerlaw16_NetOrder.f l0 l1 = some r) : Calls Try.prog 4 #[.slice A0 l0.length c0, .slice A1 l1.length c1] w fun e w' => e = .returned (.bool r) ∧ Below w.heap.size w w' := by
  obtain ⟨r_⟩ := hr_
  subst r_
  clear h
  have R0 := Aside0.mk hr0
  have R1 := Aside0.mk hr1
  have P0 := Aside0.mk (NetAt.start w)
  have B0 := Aside0.mk (below_alloc (Below.refl w.heap.size w) (.cells #[.slice none 0 0, .int .i64 0] 25 (0, 0)))
  clear hr0 hr1
  go_enter Try.func4, Try.ntmps4
  go_wp2
  obtain ⟨M, hM⟩ : ∃ M : Nat, M = min (min l0.length l1.length) 60 := ⟨_, rfl⟩
  have HM := Aside0.mk hM
  clear hM
  go_loopg [6, 7] M (fun kq v6 v7 w' => ∃ (i : Nat) (A : Option Addr) (c : Nat) (xs : List PC), v7 = .int .i64 (i : Int) ∧ v6 = .slice A xs.length c ∧ Aside0 (i + kq = M) ∧ Aside0 (xs.length ≤ i) ∧ Aside0 (NetAt w.heap.size (off w.heap.size (.slice A xs.length c)) w' w.heap.size ⟨xs, 0⟩) ∧ Aside0 (Row w.heap.size w' (.slice A xs.length c) xs) ∧ Aside0 (Below w.heap.size w w'))
  case atStart => exact ⟨0, _, _, [], rfl, rfl, ⟨Nat.zero_add _⟩, ⟨Nat.zero_le _⟩, ⟨start_net w⟩, ⟨start_row w⟩, ⟨B0.out.alloc B0.out.size _⟩⟩
  case round =>
    clear P0 B0
    obtain ⟨i, A, c, xs, rfl, rfl, HI, HL, HP, HR, HB⟩ := hrel
    have hi := HI.out
    have hm := HM.out
    cases gk with
    | succ k =>
      have b1 : decide (i < l0.length) = true := decide_eq_true (by omega)
      have b3 : decide (i < l1.length) = true := decide_eq_true (by omega)
      have b2 : decide ((i : Int) < 60) = true := decide_eq_true (by omega)
      have b2' : decide (i < 60) = true := decide_eq_true (by omega)
      have hi2 : (i : Int) + 1 ≤ 60 := by omega
      have p1 : 0 ≤ (i : Int) := by omega
      have q1 : (i : Int) < (l0.length : Int) := by omega
      have q2 : (i : Int) < (l1.length : Int) := by omega
      obtain ⟨ad0, e0, hx⟩ := at_str R0.out i (by omega)
      obtain ⟨ad1, e1, hy⟩ := at_num R1.out i (by omega)
      cases e0
      cases e1
      obtain ⟨s, hs⟩ : ∃ s, str l0 i = s := ⟨_, rfl⟩
      obtain ⟨t, ht⟩ : ∃ t, num l1 i = t := ⟨_, rfl⟩
      rw [hs] at hx
      rw [ht] at hy
      have Y0 := Aside0.mk hy
      have LY := Aside0.mk (World.block_lt_of_cell? w _ hy)
      replace hx := (HB.out.cell (World.block_lt_of_cell? w _ hx)).trans hx
      replace hy := (HB.out.cell (World.block_lt_of_cell? w _ hy)).trans hy
      obtain ⟨f, hf⟩ : ∃ f, cut40 s = f := ⟨_, rfl⟩
      have FS := Aside0.mk (show f.size ≤ 40 by rw [← hf]; exact cut40_size s)
      have FC := Aside0.mk (show tillerlaw14_Cut.f s 40 = some f by rw [← hf]; exact cut40_eq s)
      have HS := Aside0.mk HB.out.size
      by_cases c1 : 0 ≤ t ∧ t < 8
      · have ES := Aside0.mk (show nSend ⟨xs, 0⟩ t f = (⟨xs ++ [⟨t, f, false⟩], 0⟩, 0) from nSend_ok c1.1 c1.2 (by have := FS.out; omega) (show xs.length < 256 by have := HL.out; omega))
        have t1 : decide (0 ≤ t) = true := decide_eq_true c1.1
        have t2 : decide (t < 8) = true := decide_eq_true c1.2
        clear hi hm hs ht hf c1
        go_wp2_with (first
          | (go_at_call 12; refine (tillerlaw14_Cut.calls s 40 f _ FC.out).mono ?_; rintro e w1 ⟨rfl, hd⟩; have hd1 := hd.below; have P1 := Aside0.mk (HP.out.step hd1); have B1 := Aside0.mk (below_step HB.out hd1); have W1 := Aside0.mk (HR.out.below hd1); replace hy := (B1.out.cell LY.out).trans Y0.out; clear hd hd1)
          | (go_at_call 9; refine (send_calls _ _ w.heap.size _ t f _ P1.out (W1.out.fresh B1.out.size) (show (0 : Int) ≤ 0 ∧ (0 : Int) ≤ 1000000000 by decide)).mono ?_; rw [ES.out]; rintro e w2 ⟨rfl, hb, hk, hN⟩; have P2 := Aside0.mk hN; have B2 := Aside0.mk (B1.out.trans hb); have W2 := Aside0.mk (W1.out.kept hk); replace hy := (B2.out.cell LY.out).trans Y0.out; have S2 := Aside0.mk B2.out.size; clear hb hk hN)
          | ((with_reducible refine gate_builtin (b := .append) (xs := #[.tmp 59, .tmp 66]) rfl ?_); refine Kd.R_append kP (w0 := w) w.heap.size rfl (.tmp 59) (.tmp 66) 23 35 (.agg #[.int .i64 0, .string ⟨#[]⟩, .bool false]) 32 rfl Try.underlying23 info35 rfl (by decide) (by omega) (.slice A xs.length c) xs ⟨t, f, false⟩ [.int .i64 t, .string f, .bool false] (fun k => w.heap.size ≤ k) (fun _ => False) rfl rfl ?aP (fun _ hk => hk.elim) ?aF ?aO ?aB ?aS ?aL ?_; (case aP => exact k35_mkM _ _ _ ⟨t, f, false⟩); (case aF => exact fun k hk => Nat.le_trans S2.out hk); (case aO => exact W2.out); (case aB => exact B2.out); (case aS => exact S2.out); (case aL => have := HL.out; omega); intro v1 w3 ho hb hg hat; obtain ⟨A2, c2, rfl⟩ := Kd.R_slice ho; have W3 := Aside0.mk ho; have P3 := Aside0.mk (P2.out.grown hg hat); have B3 := Aside0.mk hb; clear ho hb hg hat))
        have hlen : (xs ++ [(⟨t, f, false⟩ : PC)]).length = xs.length + 1 := by simp
        go_roundg k
        case measure => omega
        case rel => exact ⟨i + 1, A2, c2, xs ++ [(⟨t, f, false⟩ : PC)], by go_num, by rw [hlen], ⟨by have := HI.out; omega⟩, ⟨by rw [hlen]; have := HL.out; omega⟩, P3, ⟨W3.out⟩, B3⟩
      · have ES := Aside0.mk (show nSend ⟨xs, 0⟩ t f = (⟨xs, 0⟩, 1) from by unfold nSend; rw [if_pos (by omega)])
        obtain ⟨tb, htb⟩ : ∃ tb, decide (0 ≤ t) = tb := ⟨_, rfl⟩
        obtain ⟨tc, htc⟩ : ∃ tc, decide (t < 8) = tc := ⟨_, rfl⟩
        have hbc : tb = false ∨ (tb = true ∧ tc = false) := by
          by_cases h0 : 0 ≤ t
          · right
            exact ⟨by rw [← htb]; exact decide_eq_true h0, by rw [← htc]; exact decide_eq_false (fun h => c1 ⟨h0, h⟩)⟩
          · left
            rw [← htb]
            exact decide_eq_false h0
        clear hi hm hs ht hf c1
        rcases hbc with rfl | ⟨rfl, rfl⟩
        all_goals (
          go_wp2_with (first
            | (go_at_call 12; refine (tillerlaw14_Cut.calls s 40 f _ FC.out).mono ?_; rintro e w1 ⟨rfl, hd⟩; have hd1 := hd.below; have P1 := Aside0.mk (HP.out.step hd1); have B1 := Aside0.mk (below_step HB.out hd1); have W1 := Aside0.mk (HR.out.below hd1); replace hy := (B1.out.cell LY.out).trans Y0.out; clear hd hd1)
            | (go_at_call 9; refine (send_calls _ _ w.heap.size _ t f _ P1.out (W1.out.fresh B1.out.size) (show (0 : Int) ≤ 0 ∧ (0 : Int) ≤ 1000000000 by decide)).mono ?_; rw [ES.out]; rintro e w2 ⟨rfl, hb, hk, hN⟩; have P2 := Aside0.mk hN; have B2 := Aside0.mk (B1.out.trans hb); have W2 := Aside0.mk (W1.out.kept hk); replace hy := (B2.out.cell LY.out).trans Y0.out; have S2 := Aside0.mk B2.out.size; clear hb hk hN))
          go_roundg k
          case measure => omega
          case rel => exact ⟨i + 1, A, c, xs, by go_num, rfl, ⟨by have := HI.out; omega⟩, ⟨by have := HL.out; omega⟩, P2, W2, B2⟩)
    | zero =>
      have hb : decide (i < l0.length) = false ∨ (decide (i < l0.length) = true ∧ decide (i < l1.length) = false) ∨ (decide (i < l0.length) = true ∧ decide (i < l1.length) = true ∧ decide ((i : Int) < 60) = false ∧ decide (i < 60) = false) := by
        by_cases h1 : i < l0.length
        · by_cases h2 : i < l1.length
          · exact .inr (.inr ⟨decide_eq_true h1, decide_eq_true h2, decide_eq_false (by omega), decide_eq_false (by omega)⟩)
          · exact .inr (.inl ⟨decide_eq_true h1, decide_eq_false h2⟩)
        · exact .inl (decide_eq_false h1)
      rcases hb with b1 | ⟨b1, b3⟩ | ⟨b1, b3, b2, b2'⟩
      all_goals (
        go_wp2
        go_loopg [70] xs.length (fun kq v70 w' => ∃ (j : Nat), v70 = .int .i64 (j : Int) ∧ Aside0 (j + kq = xs.length) ∧ Aside0 (NetAt w.heap.size (off w.heap.size (.slice A xs.length c)) w' w.heap.size ⟨xs.drop j, 0⟩) ∧ Aside0 (Row w.heap.size w' (.slice A xs.length c) xs) ∧ Aside0 (Below w.heap.size w w'))
        case atStart => exact ⟨0, rfl, ⟨Nat.zero_add _⟩, HP, HR, HB⟩
        case round =>
          clear HP HR HB
          obtain ⟨j, rfl, HJ, HP, HR, HB⟩ := hrel
          have hj := HJ.out
          cases gk with
          | succ k =>
            have d1 : decide (j < xs.length) = true := decide_eq_true (by omega)
            have p1 : 0 ≤ (j : Int) := by omega
            have q1 : (j : Int) < (xs.length : Int) := by omega
            have x60 : (xs.length : Int) ≤ 60 := by have := HL.out; have := HM.out; omega
            obtain ⟨_, _, ad, e0, hx0, hx1, hx2⟩ := HR.out.get j (by omega)
            cases e0
            have NT := Aside0.mk (take_drop xs j (by omega))
            obtain ⟨p, hp⟩ : ∃ p, pcl xs j = p := ⟨_, rfl⟩
            rw [hp] at hx0 hx1 hx2 NT
            have PB := Aside0.mk (HP.out.beside (.cells (cellsP p) 35 (0, 0)))
            have HS := Aside0.mk HB.out.size
            have FB := Aside0.mk (show ∀ k, (wr.alloc (.cells (cellsP p) 35 (0, 0))).heap.size ≤ k → off w.heap.size (.slice (some ad) xs.length c) k ∧ k ≠ wr.heap.size from fun k hk => by rw [World.size_alloc] at hk; exact ⟨HR.out.fresh HS.out k (by omega), by omega⟩)
            have KB := Aside0.mk (blk_new wr (.cells (cellsP p) 35 (0, 0)))
            have WB := Aside0.mk (HR.out.below (below_alloc (Below.refl _ _) (.cells (cellsP p) 35 (0, 0))))
            have BB := Aside0.mk (HB.out.alloc HS.out (.cells (cellsP p) 35 (0, 0)))
            clear hj hp
            go_wp2_with (first
              | (go_at_call 13; refine (take_calls _ _ w.heap.size _ 0 _ PB.out FB.out).mono ?_; rw [NT.out]; simp only [aggP]; rintro e w1 ⟨rfl, hb, hk, hN⟩; have P2 := Aside0.mk (hN.mono (fun k hk => hk.1)); have B2 := Aside0.mk (BB.out.trans hb); have K2 := Aside0.mk (blk_kept KB.out hk (fun hh => hh.2 rfl)); have W2 := Aside0.mk (WB.out.kept (hk.mono (fun k hk => hk.1))); obtain ⟨y0, y1, y2⟩ := box3 (blk_alloc K2.out (.cells (cellsP p) 35 (0, 0))); simp only [cellsP] at y0 y1 y2; clear hb hk hN))
            go_roundg k
            case measure => omega
            case rel => exact ⟨j + 1, by go_num, ⟨by have := HJ.out; omega⟩, ⟨P2.out.step (below_alloc (Below.refl _ _) _)⟩, ⟨W2.out.below (below_alloc (Below.refl _ _) _)⟩, ⟨B2.out.alloc B2.out.size _⟩⟩
          | zero =>
            obtain rfl : j = xs.length := by omega
            have d1 : decide (xs.length < xs.length) = false := decide_eq_false (by omega)
            have X1 := Aside0.mk (show (xs.drop xs.length).length = 0 by simp)
            clear hj
            go_wp2_with (first
              | (go_at_call 8; refine (awake_calls _).mono ?_; rintro e w1 ⟨rfl, hb⟩; have P1 := Aside0.mk (HP.out.step hb); have B1 := Aside0.mk (below_step HB.out hb); clear hb)
              | (go_at_call 10; refine (len_calls _ _ w.heap.size _ _ P1.out).mono ?_; rw [X1.out]; rintro e w4 ⟨rfl, rfl⟩)
              | (go_at_call 11; refine (lost_calls _ _ w.heap.size _ _ P1.out).mono ?_; rintro e w4 ⟨rfl, rfl⟩))
            go_ret
            exact ⟨rfl, B1.out⟩)
end Go.Proofs.Ytmcdgachfkkpeaa.OOrder
