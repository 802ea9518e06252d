/- NetCuts, walked by hand. -/
import Derived.Test.YtmcdgachfkkpeaaOOrder
import Derived.Test.YtmcdgachfkkpeaaONCut2
set_option linter.unusedVariables false
set_option linter.unusedSimpArgs false
namespace Go.Proofs.Ytmcdgachfkkpeaa.OCuts
open Go.RowKit Go.Proofs.YtmcdgachfkkpeaaW.PrintWords Go.Proofs.YtmcdgachfkkpeaaW.PrintLast Go.Proofs.YtmcdgachfkkpeaaW.PrintMore Go.Proofs.Ytmcdgachfkkpeaa.GQ Go.Proofs.Ytmcdgachfkkpeaa.ONet Go.Proofs.Ytmcdgachfkkpeaa.OOrder
def tillerlaw16_NetCuts.f (l0 : List ByteArray) (l1 : List Int) (a2 : Int) : Option Bool := if l0.length ≤ maxLen then some true else none
/-- What was sent, what stays. -/
def Sent (nd : Int) (ys xs : List PC) (gone i : Int) : Prop := xs = ys.filter (keeps nd) ∧ gone = (ys.length : Int) - (xs.length : Int) ∧ (ys.length : Int) ≤ i
theorem sent_gone {nd : Int} {ys xs : List PC} {gone i : Int} (h : Sent nd ys xs gone i) (f : ByteArray) : Sent nd (ys ++ [⟨nd, f, false⟩]) xs (gone + 1) (i + 1) := by
  obtain ⟨h1, h2, h3⟩ := h
  have e : (ys ++ [(⟨nd, f, false⟩ : PC)]).length = ys.length + 1 := by simp
  refine ⟨?_, by rw [e]; omega, by rw [e]; omega⟩
  rw [List.filter_append, ← h1, List.filter_cons_of_neg (by simp [keeps])]
  simp
theorem sent_stay {nd t : Int} {ys xs : List PC} {gone i : Int} (h : Sent nd ys xs gone i) (f : ByteArray) (ht : ¬ t = nd) : Sent nd (ys ++ [⟨t, f, false⟩]) (xs ++ [⟨t, f, false⟩]) gone (i + 1) := by
  obtain ⟨h1, h2, h3⟩ := h
  have e : (ys ++ [(⟨t, f, false⟩ : PC)]).length = ys.length + 1 := by simp
  have e2 : (xs ++ [(⟨t, f, false⟩ : PC)]).length = xs.length + 1 := by simp
  refine ⟨?_, by rw [e, e2]; omega, by rw [e]; omega⟩
  rw [List.filter_append, ← h1, List.filter_cons_of_pos (by simp [keeps, ht])]
  rfl
theorem sent_cut {nd : Int} {ys xs : List PC} {gone i : Int} (h : Sent nd ys xs gone i) : nCut ⟨ys, 0⟩ nd = (⟨xs, gone⟩, gone) := by
  obtain ⟨h1, h2, h3⟩ := h
  unfold nCut
  rw [← h1, ← h2]
  simp
theorem sent_again {nd : Int} {ys xs : List PC} {gone i : Int} (h : Sent nd ys xs gone i) : nCut ⟨xs, gone⟩ nd = (⟨xs, gone⟩, 0) := by
  obtain ⟨h1, h2, h3⟩ := h
  have e : xs.filter (keeps nd) = xs := by rw [h1, List.filter_filter]; simp
  unfold nCut
  show ((⟨xs.filter (keeps nd), gone + ((xs.length : Int) - ((xs.filter (keeps nd)).length : Int))⟩ : NX), (xs.length : Int) - ((xs.filter (keeps nd)).length : Int)) = _
  rw [e, Int.sub_self, Int.add_zero]
theorem sent_le {nd : Int} {ys xs : List PC} {gone i : Int} (h : Sent nd ys xs gone i) : xs.length ≤ ys.length ∧ 0 ≤ gone ∧ gone ≤ i := by
  obtain ⟨h1, h2, h3⟩ := h
  have h4 : xs.length ≤ ys.length := by rw [h1]; exact List.length_filter_le _ _
  omega
set_option maxHeartbeats 16000000 in
set_option maxRecDepth 100000 in
theorem tillerlaw16_NetCuts.calls (A0 : Option Addr) (c0 : Nat) (l0 : List ByteArray) (A1 : Option Addr) (c1 : Nat) (l1 : List Int) (nd : Int) (r : Bool) (w : World) (hr0 : Kd.C Kd.string w A0 l0.length l0) (hc0 : l0.length ≤ c0) (hr1 : Kd.C (Kd.int .i64) w A1 l1.length l1) (hc1 : l1.length ≤ c1) (hr_ : Aside0 (r = true)) (h : tillerlaw16_NetCuts.f l0 l1 nd = some r) : Calls Try.prog 6 #[.slice A0 l0.length c0, .slice A1 l1.length c1, .int .i64 nd] w fun e w' => e = .returned (.bool r) ∧ Below w.heap.size w w' := by
  obtain ⟨r_⟩ := hr_
  subst r_
  clear h
  have R0 := Aside0.mk hr0
  have R1 := Aside0.mk hr1
  have P0 := Aside0.mk (NetAt.start w)
  have B0 := Aside0.mk (below_alloc (Below.refl w.heap.size w) (.cells #[.slice none 0 0, .int .i64 0] 25 (0, 0)))
  clear hr0 hr1
  go_enter Try.func6, Try.ntmps6
  go_wp2
  obtain ⟨M, hM⟩ : ∃ M : Nat, M = min (min l0.length l1.length) 60 := ⟨_, rfl⟩
  have HM := Aside0.mk hM
  clear hM
  go_loopg [8, 9, 10] M (fun kq v8 v9 v10 w' => ∃ (i : Nat) (A : Option Addr) (c : Nat) (ys xs : List PC) (gone : Int), v10 = .int .i64 (i : Int) ∧ v9 = .int .i64 gone ∧ v8 = .slice A xs.length c ∧ Aside0 (i + kq = M) ∧ Aside0 (Sent nd ys xs gone i) ∧ Aside0 (NetAt w.heap.size (off w.heap.size (.slice A xs.length c)) w' w.heap.size ⟨ys, 0⟩) ∧ Aside0 (Row w.heap.size w' (.slice A xs.length c) xs) ∧ Aside0 (Below w.heap.size w w'))
  case atStart => exact ⟨0, _, _, [], [], 0, rfl, rfl, rfl, ⟨Nat.zero_add _⟩, ⟨rfl, rfl, Int.le_refl _⟩, ⟨start_net w⟩, ⟨start_row w⟩, ⟨B0.out.alloc B0.out.size _⟩⟩
  case round =>
    clear P0 B0
    obtain ⟨i, A, c, ys, xs, gone, rfl, rfl, rfl, HI, HS0, HP, HR, HB⟩ := hrel
    have hi := HI.out
    have hm := HM.out
    have hsl := sent_le HS0.out
    have hsi := HS0.out.2.2
    cases gk with
    | succ k =>
      have b1 : decide (i < l0.length) = true := decide_eq_true (by omega)
      have b3 : decide (i < l1.length) = true := decide_eq_true (by omega)
      have b2 : decide ((i : Int) < 60) = true := decide_eq_true (by omega)
      have b2' : decide (i < 60) = true := decide_eq_true (by omega)
      have hi2 : (i : Int) + 1 ≤ 60 := by omega
      have p1 : 0 ≤ (i : Int) := by omega
      have q1 : (i : Int) < (l0.length : Int) := by omega
      have q2 : (i : Int) < (l1.length : Int) := by omega
      have go0 : 0 ≤ gone := by omega
      have go1 : gone ≤ 60 := by omega
      have XL := Aside0.mk (show xs.length ≤ 60 by omega)
      obtain ⟨ad0, e0, hx⟩ := at_str R0.out i (by omega)
      obtain ⟨ad1, e1, hy⟩ := at_num R1.out i (by omega)
      cases e0
      cases e1
      obtain ⟨s, hs⟩ : ∃ s, str l0 i = s := ⟨_, rfl⟩
      obtain ⟨t, ht⟩ : ∃ t, num l1 i = t := ⟨_, rfl⟩
      rw [hs] at hx
      rw [ht] at hy
      have Y0 := Aside0.mk hy
      have LY := Aside0.mk (World.block_lt_of_cell? w _ hy)
      replace hx := (HB.out.cell (World.block_lt_of_cell? w _ hx)).trans hx
      replace hy := (HB.out.cell (World.block_lt_of_cell? w _ hy)).trans hy
      obtain ⟨f, hf⟩ : ∃ f, cut40 s = f := ⟨_, rfl⟩
      have FS := Aside0.mk (show f.size ≤ 40 by rw [← hf]; exact cut40_size s)
      have FC := Aside0.mk (show tillerlaw14_Cut.f s 40 = some f by rw [← hf]; exact cut40_eq s)
      by_cases c1 : 0 ≤ t ∧ t < 8
      · have ES := Aside0.mk (show nSend ⟨ys, 0⟩ t f = (⟨ys ++ [⟨t, f, false⟩], 0⟩, 0) from nSend_ok c1.1 c1.2 (by have := FS.out; omega) (show ys.length < 256 by omega))
        by_cases c2 : t = nd
        · have EQ := Aside0.mk c2
          have d2 : (t == nd) = true := beq_iff_eq.mpr c2
          clear hi hm hs ht hf c1 c2 hsl hsi
          go_wp2_with (first
            | (go_at_call 12; refine (tillerlaw14_Cut.calls s 40 f _ FC.out).mono ?_; rintro e w1 ⟨rfl, hd⟩; have hd1 := hd.below; have P1 := Aside0.mk (HP.out.step hd1); have B1 := Aside0.mk (below_step HB.out hd1); have W1 := Aside0.mk (HR.out.below hd1); replace hy := (B1.out.cell LY.out).trans Y0.out; clear hd hd1)
            | (go_at_call 9; refine (send_calls _ _ w.heap.size _ t f _ P1.out (W1.out.fresh B1.out.size) (show (0 : Int) ≤ 0 ∧ (0 : Int) ≤ 1000000000 by decide)).mono ?_; rw [ES.out]; rintro e w2 ⟨rfl, hb, hk, hN⟩; have P2 := Aside0.mk hN; have B2 := Aside0.mk (B1.out.trans hb); have W2 := Aside0.mk (W1.out.kept hk); replace hy := (B2.out.cell LY.out).trans Y0.out; have S2 := Aside0.mk B2.out.size; clear hb hk hN))
          go_roundg k
          case measure => omega
          case rel => exact ⟨i + 1, A, c, ys ++ [(⟨t, f, false⟩ : PC)], xs, gone + 1, by go_num, by go_num, rfl, ⟨by have := HI.out; omega⟩, ⟨by rw [EQ.out]; exact sent_gone HS0.out f⟩, P2, W2, B2⟩
        · have NQ := Aside0.mk c2
          have d2 : (t == nd) = false := beq_eq_false_iff_ne.mpr c2
          clear hi hm hs ht hf c1 c2 hsl hsi
          go_wp2_with (first
            | (go_at_call 12; refine (tillerlaw14_Cut.calls s 40 f _ FC.out).mono ?_; rintro e w1 ⟨rfl, hd⟩; have hd1 := hd.below; have P1 := Aside0.mk (HP.out.step hd1); have B1 := Aside0.mk (below_step HB.out hd1); have W1 := Aside0.mk (HR.out.below hd1); replace hy := (B1.out.cell LY.out).trans Y0.out; clear hd hd1)
            | (go_at_call 9; refine (send_calls _ _ w.heap.size _ t f _ P1.out (W1.out.fresh B1.out.size) (show (0 : Int) ≤ 0 ∧ (0 : Int) ≤ 1000000000 by decide)).mono ?_; rw [ES.out]; rintro e w2 ⟨rfl, hb, hk, hN⟩; have P2 := Aside0.mk hN; have B2 := Aside0.mk (B1.out.trans hb); have W2 := Aside0.mk (W1.out.kept hk); replace hy := (B2.out.cell LY.out).trans Y0.out; have S2 := Aside0.mk B2.out.size; clear hb hk hN)
            | ((with_reducible refine gate_builtin (b := .append) (xs := #[.tmp 53, .tmp 60]) rfl ?_); refine Kd.R_append kP (w0 := w) w.heap.size rfl (.tmp 53) (.tmp 60) 23 35 (.agg #[.int .i64 0, .string ⟨#[]⟩, .bool false]) 32 rfl Try.underlying23 info35 rfl (by decide) (by omega) (.slice A xs.length c) xs ⟨t, f, false⟩ [.int .i64 t, .string f, .bool false] (fun k => w.heap.size ≤ k) (fun _ => False) rfl rfl ?aP (fun _ hk => hk.elim) ?aF ?aO ?aB ?aS ?aL ?_; (case aP => exact k35_mkM _ _ _ ⟨t, f, false⟩); (case aF => exact fun k hk => Nat.le_trans S2.out hk); (case aO => exact W2.out); (case aB => exact B2.out); (case aS => exact S2.out); (case aL => have := XL.out; omega); intro v1 w3 ho hb hg hat; obtain ⟨A2, c2, rfl⟩ := Kd.R_slice ho; have W3 := Aside0.mk ho; have P3 := Aside0.mk (P2.out.grown hg hat); have B3 := Aside0.mk hb; clear ho hb hg hat))
          have hlen : (xs ++ [(⟨t, f, false⟩ : PC)]).length = xs.length + 1 := by simp
          go_roundg k
          case measure => omega
          case rel => exact ⟨i + 1, A2, c2, ys ++ [(⟨t, f, false⟩ : PC)], xs ++ [(⟨t, f, false⟩ : PC)], gone, by go_num, rfl, by rw [hlen], ⟨by have := HI.out; omega⟩, ⟨sent_stay HS0.out f NQ.out⟩, P3, ⟨W3.out⟩, B3⟩
      · have ES := Aside0.mk (show nSend ⟨ys, 0⟩ t f = (⟨ys, 0⟩, 1) from by unfold nSend; rw [if_pos (by omega)])
        clear hi hm hs ht hf c1 hsl hsi
        go_wp2_with (first
          | (go_at_call 12; refine (tillerlaw14_Cut.calls s 40 f _ FC.out).mono ?_; rintro e w1 ⟨rfl, hd⟩; have hd1 := hd.below; have P1 := Aside0.mk (HP.out.step hd1); have B1 := Aside0.mk (below_step HB.out hd1); have W1 := Aside0.mk (HR.out.below hd1); replace hy := (B1.out.cell LY.out).trans Y0.out; clear hd hd1)
          | (go_at_call 9; refine (send_calls _ _ w.heap.size _ t f _ P1.out (W1.out.fresh B1.out.size) (show (0 : Int) ≤ 0 ∧ (0 : Int) ≤ 1000000000 by decide)).mono ?_; rw [ES.out]; rintro e w2 ⟨rfl, hb, hk, hN⟩; have P2 := Aside0.mk hN; have B2 := Aside0.mk (B1.out.trans hb); have W2 := Aside0.mk (W1.out.kept hk); replace hy := (B2.out.cell LY.out).trans Y0.out; have S2 := Aside0.mk B2.out.size; clear hb hk hN))
        go_roundg k
        case measure => omega
        case rel => exact ⟨i + 1, A, c, ys, xs, gone, by go_num, rfl, rfl, ⟨by have := HI.out; omega⟩, ⟨HS0.out.1, HS0.out.2.1, by have := HS0.out.2.2; omega⟩, P2, W2, B2⟩
    | zero =>
      have hb : decide (i < l0.length) = false ∨ (decide (i < l0.length) = true ∧ decide (i < l1.length) = false) ∨ (decide (i < l0.length) = true ∧ decide (i < l1.length) = true ∧ decide ((i : Int) < 60) = false ∧ decide (i < 60) = false) := by
        by_cases h1 : i < l0.length
        · by_cases h2 : i < l1.length
          · exact .inr (.inr ⟨decide_eq_true h1, decide_eq_true h2, decide_eq_false (by omega), decide_eq_false (by omega)⟩)
          · exact .inr (.inl ⟨decide_eq_true h1, decide_eq_false h2⟩)
        · exact .inl (decide_eq_false h1)
      have CE := Aside0.mk (sent_cut HS0.out)
      have CA := Aside0.mk (sent_again HS0.out)
      have GL := Aside0.mk (show (0 : Int) ≤ gone ∧ gone ≤ 1000000000 by omega)
      have XL := Aside0.mk (show xs.length ≤ 60 by omega)
      clear hi hm hsl hsi
      rcases hb with b1 | ⟨b1, b3⟩ | ⟨b1, b3, b2, b2'⟩
      all_goals (
        go_wp2_with (first
          | (go_at_call 16; refine (cut_calls _ _ w.heap.size ⟨ys, 0⟩ nd _ HP.out (HR.out.fresh HB.out.size) (show (0 : Int) ≤ 0 ∧ (0 : Int) ≤ 1000000000 by decide)).mono ?_; rw [CE.out]; rintro e w1 ⟨rfl, hb, hk, hN⟩; have P1 := Aside0.mk hN; have B1 := Aside0.mk (HB.out.trans hb); have W1 := Aside0.mk (HR.out.kept hk); clear hb hk hN HP HR HB)
          | (go_at_call 11; refine (lost_calls _ _ w.heap.size _ _ P1.out).mono ?_; rintro e w4 ⟨rfl, rfl⟩)
          | (go_at_call 10; refine (len_calls _ _ w.heap.size _ _ P1.out).mono ?_; rintro e w4 ⟨rfl, rfl⟩)
          | (go_at_call 16; refine (cut_calls _ _ w.heap.size ⟨xs, gone⟩ nd _ P1.out (W1.out.fresh B1.out.size) GL.out).mono ?_; rw [CA.out]; rintro e w2 ⟨rfl, hb, hk, hN⟩; have P2 := Aside0.mk hN; have B2 := Aside0.mk (B1.out.trans hb); have W2 := Aside0.mk (W1.out.kept hk); clear hb hk hN P1 W1 B1))
        go_loopg [84] xs.length (fun kq v84 w' => ∃ (j : Nat), v84 = .int .i64 (j : Int) ∧ Aside0 (j + kq = xs.length) ∧ Aside0 (NetAt w.heap.size (off w.heap.size (.slice A xs.length c)) w' w.heap.size ⟨xs, gone⟩) ∧ Aside0 (Row w.heap.size w' (.slice A xs.length c) xs) ∧ Aside0 (Below w.heap.size w w'))
        case atStart => exact ⟨0, rfl, ⟨Nat.zero_add _⟩, P2, W2, B2⟩
        case round =>
          clear P2 W2 B2
          obtain ⟨j, rfl, HJ, HP, HR, HB⟩ := hrel
          have hj := HJ.out
          cases gk with
          | succ k =>
            have d1 : decide (j < xs.length) = true := decide_eq_true (by omega)
            have p1 : 0 ≤ (j : Int) := by omega
            have q1 : (j : Int) < (xs.length : Int) := by omega
            have x60 : (xs.length : Int) ≤ 60 := by have := XL.out; omega
            obtain ⟨_, _, ad, e0, hx0, hx1, hx2⟩ := HR.out.get j (by omega)
            cases e0
            obtain ⟨p, hp⟩ : ∃ p, pcl xs j = p := ⟨_, rfl⟩
            have NL := Aside0.mk (show nLook ⟨xs, gone⟩ (j : Int) = (p, 0) by rw [← hp]; unfold nLook; rw [if_neg (by show ¬ ((j : Int) < 0 ∨ (j : Int) ≥ (xs.length : Int)); omega)])
            rw [hp] at hx0 hx1 hx2
            have PB := Aside0.mk (HP.out.step (below_alloc (Below.refl _ _) (.cells (cellsP p) 35 (0, 0))))
            have KB := Aside0.mk (blk_new wr (.cells (cellsP p) 35 (0, 0)))
            have WB := Aside0.mk (HR.out.below (below_alloc (Below.refl _ _) (.cells (cellsP p) 35 (0, 0))))
            have BB := Aside0.mk (HB.out.alloc HB.out.size (.cells (cellsP p) 35 (0, 0)))
            clear hj hp
            go_wp2_with (first
              | (go_at_call 15; refine (look_calls _ _ w.heap.size _ (j : Int) _ PB.out).mono ?_; rw [NL.out]; simp only [aggP]; rintro e w1 ⟨rfl, hb⟩; have P2 := Aside0.mk (PB.out.step hb); have B2 := Aside0.mk (below_step BB.out hb); have K2 := Aside0.mk (blk_below KB.out hb); have W2 := Aside0.mk (WB.out.below hb); obtain ⟨y0, y1, y2⟩ := ONet.box3 (blk_alloc K2.out (.cells (cellsP p) 35 (0, 0))); simp only [cellsP] at y0 y1 y2; clear hb))
            go_roundg k
            case measure => omega
            case rel => exact ⟨j + 1, by go_num, ⟨by have := HJ.out; omega⟩, ⟨P2.out.step (below_alloc (Below.refl _ _) _)⟩, ⟨W2.out.below (below_alloc (Below.refl _ _) _)⟩, ⟨B2.out.alloc B2.out.size _⟩⟩
          | zero =>
            obtain rfl : j = xs.length := by omega
            have d1 : decide (xs.length < xs.length) = false := decide_eq_false (by omega)
            clear hj
            go_wp2_with (first
              | (go_at_call 8; refine (awake_calls _).mono ?_; rintro e w1 ⟨rfl, hb⟩; have B1 := Aside0.mk (below_step HB.out hb); clear hb))
            go_ret
            exact ⟨rfl, B1.out⟩)
end Go.Proofs.Ytmcdgachfkkpeaa.OCuts
