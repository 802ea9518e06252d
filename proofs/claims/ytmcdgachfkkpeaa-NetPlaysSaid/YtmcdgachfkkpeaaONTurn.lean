/- (*Net).Turn, walked by hand. -/
import Derived.Test.YtmcdgachfkkpeaaONCut
import Derived.StillTailTactics
import Derived.IntWalk
set_option linter.unusedVariables false
set_option linter.unusedSimpArgs false
namespace Go.Proofs.Ytmcdgachfkkpeaa.ONet
open Go.RowKit Go.Proofs.YtmcdgachfkkpeaaW.PrintWords Go.Proofs.YtmcdgachfkkpeaaW.PrintLast Go.Proofs.YtmcdgachfkkpeaaW.PrintMore Go.Proofs.Ytmcdgachfkkpeaa.GQ
/-- A row of bytes of one's own, behind a conversion. -/
def BRow (W : World) (q : Nat) (bs : List Int) : Prop := ∃ C : Array Value, W.heap[q]? = some (.cells C 5 (C.size, C.size + 1)) ∧ bs.length ≤ C.size ∧ ∀ j, j < bs.length → C[j]? = some (.int .u8 (bs.getD j 0))
theorem BRow.below {W W' : World} {q : Nat} {bs : List Int} (h : BRow W q bs) (hb : Below W.heap.size W W') : BRow W' q bs := by
  obtain ⟨C, h1, h2, h3⟩ := h
  exact ⟨C, blk_below h1 hb, h2, h3⟩
theorem BRow.cell {W : World} {q : Nat} {bs : List Int} (h : BRow W q bs) (j : Nat) (hj : j < bs.length) : W.cell? ⟨q, j, none⟩ = some (.int .u8 (bs.getD j 0)) := by
  obtain ⟨C, h1, h2, h3⟩ := h
  rw [cell_of_row W q j C 5 _ h1]
  exact h3 j hj
theorem BRow.frozen {W : World} {q : Nat} {bs : List Int} (h : BRow W q bs) (j : Nat) (hj : j < bs.length) : W.frozen? ⟨q, j, none⟩ = false := by
  obtain ⟨C, h1, h2, h3⟩ := h
  have : ¬ C.size ≤ j := by omega
  simp [World.frozen?, h1, this]
theorem BRow.set {W : World} {q : Nat} {bs : List Int} (h : BRow W q bs) (i : Nat) (x : Int) : BRow (W.setCell ⟨q, i, none⟩ (.int .u8 x)) q (bs.set i x) := by
  obtain ⟨C, h1, h2, h3⟩ := h
  refine ⟨C.setIfInBounds i (.int .u8 x), ?_, by simpa using h2, ?_⟩
  · simp [World.setCell, Array.getElem?_modify, h1]
  · intro j hj
    rw [List.length_set] at hj
    rw [Array.getElem?_setIfInBounds]
    by_cases e : i = j
    · subst e
      rw [if_pos rfl, if_pos (by omega)]
      simp [List.getD_eq_getElem?_getD, hj]
    · rw [if_neg e, h3 j hj]
      simp [List.getD_eq_getElem?_getD, List.getElem?_set_ne e]
theorem BRow.far {W : World} {q : Nat} {bs : List Int} (h : BRow W q bs) {p : Addr} (hp : q ≠ p.block) (u : Value) : BRow (W.setCell p u) q bs := by
  obtain ⟨C, h1, h2, h3⟩ := h
  exact ⟨C, (Below.heap_setCell W p u q hp).trans h1, h2, h3⟩
theorem BRow.reads {W : World} {q : Nat} {bs : List Int} (h : BRow W q bs) (hm : bs.length ≤ 9223372036854775807) : ReadsInt W .u8 (some ⟨q, 0, none⟩) bs.length bs :=
  ⟨rfl, hm, fun _ => ⟨_, rfl, fun j hj => by rw [add_plain]; exact h.cell j hj⟩⟩
theorem BRow.new (W : World) (s : ByteArray) : BRow (Lib.bytesWorld W 5 s) W.heap.size (bytesOf s) := by
  refine ⟨_, Lib.bytesWorld_at_new W _ s, ?_, fun j hj => ?_⟩
  · rw [bytesOf_length]
    unfold Lib.bytesCells
    rw [Array.size_append, Array.size_map]
    exact Nat.le_add_right _ _
  · rw [bytesOf_length] at hj
    have h1 := Lib.bytesWorld_cell W 5 s j hj
    rw [cell_of_row _ _ j _ _ _ (Lib.bytesWorld_at_new W 5 s)] at h1
    rw [h1]
    have h' : j < s.data.toList.length := by rw [data_length]; exact hj
    simp [bytesOf, List.getD_eq_getElem?_getD, List.getElem?_eq_getElem h']
/-- A step: a bit of a byte is turned, if it is asked and there. -/
def tstep (a b : Int) (m k : Nat) (bs : List Int) : List Int :=
  if Go.bits .and .u32 (b / 2 ^ k) 1 = 1 ∧ a + (k : Int) < 8 * (m : Int) then bs.set ((a + (k : Int)).toNat / 8) (Go.bits .xor .u8 ((bs[(a + (k : Int)).toNat / 8]?).getD 0) (2 ^ ((a + (k : Int)).toNat % 8))) else bs
def tsteps (a b : Int) (m : Nat) : Nat → List Int → List Int
  | 0, bs => bs
  | k + 1, bs => tstep a b m k (tsteps a b m k bs)
theorem tsteps_length (a b : Int) (m : Nat) : ∀ (k : Nat) (bs : List Int), (tsteps a b m k bs).length = bs.length
  | 0, bs => rfl
  | k + 1, bs => by
    unfold tsteps tstep
    split
    · rw [List.length_set]; exact tsteps_length a b m k bs
    · exact tsteps_length a b m k bs
def turned (s : ByteArray) (a b : Int) : ByteArray := strOfNums (tsteps a b s.size 32 (bytesOf s))
def nTurn (X : NX) (i a b : Int) : NX × Int :=
  if i < 0 ∨ i ≥ X.way.length then (X, 8)
  else if a < 0 ∨ a ≥ 8 * ((pcl X.way i).f1.size : Int) then (X, 1)
  else if (pcl X.way i).f2 = true then (X, 9)
  else (⟨X.way.set i.toNat ⟨(pcl X.way i).f0, turned (pcl X.way i).f1 a b, true⟩, X.lost⟩, 0)
set_option maxHeartbeats 16000000 in
set_option maxRecDepth 100000 in
theorem turn_calls (base : Nat) (ok : Nat → Prop) (g : Nat) (X : NX) (i a b : Int) (w : World) (h : NetAt base ok w g X) (hfresh : ∀ k, w.heap.size ≤ k → ok k) (hs : (pcl X.way i).f1.size ≤ 65536) (hb : 0 ≤ b ∧ b < 4294967296) :
    Calls Try.prog 14 #[.pointer (some ⟨g, 0, none⟩), .int .i64 i, .int .i64 a, .int .u32 b] w fun e w' => e = .returned (.int .i64 (nTurn X i a b).2) ∧ Post base ok w w' g (nTurn X i a b).1 := by
  have hX := Aside0.mk h
  have HF := Aside0.mk hfresh
  have LT := Aside0.mk h.lt
  by_cases hi : i < 0 ∨ i ≥ X.way.length
  · have e0 : nTurn X i a b = (X, 8) := by unfold nTurn; rw [if_pos hi]
    have e1 : nLook X i = (z35, 8) := by unfold nLook; rw [if_pos hi]
    rw [e0]
    have E1 := Aside0.mk e1
    clear e0 e1 h hfresh hi hs hb
    go_enter Try.func14, Try.ntmps14
    go_wp2_with (first
      | (go_at_call 15; refine (look_calls _ _ g X i _ hX.out).mono ?_; rw [E1.out]; simp only [aggP, z35]; rintro e w1 ⟨rfl, hb⟩; have B1 := Aside0.mk hb; clear hb))
    go_ret
    exact ⟨rfl, hX.out.same (B1.out.alloc B1.out.size _)⟩
  have e1 : nLook X i = (pcl X.way i, 0) := by unfold nLook; rw [if_neg hi]
  have E1 := Aside0.mk e1
  have hn : i.toNat < X.way.length ∧ i = (i.toNat : Int) := by omega
  obtain ⟨p, hp⟩ : ∃ p, pcl X.way i = p := ⟨_, rfl⟩
  rw [hp] at E1 hs
  have HP := Aside0.mk hp
  have hs1 : (p.f1.size : Int) ≤ 65536 := by omega
  by_cases ha : a < 0 ∨ a ≥ 8 * (p.f1.size : Int)
  · have e0 : nTurn X i a b = (X, 1) := by unfold nTurn; rw [if_neg hi, hp, if_pos ha]
    rw [e0]
    clear e0 e1 h hfresh hi hs hb hp hn
    by_cases ha0 : a < 0
    · have d1 : decide (a < 0) = true := decide_eq_true ha0
      clear ha ha0
      go_enter Try.func14, Try.ntmps14
      go_wp2_with (first
        | (go_at_call 15; refine (look_calls _ _ g X i _ hX.out).mono ?_; rw [E1.out]; simp only [aggP]; rintro e w1 ⟨rfl, hb⟩; have B1 := Aside0.mk hb; clear hb))
      go_ret
      exact ⟨rfl, hX.out.same (B1.out.alloc B1.out.size _)⟩
    · have d1 : decide (a < 0) = false := decide_eq_false ha0
      have d2 : decide (a ≥ 8 * (p.f1.size : Int)) = true := decide_eq_true (by omega)
      have x1 : 8 * (p.f1.size : Int) ≤ 524288 := by omega
      clear ha ha0
      go_enter Try.func14, Try.ntmps14
      go_wp2_with (first
        | (go_at_call 15; refine (look_calls _ _ g X i _ hX.out).mono ?_; rw [E1.out]; simp only [aggP]; rintro e w1 ⟨rfl, hb⟩; have B1 := Aside0.mk hb; clear hb))
      go_ret
      exact ⟨rfl, hX.out.same (B1.out.alloc B1.out.size _)⟩
  have d1 : decide (a < 0) = false := decide_eq_false (by omega)
  have d2 : decide (a ≥ 8 * (p.f1.size : Int)) = false := decide_eq_false (by omega)
  by_cases ht : p.f2 = true
  · have e0 : nTurn X i a b = (X, 9) := by unfold nTurn; rw [if_neg hi, hp, if_neg ha, if_pos ht]
    rw [e0]
    clear e0 e1 h hfresh hi hs hb hp hn ha
    go_enter Try.func14, Try.ntmps14
    go_wp2_with (first
      | (go_at_call 15; refine (look_calls _ _ g X i _ hX.out).mono ?_; rw [E1.out]; simp only [aggP]; rintro e w1 ⟨rfl, hb⟩; have B1 := Aside0.mk hb; clear hb))
    go_ret
    exact ⟨rfl, hX.out.same (B1.out.alloc B1.out.size _)⟩
  have ht0 : p.f2 = false := by simpa using ht
  obtain ⟨ni, hni⟩ : ∃ ni : Nat, i = (ni : Int) := ⟨i.toNat, hn.2⟩
  subst hni
  have i0 : ni < X.way.length := by omega
  obtain ⟨T, hT⟩ : ∃ T, turned p.f1 a b = T := ⟨_, rfl⟩
  have e0 : nTurn X (ni : Int) a b = (⟨X.way.set ni ⟨p.f0, T, true⟩, X.lost⟩, 0) := by unfold nTurn; rw [if_neg hi, hp, if_neg ha, if_neg ht, hT, Int.toNat_natCast]
  rw [e0]
  obtain ⟨m, hm⟩ : ∃ m : Nat, p.f1.size = m := ⟨_, rfl⟩
  rw [hm] at hs hs1 ha
  have a0 : 0 ≤ a := by omega
  have a1 : a < 8 * (m : Int) := by omega
  have x1 : 8 * (m : Int) ≤ 524288 := by omega
  obtain ⟨f, hf⟩ : ∃ f, p.f1 = f := ⟨_, rfl⟩
  have HFm := Aside0.mk (And.intro hf hm)
  have HT := Aside0.mk (show strOfNums (tsteps a b m 32 (bytesOf f)) = T by rw [← hT, ← hf]; unfold turned; rw [hm])
  have HB := Aside0.mk hb
  have kb := fun W => print_bytes (P := Try.prog) 9 28 5 Try.underlying9 Try.underlying28 Try.underlying5 f W
  have fm : f.size = m := by rw [← hf]; exact hm
  rw [hf, fm] at d2
  have b0 := hb.1
  have b1 := hb.2
  obtain ⟨A, c, h1, h2, h3, h4, h5⟩ := h
  obtain ⟨_, hcap, hC⟩ := Kd.R_reads' h4
  have H1 := Aside0.mk h1
  have H23 := Aside0.mk (And.intro h2 (And.intro h3 h5))
  have LG := Aside0.mk (blk_lt h1)
  have HC := Aside0.mk hC
  have CL := Aside0.mk (Clone_eq X.way (by omega))
  have n1 : (X.way.length : Int) ≤ 256 := by omega
  clear e0 e1 hfresh hi hs hp ha ht hT hm hn h1 h2 h3 h4 h5 hC
  go_enter Try.func14, Try.ntmps14
  go_wp2_with (first
    | (go_at_call 15; refine (look_calls _ _ g X (ni : Int) _ hX.out).mono ?_; rw [E1.out]; simp only [aggP]; rw [hf, ht0]; rintro e w1 ⟨rfl, hb⟩; have B1 := Aside0.mk hb; clear hb))
  generalize grownCap (w1.alloc (.cells #[.int .i64 p.f0, .string f, .bool false] 35 (0, 0))) m 0 5 = cp
  have Q0 : Aside0 (BRow (Lib.bytesWorld (w1.alloc (.cells #[.int .i64 p.f0, .string f, .bool false] 35 (0, 0))) 5 f) (w1.heap.size + 1) (bytesOf f)) := ⟨by have h1 := BRow.new (w1.alloc (.cells #[.int .i64 p.f0, .string f, .bool false] 35 (0, 0))) f; rwa [World.size_alloc] at h1⟩
  have BA := Aside0.mk (B1.out.alloc B1.out.size (.cells #[.int .i64 p.f0, .string f, .bool false] 35 (0, 0)))
  have BW := Aside0.mk (bytes_below BA.out BA.out.size 5 f)
  have KX := Aside0.mk (blk_below (blk_new w1 (.cells #[.int .i64 p.f0, .string f, .bool false] 35 (0, 0))) (bytes_below (Below.refl _ _) (Nat.le_refl _) 5 f))
  have LW := Aside0.mk B1.out.size
  have ML := Aside0.mk (show (bytesOf f).length = m by rw [bytesOf_length]; exact fm)
  clear kb
  go_loopg [41] 32 (fun kq v41 w' => ∃ (k : Nat), v41 = .int .i64 (k : Int) ∧ Aside0 (k + kq = 32) ∧ Aside0 (Below w.heap.size w w') ∧ Aside0 (w'.heap[w1.heap.size]? = some (.cells #[.int .i64 p.f0, .string f, .bool false] 35 (0, 0))) ∧ Aside0 (BRow w' (w1.heap.size + 1) (tsteps a b m k (bytesOf f))))
  case atStart => exact ⟨0, rfl, ⟨Nat.zero_add _⟩, BW, KX, Q0⟩
  case round =>
    clear Q0 BA BW KX
    obtain ⟨k, rfl, HK, HW, HX, HQ⟩ := hrel
    have hk := HK.out
    cases gk with
    | succ q =>
      have k32 : decide ((k : Int) < 32) = true := decide_eq_true (by omega)
      have k32' : decide (k < 32) = true := decide_eq_true (by omega)
      have k0 : 0 ≤ (k : Int) := by omega
      have k31 : (k : Int) + 1 ≤ 32 := by omega
      have s1 : 0 ≤ a + (k : Int) := by omega
      clear hk
      obtain ⟨bs, hbs⟩ : ∃ bs, tsteps a b m k (bytesOf f) = bs := ⟨_, rfl⟩
      have hst : tsteps a b m (k + 1) (bytesOf f) = tstep a b m k bs := by rw [← hbs]; rfl
      have BS := Aside0.mk hbs
      have ST := Aside0.mk hst
      have BL := Aside0.mk (show bs.length = m by rw [← hbs, tsteps_length]; exact ML.out)
      rw [hbs] at HQ
      clear hbs hst
      by_cases c1 : Go.bits .and .u32 (b / 2 ^ k) 1 = 1
      · by_cases c2 : a + (k : Int) < 8 * (m : Int)
        · obtain ⟨t, ht⟩ : ∃ t : Nat, (a + (k : Int)).toNat = t := ⟨_, rfl⟩
          have hat : a + (k : Int) = (t : Int) := by omega
          have TT := Aside0.mk (And.intro ht hat)
          have E3 := Aside0.mk (show tstep a b m k bs = bs.set (t / 8) (Go.bits .xor .u8 ((bs[t / 8]?).getD 0) (2 ^ (t % 8))) by unfold tstep; rw [if_pos ⟨c1, c2⟩, ht])
          obtain ⟨j, hj⟩ : ∃ j : Nat, t / 8 = j := ⟨_, rfl⟩
          obtain ⟨r, hr⟩ : ∃ r : Nat, t % 8 = r := ⟨_, rfl⟩
          rw [hj, hr] at E3
          have jm : j < m := by omega
          have r8 : r < 8 := by omega
          have q0 := HQ.out.cell j (by rw [BL.out]; exact jm)
          have q1 := HQ.out.frozen j (by rw [BL.out]; exact jm)
          have f1 : IntKind.i64.wrap (a + (k : Int)) = a + (k : Int) := IntWalk.i64_in _ (by omega)
          have f2 : (a + (k : Int)).tdiv 8 = (j : Int) := by rw [hat, Int.tdiv_eq_ediv_of_nonneg (by omega)]; omega
          have f3 : (a + (k : Int)).tmod 8 = (r : Int) := by rw [hat, Int.tmod_eq_emod_of_nonneg (by omega)]; omega
          have f4 : IntKind.i64.wrap (j : Int) = (j : Int) := IntWalk.i64_in _ (by omega)
          have f5 : IntKind.i64.wrap (r : Int) = (r : Int) := IntWalk.i64_in _ (by omega)
          have f6 : 0 ≤ (j : Int) := by omega
          have f7 : (j : Int) < (m : Int) := by omega
          have f8 : 0 ≤ (r : Int) := by omega
          have f9 : (j : Int).toNat = j := Int.toNat_natCast j
          have f10 : (r : Int).toNat = r := Int.toNat_natCast r
          have f11 : IntKind.u8.wrap (2 ^ r) = 2 ^ r := by
            have hc : r = 0 ∨ r = 1 ∨ r = 2 ∨ r = 3 ∨ r = 4 ∨ r = 5 ∨ r = 6 ∨ r = 7 := by omega
            rcases hc with rfl | rfl | rfl | rfl | rfl | rfl | rfl | rfl <;> rfl
          clear ht hat hj hr
          go_wp2
          go_still_tail 10, (by kernel_rfl)
          change wpList _ _ _ _ _ wr.drew
          have q2 : wr.drew.frozen? ⟨w1.heap.size + 1, j, none⟩ = false := q1
          have q3 : wr.drew.cell? ⟨w1.heap.size + 1, j, none⟩ = _ := q0
          go_wp2
          go_roundg q
          case measure => omega
          case rel => exact ⟨k + 1, by go_num, ⟨by have := HK.out; omega⟩, ⟨HW.out.drew.setCell (show w.heap.size ≤ w1.heap.size + 1 by have := LW.out; omega) _⟩, ⟨blk_far (p := ⟨w1.heap.size + 1, j, none⟩) (bkD HX.out) (show w1.heap.size ≠ w1.heap.size + 1 by omega) _⟩, ⟨by rw [ST.out, E3.out]; exact BRow.set (W := wr.drew) HQ.out j _⟩⟩
        · have E3 := Aside0.mk (show tstep a b m k bs = bs by unfold tstep; rw [if_neg (fun h => c2 h.2)])
          have d5 : ¬ a + (k : Int) < 8 * (m : Int) := c2
          have d6 : decide (a + (k : Int) < 8 * (m : Int)) = false := decide_eq_false c2
          go_wp2
          go_roundg q
          case measure => omega
          case rel => exact ⟨k + 1, by go_num, ⟨by have := HK.out; omega⟩, HW, HX, ⟨by rw [ST.out, E3.out]; exact HQ.out⟩⟩
      · have E3 := Aside0.mk (show tstep a b m k bs = bs by unfold tstep; rw [if_neg (fun h => c1 h.1)])
        have d5 : (Go.bits .and .u32 (b / 2 ^ k) 1 == 1) = false := beq_eq_false_iff_ne.mpr c1
        go_wp2
        go_roundg q
        case measure => omega
        case rel => exact ⟨k + 1, by go_num, ⟨by have := HK.out; omega⟩, HW, HX, ⟨by rw [ST.out, E3.out]; exact HQ.out⟩⟩
    | zero =>
      obtain rfl : k = 32 := by omega
      obtain ⟨bs, hbs⟩ : ∃ bs, tsteps a b m 32 (bytesOf f) = bs := ⟨_, rfl⟩
      have BL := Aside0.mk (show bs.length = m by rw [← hbs, tsteps_length]; exact ML.out)
      have HT2 := HT.out
      rw [hbs] at HQ HT2
      have TT := Aside0.mk HT2
      have k32 : decide ((32 : Int) < 32) = false := rfl
      have G0 := Aside0.mk (blk_below H1.out HW.out)
      have g0 := blk_cell G0.out 0
      have g1 := blk_frozen G0.out 0
      simp at g0
      clear hk HT2 hbs HT
      go_wp2_with (first
        | (go_at_call 20; refine (net_Parcel_20.calls A c X.way X.way _ (Kd.C_below HC.out HW.out) hcap CL.out).mono ?_; rintro e w3 ⟨v0, rfl, hR, hb3⟩; obtain ⟨g4, c4, rfl, hg4, hg5, _⟩ := Kd.R_form hR (by omega); have R3 := Aside0.mk hR; have B3 := Aside0.mk hb3; have L4 := Aside0.mk hg4; have G3 := Aside0.mk (blk_below G0.out hb3); have g2 := blk_cell G3.out 0; have g3 := blk_frozen G3.out 0; simp at g2; clear hR hb3 hg4 hg5 g0 g1))
      clear g2 g3
      have S1 := B1.out.size
      have S2 := HW.out.size
      have LGo := LG.out
      have BQ : BRow (w3.setCell ⟨g, 0, none⟩ (.slice (some ⟨g4, 0, none⟩) X.way.length c4)) (w1.heap.size + 1) bs := (HQ.out.below B3.out).far (show w1.heap.size + 1 ≠ g by omega) _
      have BX : (w3.setCell ⟨g, 0, none⟩ (.slice (some ⟨g4, 0, none⟩) X.way.length c4)).heap[w1.heap.size]? = some (.cells #[.int .i64 p.f0, .string f, .bool false] 35 (0, 0)) := blk_far (p := ⟨g, 0, none⟩) (blk_below HX.out B3.out) (show w1.heap.size ≠ g by omega) _
      have G5 : (w3.setCell ⟨g, 0, none⟩ (.slice (some ⟨g4, 0, none⟩) X.way.length c4)).heap[g]? = some (.cells #[.slice (some ⟨g4, 0, none⟩) X.way.length c4, .int .i64 X.lost] 25 (0, 0)) := by simpa using blk_set G3.out 0 (.slice (some ⟨g4, 0, none⟩) X.way.length c4)
      have hR : kP.R 35 w3 base ok (.slice (some ⟨g4, 0, none⟩) X.way.length c4) X.way :=
        Kd.R_lower (Kd.R_mono (Kd.R_bound R3.out) (fun k hk => HF.out k (by have := hk.2.1; omega))) (by have := LT.out; omega)
      have R5 : kP.R 35 (w3.setCell ⟨g, 0, none⟩ (.slice (some ⟨g4, 0, none⟩) X.way.length c4)) base ok (.slice (some ⟨g4, 0, none⟩) X.way.length c4) X.way := Kd.R_set hR G3.out (by decide) _ _
      have B4 : Below w.heap.size w w3 := HW.out.trans (B3.out.mono HW.out.size)
      have B5 : Below base w (w3.setCell ⟨g, 0, none⟩ (.slice (some ⟨g4, 0, none⟩) X.way.length c4)) := (B4.mono LT.out).setCell H23.out.1 _
      have K5 : Kept w (w3.setCell ⟨g, 0, none⟩ (.slice (some ⟨g4, 0, none⟩) X.way.length c4)) ok := (Kept.of_below B4 ok).then_ (kept_set _ ok ⟨g, 0, none⟩ _ H23.out.2.1) (fun _ h => .inl h)
      clear S1 S2 LGo hR B4
      generalize (w3.setCell ⟨g, 0, none⟩ (.slice (some ⟨g4, 0, none⟩) X.way.length c4)) = w5 at *
      have P5 := Aside0.mk (And.intro G5 (And.intro R5 (And.intro B5 K5)))
      have y0 := blk_cell G5 0
      have y1 := blk_cell BX 0
      simp at y0 y1
      have cv := string_of_reads (P := Try.prog) (src := 28) (dst := 9) (e := 5) (c := cp) Try.underlying28 Try.underlying5 Try.underlying9 (BRow.reads (W := w5.drew) BQ (by rw [BL.out]; omega))
      rw [BL.out, TT.out] at cv
      have i1 : 0 ≤ (ni : Int) := by omega
      have i2 : (ni : Int) < (X.way.length : Int) := by omega
      clear G5 R5 B5 K5 BQ BX
      go_still_tail 11, (by kernel_rfl)
      change wpList _ _ _ _ _ w5.drew
      clear y0 y1 cv
      have P6 : Aside0 (w5.drew.heap[g]? = some (.cells #[.slice (some ⟨g4, 0, none⟩) X.way.length c4, .int .i64 X.lost] 25 (0, 0)) ∧ kP.R 35 w5.drew base ok (.slice (some ⟨g4, 0, none⟩) X.way.length c4) X.way ∧ Below base w w5.drew ∧ Kept w w5.drew ok) := ⟨P5.out.1, Kd.R_drew P5.out.2.1, P5.out.2.2.1.drew, P5.out.2.2.2.drew⟩
      clear P5
      generalize w5.drew = w6 at *
      go_wp2_with (first
        | ((with_reducible refine gate_store (t := 35) (p := 88) rfl ?_); obtain ⟨cs, hcl, hcc⟩ := R_cells P6.out.2.1 ni i0; go_loud (refine Kd.R_store kP (w0 := w) base rfl rfl 35 (.tmp 88) (.tmp 87) rfl 35 (g := g4) (n := X.way.length) (cap := c4) (o' := ni * 3) (ni : Int) 0 X.way ⟨p.f0, T, true⟩ (.agg #[.int .i64 p.f0, .string T, .bool true]) [.int .i64 p.f0, .string T, .bool true] cs ok (fun _ => False) (by rfl) (by rfl) (by rfl) (by rfl) (by kernel_rfl) (by simp [Value.oneCell']) P6.out.2.1 i1 i2 hcl hcc (Nat.le_refl 3) (whole_M (p := ⟨p.f0, T, true⟩) hcl) (fun _ hk => hk.elim) P6.out.2.2.1 ?_); clear hcl hcc; rw [Int.toNat_natCast]; intro w7 ho hb hg; have Y7 := Aside0.mk ho; have W7 := Aside0.mk hb; have K7 := Aside0.mk hg; clear ho hb hg))
      go_ret
      have ng : some g ≠ some g4 := fun e => by injection e with e; have := L4.out; have := LG.out; have := HW.out.size; omega
      refine ⟨rfl, W7.out, Kept.of_grown K7.out P6.out.2.2.2 (fun k hk => .inl (by rw [← Option.some.inj hk]; exact HF.out g4 (by have := L4.out; have := HW.out.size; omega))), some ⟨g4, 0, none⟩, c4, ?_, H23.out.1, H23.out.2.1, ?_, ?_⟩
      · show w7.heap[g]? = some (.cells #[.slice (some ⟨g4, 0, none⟩) (X.way.set ni ⟨p.f0, T, true⟩).length c4, .int .i64 X.lost] 25 (0, 0))
        rw [List.length_set]
        exact blk_grown P6.out.1 K7.out ng
      · show kP.R 35 w7 base ok (.slice (some ⟨g4, 0, none⟩) (X.way.set ni ⟨p.f0, T, true⟩).length c4) (X.way.set ni ⟨p.f0, T, true⟩)
        rw [List.length_set]
        exact Y7.out
      · show (X.way.set ni ⟨p.f0, T, true⟩).length ≤ 256
        rw [List.length_set]
        exact H23.out.2.2
end Go.Proofs.Ytmcdgachfkkpeaa.ONet
