/- SendRaw, walked by hand. -/
import Derived.Test.YtfonfdpimbnfaaaGQx3
import Derived.Test.YtfonfdpimbnfaaaGQx5
import Derived.Test.YtfonfdpimbnfaaaGQx8
import Derived.Test.YtfonfdpimbnfaaaGQx9
import Derived.Test.YtfonfdpimbnfaaaGGot
import Derived.Test.YtfonfdpimbnfaaaURaw
import Derived.Test.YtfonfdpimbnfaaaUAwake20
import Derived.Outline
import Derived.LoopN
import Derived.BigQuiet
set_option linter.unusedVariables false
set_option linter.unusedSimpArgs false
namespace Go.Proofs.Ytfonfdpimbnfaaa.OSendRaw
open Go.RowKit Go.Proofs.YtfonfdpimbnfaaaW.PrintWords Go.Proofs.YtfonfdpimbnfaaaW.PrintLast Go.Proofs.YtfonfdpimbnfaaaW.PrintMore Go.Proofs.Ytfonfdpimbnfaaa.GQ Go.Proofs.Ytfonfdpimbnfaaa.GGot Go.Proofs.Ytfonfdpimbnfaaa.U
abbrev kI := Kd.int .i64
abbrev kB := Kd.bool
theorem kB_made (W : World) : kB.R 4 (W.alloc (.cells #[] 4)) W.heap.size (fun _ => True) (.slice (some ⟨W.heap.size, 0, none⟩) 0 0) [] :=
  ⟨fun _ _ => trivial, [], World.ownsRow_lit (base := W.heap.size) (e := 4) (size := 1) W #[] 0 (Nat.le_refl _) (by simp [maxLen]) (by simp), Reps.none _ _⟩
theorem kI_made (W : World) : kI.R 3 (W.alloc (.cells #[] 3)) W.heap.size (fun _ => True) (.slice (some ⟨W.heap.size, 0, none⟩) 0 0) [] :=
  ⟨fun _ _ => trivial, [], World.ownsRow_lit (base := W.heap.size) (e := 3) (size := 1) W #[] 0 (Nat.le_refl _) (by simp [maxLen]) (by simp), Reps.none _ _⟩
theorem lit_C {w : World} {b : Nat} {l : List Int} (h : w.heap[b]? = some (.cells (l.map (Value.int .i64)).toArray 3 (0, 0))) (hl : l.length ≤ 1000) : Kd.C kI w (some ⟨b, 0, none⟩) l.length l := by
  have hr : w.ownsRow 0 3 1 (.slice (some ⟨b, 0, none⟩) l.length l.length) l.length (encs (Value.int .i64) l) :=
    ⟨by simp [encs], .inr ⟨b, l.length, _, rfl, Nat.zero_le _, h, Nat.le_refl _, by unfold maxLen; omega, by simp, by rw [Nat.mul_one, List.take_of_length_le (by simp)]; rfl⟩⟩
  exact Kd.F_now (Kd.R_F (Kd.R_of_own (enc := Value.int .i64) (h1 := fun _ => rfl) (ok := fun k => k = b) hr (fun k hk => by simpa [Value.ownBlock] using hk.symm)))
theorem take_filter (L : List Int) (p : Int → Bool) (i : Nat) (hi : i < L.length) : (L.take (i + 1)).filter p = (L.take i).filter p ++ (if p (rd L (i : Int)) = true then [rd L (i : Int)] else []) := by
  rw [List.take_succ_eq_append_getElem hi, List.filter_append, rd_nat hi]
  by_cases h : p L[i] = true
  · rw [if_pos h, List.filter_cons_of_pos h]; rfl
  · rw [if_neg h, List.filter_cons_of_neg h]; rfl
theorem ints_filter (L : List Nat) (a : Nat) : ints (L.filter (fun i => !decide (i = a))) = (ints L).filter (fun x => !decide (x = (a : Int))) := by
  unfold ints
  rw [List.filter_map]
  congr 1
  apply List.filter_congr
  intro i _
  show (!decide (i = a)) = (!decide ((i : Int) = (a : Int)))
  rw [decide_eq_decide.2 (show i = a ↔ (i : Int) = (a : Int) by omega)]
/-- What Got says, whatever it is asked. -/
theorem got_any (num n a : Int) (P : List ByteArray) (C : List Bool) (hP : P.length ≤ 100000) : ∃ (C' : List Bool) (e : Int), send_Got.f num P C n a = some (num, P, C', e) ∧ (n ≠ num → e = 14) ∧ (n = num → (a < 0 ∨ a ≥ (P.length : Int)) → e = 8) ∧ (n = num → 0 ≤ a → a < (P.length : Int) → e = 0 ∧ ints (lft C' P.length) = (ints (lft C P.length)).filter (fun x => !decide (x = a))) := by
  by_cases h : n = num
  · subst h
    by_cases h2 : a < 0 ∨ a ≥ (P.length : Int)
    · exact ⟨_, _, Got_none P C h2, fun h => absurd rfl h, fun _ _ => rfl, fun _ _ _ => by omega⟩
    · obtain ⟨i, rfl⟩ : ∃ i : Nat, a = (i : Int) := ⟨a.toNat, by omega⟩
      exact ⟨_, _, Got_eq C hP (by omega) (by omega), fun h => absurd rfl h, fun _ h => absurd h h2, fun _ _ _ => ⟨rfl, by rw [Int.toNat_natCast, lft_rest C P.length i (by omega), ints_filter]⟩⟩
  · exact ⟨_, _, Got_old P C h, fun _ => rfl, fun e => absurd e h, fun e => absurd e h⟩
open Classical in
/-- The law's answer within the row's bounds. -/
noncomputable def tillerlaw20_SendRaw.f (a0_0 : Int) (l0_1 : List ByteArray) (l0_2 : List Bool) (a1 a2 : Int) : Option Bool := if (l0_1.length ≤ 8796093022208 ∧ l0_2.length ≤ 140737488351232) ∧ (-9223372036854775808 ≤ a2 ∧ a2 ≤ 9223372036854775807) then some true else none
/-- A state's box and its rows. -/
structure Sb (w W : World) (B : Nat) (num : Int) (A1 : Option Addr) (n1 c1 : Nat) (P : List ByteArray) (A2 : Option Addr) (n2 c2 : Nat) (C : List Bool) : Prop where
  box : W.heap[B]? = some (.cells #[.int .i64 num, .slice A1 n1 c1, .slice A2 n2 c2] 32 (0, 0))
  p : Kd.C Kd.string w A1 P.length P
  plen : P.length = n1
  pc : n1 ≤ c1
  q : Kd.C Kd.bool w A2 C.length C
  qlen : C.length = n2
  qc : n2 ≤ c2
  bel : Below w.heap.size w W
theorem Sb.step {w W W' : World} {B : Nat} {num : Int} {A1 : Option Addr} {n1 c1 : Nat} {P : List ByteArray} {A2 : Option Addr} {n2 c2 : Nat} {C : List Bool} (h : Sb w W B num A1 n1 c1 P A2 n2 c2 C) (hb : Below W.heap.size W W') : Sb w W' B num A1 n1 c1 P A2 n2 c2 C :=
  ⟨blk_below h.box hb, h.p, h.plen, h.pc, h.q, h.qlen, h.qc, h.bel.trans (hb.mono h.bel.size)⟩
theorem Sb.cutP {w W : World} {B : Nat} {num : Int} {A1 : Option Addr} {n1 c1 : Nat} {P : List ByteArray} {A2 : Option Addr} {n2 c2 : Nat} {C : List Bool} (h : Sb w W B num A1 n1 c1 P A2 n2 c2 C) (hB : w.heap.size ≤ B) (m : Nat) (hm : m ≤ n1) : Sb w (W.setCell ⟨B, 1, none⟩ (.slice A1 m c1)) B num A1 m c1 (P.take m) A2 n2 c2 C :=
  ⟨by have := blk_set h.box 1 (.slice A1 m c1); simpa using this, Kd.C_take h.p (by rw [h.plen]; exact hm), by rw [List.length_take, h.plen]; omega, by have := h.pc; omega, h.q, h.qlen, h.qc, h.bel.setCell (p := ⟨B, 1, none⟩) hB _⟩
theorem Sb.cutC {w W : World} {B : Nat} {num : Int} {A1 : Option Addr} {n1 c1 : Nat} {P : List ByteArray} {A2 : Option Addr} {n2 c2 : Nat} {C : List Bool} (h : Sb w W B num A1 n1 c1 P A2 n2 c2 C) (hB : w.heap.size ≤ B) (m : Nat) (hm : m ≤ n2) : Sb w (W.setCell ⟨B, 2, none⟩ (.slice A2 m c2)) B num A1 n1 c1 P A2 m c2 (C.take m) :=
  ⟨by have := blk_set h.box 2 (.slice A2 m c2); simpa using this, h.p, h.plen, h.pc, Kd.C_take h.q (by rw [h.qlen]; exact hm), by rw [List.length_take, h.qlen]; omega, by have := h.qc; omega, h.bel.setCell (p := ⟨B, 2, none⟩) hB _⟩
set_option maxHeartbeats 16000000 in
set_option maxRecDepth 100000 in
theorem tillerlaw20_SendRaw.calls (num : Int) (A1 : Option Addr) (c1 : Nat) (l1 : List ByteArray) (A2 : Option Addr) (c2 : Nat) (l2 : List Bool) (n a : Int) (r : Bool) (w : World) (hr1 : Kd.C Kd.string w A1 l1.length l1) (hc1 : l1.length ≤ c1) (hr2 : Kd.C Kd.bool w A2 l2.length l2) (hc2 : l2.length ≤ c2) (hr_ : Aside0 (r = true)) (h : tillerlaw20_SendRaw.f num l1 l2 n a = some r) : Calls Try.prog 5 #[.agg #[.int .i64 num, .slice A1 l1.length c1, .slice A2 l2.length c2], .int .i64 n, .int .i64 a] w fun e w' => e = .returned (.bool r) ∧ Below w.heap.size w w' := by
  obtain ⟨r_⟩ := hr_
  subst r_
  have hI : (l1.length ≤ 8796093022208 ∧ l2.length ≤ 140737488351232) ∧ (-9223372036854775808 ≤ a ∧ a ≤ 9223372036854775807) := by
    unfold tillerlaw20_SendRaw.f at h
    by_cases e : (l1.length ≤ 8796093022208 ∧ l2.length ≤ 140737488351232) ∧ (-9223372036854775808 ≤ a ∧ a ≤ 9223372036854775807)
    · exact e
    · rw [if_neg e] at h; cases h
  obtain ⟨m1, hm1⟩ : ∃ m, l1.length = m := ⟨_, rfl⟩
  obtain ⟨m2, hm2⟩ : ∃ m, l2.length = m := ⟨_, rfl⟩
  have b1 := below_alloc (Below.refl w.heap.size w) (.cells #[.int .i64 num, .slice A1 m1 c1, .slice A2 m2 c2] 32 (0, 0))
  have s1 : Sb w (w.alloc (.cells #[.int .i64 num, .slice A1 m1 c1, .slice A2 m2 c2] 32 (0, 0))) w.heap.size num A1 m1 c1 l1 A2 m2 c2 l2 := ⟨blk_new _ _, hr1, hm1, by omega, hr2, hm2, by omega, b1⟩
  rw [hm1, hm2]
  have HM := Aside0.mk (show (m1 ≤ 8796093022208 ∧ m2 ≤ 140737488351232) ∧ (-9223372036854775808 ≤ a ∧ a ≤ 9223372036854775807) by omega)
  have S1 := Aside0.mk s1
  have SZ := Aside0.mk (Nat.le_refl w.heap.size)
  have AW := Aside0.mk (awake20 (k := 100) (by omega))
  clear h hI hr1 hr2 hc1 hc2 hm1 hm2 b1 s1
  go_enter Try.func5, Try.ntmps5
  go_upto_region 1 with (fail)
  generalize w.alloc (.cells #[.int .i64 num, .slice A1 m1 c1, .slice A2 m2 c2] 32 (0, 0)) = w1 at S1 ⊢
  obtain ⟨B, hB⟩ : ∃ B, w.heap.size = B := ⟨_, rfl⟩
  simp only [hB] at S1 SZ ⊢
  have HB := Aside0.mk hB
  clear hB
  have x0 := blk_cell S1.out.box 0
  have x1 := blk_cell S1.out.box 1
  have x2 := blk_cell S1.out.box 2
  simp at x0 x1 x2
  go_upto_if 18 with (fail)
  go_cut [3] (fun s3 wx => s3 = .pointer (some ⟨B, 0, none⟩) ∧ Aside0 (Sb w wx B num A1 (min m1 40) c1 (l1.take (min m1 40)) A2 m2 c2 l2))
  case first =>
    have S40 := Aside0.mk (S1.out.cutP (by rw [HB.out]; exact Nat.le_refl _) (min m1 40) (Nat.min_le_left _ _))
    by_cases hc : 40 < m1
    · have e1 : decide ((40 : Int) < (m1 : Int)) = true := decide_eq_true (by omega)
      have q1 : (40 : Int) ≤ (c1 : Int) := by have := S1.out.pc; omega
      have q2 : 40 ≤ c1 := by omega
      have f1 := blk_frozen S1.out.box 1
      have hmin : min m1 40 = 40 := by omega
      rw [hmin] at S40
      have HMIN := Aside0.mk hmin
      clear hc hmin
      rw [e1]
      go_wp2
      go_meet
      exact ⟨rfl, by rw [HMIN.out]; exact S40⟩
    · have e1 : decide ((40 : Int) < (m1 : Int)) = false := decide_eq_false (by omega)
      have hmin : min m1 40 = m1 := by omega
      have hl : l1.take m1 = l1 := List.take_of_length_le (by rw [S1.out.plen]; exact Nat.le_refl _)
      have HMIN := Aside0.mk (And.intro hmin hl)
      clear hc S40 hmin hl
      rw [e1]
      go_wp2
      go_meet
      exact ⟨rfl, by rw [HMIN.out.1, HMIN.out.2]; exact S1⟩
  case rest =>
    clear S1 x0 x1 x2
    obtain ⟨rfl, S1⟩ := hcut
    rename_i wx
    obtain ⟨P, hP⟩ : ∃ P, l1.take (min m1 40) = P := ⟨_, rfl⟩
    obtain ⟨n1, hn1⟩ : ∃ n1, min m1 40 = n1 := ⟨_, rfl⟩
    have LP := Aside0.mk (show n1 ≤ 40 by omega)
    rw [hP, hn1] at S1
    clear hP hn1
    have x0 := blk_cell S1.out.box 0
    have x1 := blk_cell S1.out.box 1
    have x2 := blk_cell S1.out.box 2
    simp at x0 x1 x2
    go_upto_if 26 with (fail)
    go_cut [3] (fun s3 wx => s3 = .pointer (some ⟨B, 0, none⟩) ∧ Aside0 (Sb w wx B num A1 n1 c1 P A2 (min m2 60) c2 (l2.take (min m2 60))))
    case first =>
      have S40 := Aside0.mk (S1.out.cutC (by rw [HB.out]; exact Nat.le_refl _) (min m2 60) (Nat.min_le_left _ _))
      by_cases hc : 60 < m2
      · have e1 : decide ((60 : Int) < (m2 : Int)) = true := decide_eq_true (by omega)
        have q1 : (60 : Int) ≤ (c2 : Int) := by have := S1.out.qc; omega
        have q2 : 60 ≤ c2 := by omega
        have f2 := blk_frozen S1.out.box 2
        have hmin : min m2 60 = 60 := by omega
        rw [hmin] at S40
        have HMIN := Aside0.mk hmin
        clear hc hmin
        rw [e1]
        go_wp2
        go_meet
        exact ⟨rfl, by rw [HMIN.out]; exact S40⟩
      · have e1 : decide ((60 : Int) < (m2 : Int)) = false := decide_eq_false (by omega)
        have hmin : min m2 60 = m2 := by omega
        have hl : l2.take m2 = l2 := List.take_of_length_le (by rw [S1.out.qlen]; exact Nat.le_refl _)
        have HMIN := Aside0.mk (And.intro hmin hl)
        clear hc S40 hmin hl
        rw [e1]
        go_wp2
        go_meet
        exact ⟨rfl, by rw [HMIN.out.1, HMIN.out.2]; exact S1⟩
    case rest =>
      clear S1 x0 x1 x2
      obtain ⟨rfl, S1⟩ := hcut
      rename_i wx wy
      obtain ⟨C, hC⟩ : ∃ C, l2.take (min m2 60) = C := ⟨_, rfl⟩
      obtain ⟨n2, hn2⟩ : ∃ n2, min m2 60 = n2 := ⟨_, rfl⟩
      have LC := Aside0.mk (show n2 ≤ 60 by omega)
      rw [hC, hn2] at S1
      clear hC hn2
      have x0 := blk_cell S1.out.box 0
      have x1 := blk_cell S1.out.box 1
      have x2 := blk_cell S1.out.box 2
      simp at x0 x1 x2
      go_upto_region 5 with (fail)
      have KN := Aside0.mk (kB_made wc)
      have e6 : ¬ B = wc.heap.size := by have := blk_lt S1.out.box; omega
      have x2a := pw_cell_below (below_alloc (Below.refl wc.heap.size wc) (.cells #[] 4 (0, 0))) x2
      have CQ := Aside0.mk (show Kd.C kB wc A2 n2 C from by have h := Kd.C_below S1.out.q S1.out.bel; rw [S1.out.qlen] at h; exact h)
      go_upto_region 6 with ((with_reducible refine gate_builtin (b := .append) (xs := #[.tmp 31, .tmp 33]) rfl ?_); go_loud ((refine Kd.R_append_rows kB (w0 := wc) wc.heap.size rfl (.tmp 31) (.tmp 33) 30 4 (.bool false) 1 rfl Try.underlying30 GQ.info4 rfl (by decide) (by omega) (.slice (some ⟨wc.heap.size, 0, none⟩) 0 0) [] C A2 n2 c2 (fun _ => True) (fun _ => False) (by rfl) (by rfl) ?aO ?aR (fun _ _ h => h) (fun _ h => h.elim) ?aF ?aB ?aS ?aL ?_); (case aR => exact Kd.C_below CQ.out (below_alloc (Below.refl _ _) _)); (case aB => exact below_alloc (Below.refl _ _) _); (case aF => exact fun _ _ => trivial); (case aO => exact KN.out); (case aS => exact (below_alloc (Below.refl _ _) _).size); (case aL => have := LC.out; simp; omega); intro v9 w9 ho hb hg hat; rw [List.nil_append] at ho; obtain ⟨A3, c3, rfl⟩ := Kd.R_slice ho; rw [S1.out.qlen] at ho ⊢; have K3 := Aside0.mk ho; have S2 := Aside0.mk (S1.out.step hb); clear ho hb hg hat))
      clear x2a e6 KN CQ x0 x1 x2 S1
      obtain ⟨L, hL⟩ : ∃ L, ints (lft C n1) = L := ⟨_, rfl⟩
      obtain ⟨nL, hnL⟩ : ∃ m, L.length = m := ⟨_, rfl⟩
      have HL := Aside0.mk hL
      have HNL := Aside0.mk hnL
      have LL := Aside0.mk (show nL ≤ 40 by have := LP.out; have := lft_len C n1; rw [← hnL, ← hL, ints_len]; omega)
      have FC := Aside0.mk (tillerref20_Left.calls 100 (n1 : Int) A3 c3 C L w9 (by have h := (Kd.R_reads' K3.out).2.2; exact h) (by rw [S2.out.qlen]; exact (Kd.R_reads' K3.out).2.1) (by rw [← hL]; exact rLeft_eq C (by have := LP.out; omega) (by have := LP.out; omega)))
      rw [S2.out.qlen] at FC
      obtain ⟨C', ee, hg, g1, g2, g3⟩ := got_any num n a P C (by rw [S2.out.plen]; have := LP.out; omega)
      rw [S2.out.plen] at g2 g3
      rw [hL] at g3
      have HG := Aside0.mk hg
      have G1 := Aside0.mk g1
      have G2 := Aside0.mk g2
      have G3 := Aside0.mk g3
      clear hL hnL hg g1 g2 g3
      have x0 := blk_cell S2.out.box 0
      have x1 := blk_cell S2.out.box 1
      have x2 := blk_cell S2.out.box 2
      simp at x0 x1 x2
      go_upto_region 7 with (go_at_call 18; go_loud ((with_reducible refine FC.out.mono ?_); rintro e w10 ⟨va, rfl, hR, hb⟩; obtain ⟨A4, c4, rfl⟩ := Kd.R_slice hR; rw [HNL.out] at hR ⊢; have R4 := Aside0.mk hR; have K4 := Aside0.mk (Kd.R_below K3.out hb); have S3 := Aside0.mk (S2.out.step hb); clear hR hb))
      clear x0 x1 x2 FC K3 S2
      have GC := send_Got.calls num (fun k => k < w10.heap.size) A1 c1 P (fun k => k < w10.heap.size) A2 c2 C n a num P C' ee w10 (Kd.V_mk (by rw [S3.out.plen]; exact S3.out.pc) (Kd.C_F Kd.heap_string (Kd.C_below S3.out.p S3.out.bel))) (Kd.V_mk (by rw [S3.out.qlen]; exact S3.out.qc) (Kd.C_F Kd.heap_bool (Kd.C_below S3.out.q S3.out.bel))) HG.out
      rw [S3.out.plen, S3.out.qlen] at GC
      have GC := Aside0.mk GC
      obtain ⟨n6, hn6⟩ : ∃ m, C'.length = m := ⟨_, rfl⟩
      have HN6 := Aside0.mk hn6
      clear hn6
      have x0 := blk_cell S3.out.box 0
      have x1 := blk_cell S3.out.box 1
      have x2 := blk_cell S3.out.box 2
      simp at x0 x1 x2
      go_upto_region 8 with (go_at_call 17; go_loud ((with_reducible refine GC.out.mono ?_); rintro e w11 ⟨v1, v2, rfl, h1, h2, hb⟩; obtain ⟨A5, c5, rfl⟩ := Kd.V_slice h1; obtain ⟨A6, c6, rfl⟩ := Kd.V_slice h2; rw [S3.out.plen] at h1 ⊢; rw [HN6.out] at h2 ⊢; have V1 := Aside0.mk h1; have V2 := Aside0.mk h2; have K5 := Aside0.mk (Kd.R_below K4.out hb); have R5 := Aside0.mk (Kd.R_below R4.out hb); have S4 := Aside0.mk (S3.out.step hb); clear h1 h2 hb))
      have bb := below_alloc (Below.refl w11.heap.size w11) (.cells #[.int .i64 num, .slice A5 n1 c5, .slice A6 n6 c6] 32 (0, 0))
      have T5 := Aside0.mk (show Sb w11 (w11.alloc (.cells #[.int .i64 num, .slice A5 n1 c5, .slice A6 n6 c6] 32 (0, 0))) w11.heap.size num A5 n1 c5 P A6 n6 c6 C' from ⟨blk_new _ _, (Kd.V_reads' V1.out).2.2, S4.out.plen, (Kd.V_at V1.out).2.1, (Kd.V_reads' V2.out).2.2, HN6.out, (Kd.V_at V2.out).2.1, bb⟩)
      have S5 := Aside0.mk (S4.out.step bb)
      have K6 := Aside0.mk (Kd.R_below K5.out bb)
      have R6 := Aside0.mk (Kd.R_below R5.out bb)
      clear x0 x1 x2 GC S3 K4 R4 bb S4 K5 R5 V1 V2
      generalize w11.alloc (.cells #[.int .i64 num, .slice A5 n1 c5, .slice A6 n6 c6] 32 (0, 0)) = w12 at T5 S5 K6 R6 ⊢
      generalize w11.heap.size = G at T5 ⊢
      have LE := Left_eq (k := 100) num (P := P) C (by rw [S5.out.plen]; have := LP.out; omega) (by rw [S5.out.plen]; have := LP.out; omega)
      rw [S5.out.plen, HL.out] at LE
      have OE := Over_eq (k := 100) num (P := P) C (by rw [S5.out.plen]; have := LP.out; omega) (by rw [S5.out.plen]; have := LP.out; omega)
      have hln : (lft C P.length).length = nL := by rw [S5.out.plen, ← ints_len, HL.out]; exact HNL.out
      rw [hln] at OE
      have QL := fun W (hb : Below w12.heap.size w12 W) => send_Left.calls 100 num A1 c1 P A2 c2 C L W (Kd.C_below S5.out.p (S5.out.bel.trans (hb.mono S5.out.bel.size))) (by rw [S5.out.plen]; exact S5.out.pc) (Kd.C_below S5.out.q (S5.out.bel.trans (hb.mono S5.out.bel.size))) (by rw [S5.out.qlen]; exact S5.out.qc) LE
      have QO := fun W (hb : Below w12.heap.size w12 W) => send_Over.calls 100 num A1 c1 P A2 c2 C ((nL : Int) == 0) W (Kd.C_below S5.out.p (S5.out.bel.trans (hb.mono S5.out.bel.size))) (by rw [S5.out.plen]; exact S5.out.pc) (Kd.C_below S5.out.q (S5.out.bel.trans (hb.mono S5.out.bel.size))) (by rw [S5.out.qlen]; exact S5.out.qc) OE
      have SE := fun (l : List Int) (hl : l.length ≤ 40) => same10 (k := 100) l (by omega) (by omega)
      simp only [S5.out.plen, S5.out.qlen] at QL QO
      have QL := Aside0.mk QL
      have QO := Aside0.mk QO
      have SE := Aside0.mk SE
      have B0 := Aside0.mk (Below.refl w12.heap.size w12)
      clear LE OE hln
      have x0 := blk_cell S5.out.box 0
      have x1 := blk_cell S5.out.box 1
      have x2 := blk_cell S5.out.box 2
      simp at x0 x1 x2
      go_upto_if 63 with (first
        | (go_at_call 13; go_loud ((refine (tillerlaw20_awake.calls 100 true _ AW.out).mono ?_); rintro e w13 ⟨rfl, hb⟩; have B1 := Aside0.mk hb; replace x0 := pw_cell_below hb x0; replace x1 := pw_cell_below hb x1; replace x2 := pw_cell_below hb x2; clear hb))
        | (go_at_call 20; (with_reducible refine (QL.out w13 B1.out).mono ?_); go_loud (rintro e w14 ⟨va, rfl, hR, hb⟩; obtain ⟨A7, c7, rfl⟩ := Kd.R_slice hR; rw [HNL.out] at hR ⊢; have R7 := Aside0.mk (Kd.R_reads' hR).2; have B2 := Aside0.mk (below_step B1.out hb); have SC := tillerref10_Same.calls 100 A7 c7 L A4 c4 L true w14 R7.out.2 (by rw [HNL.out]; exact R7.out.1) (Kd.R_reads' (Kd.R_below R6.out B2.out)).2.2 (by rw [HNL.out]; exact (Kd.R_reads' R6.out).2.1) (SE.out L (by rw [HNL.out]; exact LL.out)); rw [HNL.out] at SC; have SC := Aside0.mk SC; replace x0 := pw_cell_below hb x0; replace x1 := pw_cell_below hb x1; replace x2 := pw_cell_below hb x2; clear hR hb))
        | (go_at_call 19; go_loud ((with_reducible refine SC.out.mono ?_); rintro e w15 ⟨rfl, ⟨⟨m, hm⟩⟩⟩; have hb : Below w14.heap.size w14 w15 := (hm ▸ pw_below_drewN (Below.refl _ _) m); have B3 := Aside0.mk (below_step B2.out hb); replace x0 := pw_cell_below hb x0; replace x1 := pw_cell_below hb x1; replace x2 := pw_cell_below hb x2; clear hm hb))
        | (go_at_call 21; (with_reducible refine (QO.out w15 B3.out).mono ?_); go_loud (rintro e w16 ⟨rfl, hb⟩; have B4 := Aside0.mk (below_step B3.out hb); clear hb)))
      have S6 := Aside0.mk (S5.out.step B4.out)
      have T6 := Aside0.mk (T5.out.step B4.out)
      have K7 := Aside0.mk (Kd.R_below K6.out B4.out)
      have R8 := Aside0.mk (Kd.R_below R6.out B4.out)
      clear x0 x1 x2 S5 T5 K6 R6 QL QO B0 B1 B2 B3 B4 R7 SC
      go_upto_region 11 with (fail)
      go_loopg [66] n2 (fun kq v66 W => ∃ i : Nat, v66 = .int .i64 (i : Int) ∧ Aside0 (i + kq = n2) ∧ Aside0 (Below w16.heap.size w16 W))
      case atStart => exact ⟨0, rfl, ⟨Nat.zero_add _⟩, ⟨Below.refl _ _⟩⟩
      case round =>
        obtain ⟨i, rfl, HI, BW⟩ := hrel
        have hi := HI.out
        have hn2 := LC.out
        have S7 := Aside0.mk (S6.out.step BW.out)
        cases gk with
        | succ q' =>
          have d1 : decide (i < n2) = true := decide_eq_true (by omega)
          have d2 : decide ((i : Int) < (n2 : Int)) = true := decide_eq_true (by omega)
          have p1 : 0 ≤ (i : Int) := by omega
          have p2 : (i : Int) < (n2 : Int) := by omega
          obtain ⟨ad1, rfl, h1⟩ := Kd.at_bool (show Kd.C kB wr A2 n2 C from by have h := Kd.C_below S7.out.q S7.out.bel; rw [S7.out.qlen] at h; exact h) (i : Int) p1 p2
          obtain ⟨ad2, rfl, h2⟩ := Kd.at_bool (show Kd.C kB wr A3 n2 C from by have h := (Kd.R_reads' (Kd.R_below K7.out BW.out)).2.2; rw [S7.out.qlen] at h; exact h) (i : Int) p1 p2
          have x0 := blk_cell S7.out.box 0
          have x1 := blk_cell S7.out.box 1
          have x2 := blk_cell S7.out.box 2
          simp at x0 x1 x2
          rw [Int.toNat_natCast] at h1 h2
          obtain ⟨b, hb⟩ : ∃ b, rdOf false C (i : Int) = b := ⟨_, rfl⟩
          rw [hb] at h1 h2
          clear hi hn2 hb
          go_wp2
          go_quiet (fail)
          go_wp2
          go_roundg q'
          case measure => omega
          case rel => exact ⟨i + 1, by rw [w64 (x := (i : Int) + 1) (by have := HI.out; have := LC.out; omega) (by have := HI.out; have := LC.out; omega)]; rfl, ⟨by have := HI.out; omega⟩, ⟨below_step BW.out (pw_below_drewN (Below.refl _ _) _)⟩⟩
        | zero =>
          have d1 : decide (i < n2) = false := decide_eq_false (by omega)
          have d2 : decide ((i : Int) < (n2 : Int)) = false := decide_eq_false (by omega)
          clear hi hn2
          go_upto_region 16 with (fail)
          have x0 := blk_cell S7.out.box 0
          have x1 := blk_cell S7.out.box 1
          have x2 := blk_cell S7.out.box 2
          simp at x0 x1 x2
          have BS := Aside0.mk (S7.out.bel)
          by_cases en : n = num
          · have f1 : (n == num) = true := beq_iff_eq.mpr en
            have f2 : (n != num) = false := bne_eq_false_iff_eq.mpr en
            by_cases ea : a < 0
            · have f3 : decide (a < 0) = true := decide_eq_true ea
              have hee := G2.out en (.inl ea)
              subst hee
              clear en ea
              go_wp2
              go_ret
              exact ⟨rfl, BS.out⟩
            · have f3 : decide (a < 0) = false := decide_eq_false ea
              by_cases eb : a ≥ (n1 : Int)
              · have f4 : decide ((n1 : Int) ≤ a) = true := decide_eq_true eb
                have hee := G2.out en (.inr eb)
                subst hee
                clear en ea eb
                go_wp2
                go_ret
                exact ⟨rfl, BS.out⟩
              · have f4 : decide ((n1 : Int) ≤ a) = false := decide_eq_false eb
                obtain ⟨hee, hrest⟩ := G3.out en (by omega) (by omega)
                subst hee
                have HR := Aside0.mk hrest
                clear en ea eb hrest
                go_upto_region 20 with (fail)
                generalize hwA : wr = wA at *
                have KI := Aside0.mk (kI_made wA)
                have B9 := Aside0.mk (below_alloc (Below.refl wA.heap.size wA) (.cells #[] 3))
                have RB := Aside0.mk (Kd.R_below R8.out BW.out)
                have T7 := Aside0.mk (T6.out.step BW.out)
                go_upto_region 22 with (fail)
                generalize wA.alloc (.cells #[] 3) = w17 at KI B9 ⊢
                go_loopg [12, 100] nL (fun kq v12 v100 W => ∃ j : Nat, v100 = .int .i64 (j : Int) ∧ Aside0 (j + kq = nL) ∧ Aside0 (kI.R 3 W wA.heap.size (fun _ => True) v12 ((L.take j).filter (fun x => !decide (x = a)))) ∧ Aside0 (Below wA.heap.size wA W))
                case atStart => exact ⟨0, rfl, ⟨Nat.zero_add _⟩, KI, B9⟩
                case round =>
                  clear KI B9 x0 x1 x2
                  obtain ⟨j, rfl, HJ, KR, BJ⟩ := hrel
                  have hj := HJ.out
                  cases gk with
                  | succ q' =>
                    have d1 : decide (j < nL) = true := decide_eq_true (by omega)
                    have d2 : decide ((j : Int) < (nL : Int)) = true := decide_eq_true (by omega)
                    have p1 : 0 ≤ (j : Int) := by omega
                    have p2 : (j : Int) < (nL : Int) := by omega
                    obtain ⟨ad1, hA4, h1⟩ := Kd.at_int (show Kd.C kI wA A4 nL L from by have h := (Kd.R_reads' RB.out).2.2; rw [HNL.out] at h; exact h) (j : Int) p1 p2
                    subst hA4
                    have tf := take_filter L (fun x => !decide (x = a)) j (by rw [HNL.out]; omega)
                    obtain ⟨x, hx⟩ : ∃ x, rd L (j : Int) = x := ⟨_, rfl⟩
                    rw [Int.toNat_natCast, hx] at h1
                    rw [hx] at tf
                    have h1 := pw_cell_below BJ.out h1
                    have TF := Aside0.mk tf
                    clear hj hx tf
                    go_upto_region 24 with (fail)
                    by_cases hxa : x = a
                    · have f1 : (x == a) = true := beq_iff_eq.mpr hxa
                      have f2 : (x != a) = false := bne_eq_false_iff_eq.mpr hxa
                      have f3 : (!decide (x = a)) = false := by rw [decide_eq_true hxa]; rfl
                      rw [f3, if_neg (by decide), List.append_nil] at TF
                      clear hxa f3
                      go_wp2
                      go_roundg q'
                      case measure => omega
                      case rel => exact ⟨j + 1, by rw [w64 (x := (j : Int) + 1) (by have := HJ.out; have := LL.out; omega) (by have := HJ.out; have := LL.out; omega)]; rfl, ⟨by have := HJ.out; omega⟩, by rw [TF.out]; exact KR, BJ⟩
                    · have f1 : (x == a) = false := beq_eq_false_iff_ne.mpr hxa
                      have f2 : (x != a) = true := bne_iff_ne.mpr hxa
                      have f3 : (!decide (x = a)) = true := by rw [decide_eq_false hxa]; rfl
                      rw [f3, if_pos rfl] at TF
                      clear hxa f3
                      have LF := Aside0.mk (show ((L.take j).filter (fun x => !decide (x = a))).length ≤ 40 from Nat.le_trans (List.length_filter_le _ _) (by rw [List.length_take, HNL.out]; have := LL.out; omega))
                      go_wp2_with ((with_reducible refine gate_builtin (b := .append) (xs := #[.tmp 107, .tmp 109]) rfl ?_); go_loud ((refine Kd.R_append_rows kI (w0 := wA) wA.heap.size rfl (.tmp 107) (.tmp 109) 29 3 (.int .i64 0) 8 rfl Try.underlying29 GQ.info3 rfl (by decide) (by omega) u12 ((L.take j).filter (fun x => !decide (x = a))) [x] (some ⟨wr.heap.size, 0, none⟩) 1 1 (fun _ => True) (fun _ => False) (by rfl) (by rfl) ?aO ?aR (fun _ _ h => h) (fun _ h => h.elim) ?aF ?aB ?aS ?aL ?_); (case aR => exact lit_C (w := wr.alloc (.cells #[.int .i64 x] 3 (0, 0))) (b := wr.heap.size) (l := [x]) (blk_new wr (.cells #[.int .i64 x] 3 (0, 0))) (by simp)); (case aB => exact below_alloc BJ.out _); (case aF => exact fun _ _ => trivial); (case aO => exact Kd.R_alloc KR.out _); (case aS => exact Nat.le_trans BJ.out.size (below_alloc (Below.refl wr.heap.size wr) _).size); (case aL => have := LF.out; omega); intro v8 w8 ho hb hg hat; have O8 := Aside0.mk ho; have B8 := Aside0.mk hb; clear ho hb hg hat))
                      go_roundg q'
                      case measure => omega
                      case rel => exact ⟨j + 1, by rw [w64 (x := (j : Int) + 1) (by have := HJ.out; have := LL.out; omega) (by have := HJ.out; have := LL.out; omega)]; rfl, ⟨by have := HJ.out; omega⟩, by rw [TF.out]; exact O8, B8⟩
                  | zero =>
                    have d1 : decide (j < nL) = false := decide_eq_false (by omega)
                    have d2 : decide ((j : Int) < (nL : Int)) = false := decide_eq_false (by omega)
                    clear hj
                    have hjn : j = nL := by have := HJ.out; omega
                    have KM := KR.out
                    rw [hjn, List.take_of_length_le (by rw [HNL.out]; exact Nat.le_refl _), ← HR.out] at KM
                    obtain ⟨M, hM⟩ : ∃ M, ints (lft C' n1) = M := ⟨_, rfl⟩
                    have LE := Left_eq (k := 100) num (P := P) C' (by rw [T7.out.plen]; have := LP.out; omega) (by rw [T7.out.plen]; have := LP.out; omega)
                    rw [T7.out.plen, hM] at LE
                    rw [hM] at KM
                    obtain ⟨nM, hnM⟩ : ∃ m, M.length = m := ⟨_, rfl⟩
                    have hml : nM ≤ 40 := by rw [← hnM, ← hM, ints_len]; have := lft_len C' n1; have := LP.out; omega
                    obtain ⟨A9, c9, rfl⟩ := Kd.R_slice KM
                    rw [hnM] at KM ⊢
                    have T8 := Aside0.mk (T7.out.step BJ.out)
                    have QT := send_Left.calls 100 num A5 c5 P A6 c6 C' M wr (Kd.C_below T8.out.p T8.out.bel) (by rw [T8.out.plen]; exact T8.out.pc) (Kd.C_below T8.out.q T8.out.bel) (by rw [T8.out.qlen]; exact T8.out.qc) LE
                    rw [T8.out.plen, T8.out.qlen] at QT
                    have QT := Aside0.mk QT
                    have KM := Aside0.mk KM
                    have HNM := Aside0.mk hnM
                    have SM := Aside0.mk (same10 (k := 100) M (by omega) (by omega))
                    have BZ := Aside0.mk (show Below w.heap.size w wr from BS.out.trans (BJ.out.mono BS.out.size))
                    have x0 := blk_cell T8.out.box 0
                    have x1 := blk_cell T8.out.box 1
                    have x2 := blk_cell T8.out.box 2
                    simp at x0 x1 x2
                    clear hjn hM hnM hml LE KR
                    go_wp2_with (first
                      | (go_at_call 20; go_loud ((with_reducible refine QT.out.mono ?_); rintro e w18 ⟨va, rfl, hR, hb⟩; obtain ⟨A7, c7, rfl⟩ := Kd.R_slice hR; rw [HNM.out] at hR ⊢; have SC := tillerref10_Same.calls 100 A7 c7 M A9 c9 M true w18 (Kd.R_reads' hR).2.2 (by rw [HNM.out]; exact (Kd.R_reads' hR).2.1) (Kd.R_reads' (Kd.R_below KM.out hb)).2.2 (by rw [HNM.out]; exact (Kd.R_reads' KM.out).2.1) SM.out; rw [HNM.out] at SC; have SC := Aside0.mk SC; have B18 := Aside0.mk (BZ.out.trans (hb.mono BZ.out.size)); clear hR hb))
                      | (go_at_call 19; go_loud ((with_reducible refine SC.out.mono ?_); rintro e w19 ⟨rfl, ⟨⟨m, hm⟩⟩⟩; have hb : Below w18.heap.size w18 w19 := (hm ▸ pw_below_drewN (Below.refl _ _) m); have B19 := Aside0.mk (B18.out.trans (hb.mono B18.out.size)); clear hm hb)))
                    go_ret
                    exact ⟨rfl, B19.out⟩
          · have f1 : (n == num) = false := beq_eq_false_iff_ne.mpr en
            have f2 : (n != num) = true := bne_iff_ne.mpr en
            have hee := G1.out en
            subst hee
            clear en
            go_wp2
            go_ret
            exact ⟨rfl, BS.out⟩
end Go.Proofs.Ytfonfdpimbnfaaa.OSendRaw
