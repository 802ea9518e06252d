/- SendPlays, walked by hand. -/
import Derived.Test.YtfonfdpimbnfaaaGQx2
import Derived.Test.YtfonfdpimbnfaaaGQx3
import Derived.Test.YtfonfdpimbnfaaaGQx4
import Derived.Test.YtfonfdpimbnfaaaGQx5
import Derived.Test.YtfonfdpimbnfaaaGQx7
import Derived.Test.YtfonfdpimbnfaaaGQx8
import Derived.Test.YtfonfdpimbnfaaaGQx9
import Derived.Test.YtfonfdpimbnfaaaOSendRaw
import Derived.Test.YtfonfdpimbnfaaaUPlays20
set_option linter.unusedVariables false
set_option linter.unusedSimpArgs false
namespace Go.Proofs.Ytfonfdpimbnfaaa.OSendPlays
open Go.RowKit Go.Proofs.YtfonfdpimbnfaaaW.PrintWords Go.Proofs.YtfonfdpimbnfaaaW.PrintLast Go.Proofs.YtfonfdpimbnfaaaW.PrintMore Go.Proofs.Ytfonfdpimbnfaaa.GQ Go.Proofs.Ytfonfdpimbnfaaa.GGot Go.Proofs.Ytfonfdpimbnfaaa.U Go.Proofs.Ytfonfdpimbnfaaa.OSendRaw
abbrev kS := Kd.string
open Classical in
/-- The law's answer within the row's bounds. -/
noncomputable def tillerlaw20_SendPlays.f (a0 : Int) (a1 : ByteArray) (a2 : Int) (l3 l4 : List Int) (a5 : Int) : Option Bool := if (l3.length ≤ 17592186044416 ∧ l4.length ≤ 17592186044416) ∧ (-9223372036854775808 ≤ a5 ∧ a5 ≤ 9223372036854775807) then some true else none
theorem got_set (num n a : Int) (P : List ByteArray) (C : List Bool) (hP : P.length ≤ 100000) (hC : C.length = P.length) : ∃ (C' : List Bool) (e : Int), send_Got.f num P C n a = some (num, P, C', e) ∧ ((n ≠ num ∧ C' = C ∧ e = 14) ∨ (n = num ∧ (a < 0 ∨ a ≥ (P.length : Int)) ∧ C' = C ∧ e = 8) ∨ (n = num ∧ 0 ≤ a ∧ a < (P.length : Int) ∧ C' = C.set a.toNat true ∧ e = 0)) := by
  by_cases h : n = num
  · subst h
    by_cases h2 : a < 0 ∨ a ≥ (P.length : Int)
    · exact ⟨_, _, Got_none P C h2, .inr (.inl ⟨rfl, h2, rfl, rfl⟩)⟩
    · exact ⟨_, _, Got_eq C hP (by omega) (by omega), .inr (.inr ⟨rfl, by omega, by omega, by rw [norm_id hC], rfl⟩)⟩
  · exact ⟨_, _, Got_old P C h, .inl ⟨h, rfl, rfl⟩⟩
/-- A state's box, its rows and the document's parts: they stay while the blocks ok stay. -/
structure Sp (w W : World) (ok : Nat → Prop) (B : Nat) (num : Int) (A1 : Option Addr) (c1 : Nat) (A2 : Option Addr) (c2 : Nat) (A17 : Option Addr) (c17 n : Nat) (P : List ByteArray) (C : List Bool) : Prop where
  box : W.heap[B]? = some (.cells #[.int .i64 num, .slice A1 n c1, .slice A2 n c2] 32 (0, 0))
  p : Kd.V kS 9 W 0 ok (.slice A1 n c1) P
  q : Kd.V kB 4 W 0 ok (.slice A2 n c2) C
  r : Kd.V kS 9 W 0 ok (.slice A17 n c17) P
  plen : P.length = n
  qlen : C.length = n
  bel : Below w.heap.size w W
  low : w.heap.size ≤ B
theorem Sp.step {w W W' : World} {ok : Nat → Prop} {B : Nat} {num : Int} {A1 : Option Addr} {c1 : Nat} {A2 : Option Addr} {c2 : Nat} {A17 : Option Addr} {c17 n : Nat} {P : List ByteArray} {C : List Bool} (h : Sp w W ok B num A1 c1 A2 c2 A17 c17 n P C) (hb : Below W.heap.size W W') : Sp w W' ok B num A1 c1 A2 c2 A17 c17 n P C :=
  ⟨blk_below h.box hb, Kd.V_below h.p hb, Kd.V_below h.q hb, Kd.V_below h.r hb, h.plen, h.qlen, h.bel.trans (hb.mono h.bel.size), h.low⟩
theorem Sp.mono {w W : World} {ok ok' : Nat → Prop} {B : Nat} {num : Int} {A1 : Option Addr} {c1 : Nat} {A2 : Option Addr} {c2 : Nat} {A17 : Option Addr} {c17 n : Nat} {P : List ByteArray} {C : List Bool} (h : Sp w W ok B num A1 c1 A2 c2 A17 c17 n P C) (hk : ∀ k, ok k → k < W.heap.size → ok' k) : Sp w W ok' B num A1 c1 A2 c2 A17 c17 n P C :=
  ⟨h.box, Kd.V_mono (Kd.V_bound h.p) (fun k q => hk k q.1 q.2), Kd.V_mono (Kd.V_bound h.q) (fun k q => hk k q.1 q.2), Kd.V_mono (Kd.V_bound h.r) (fun k q => hk k q.1 q.2), h.plen, h.qlen, h.bel, h.low⟩
/-- What lies behind a call of Got that has laid its state into a new box: the new box, the old one, the row came. -/
structure Gt (w W : World) (g B G : Nat) (num : Int) (A1 : Option Addr) (c1 : Nat) (A2 : Option Addr) (c2 : Nat) (A5 : Option Addr) (c5 : Nat) (A6 : Option Addr) (c6 : Nat) (A17 : Option Addr) (c17 n cg : Nat) (P : List ByteArray) (C C' : List Bool) : Prop where
  sp : Sp w W (fun k => k ≠ g ∧ k ≠ B) G num A5 c5 A6 c6 A17 c17 n P C'
  old : W.heap[B]? = some (.cells #[.int .i64 num, .slice A1 n c1, .slice A2 n c2] 32 (0, 0))
  came : kB.R 4 W w.heap.size (fun k => k = g) (.slice (some ⟨g, 0, none⟩) n cg) C
  gG : g ≠ G
  BG : B ≠ G
theorem R_row_lt {W : World} {b : Nat} {ok : Nat → Prop} {g n c : Nat} {C : List Bool} (h : kB.R 4 W b ok (.slice (some ⟨g, 0, none⟩) n c) C) (hn : 0 < C.length) : g < W.heap.size := by
  obtain ⟨g', cap, e, _, hl, _⟩ := Kd.R_form h hn
  injection e with e1 e2 e3
  injection e1 with e1
  injection e1 with e1
  omega
theorem Sp.got1 {w wr W w1 : World} {g B : Nat} {num : Int} {A1 : Option Addr} {c1 : Nat} {A2 : Option Addr} {c2 : Nat} {A5 : Option Addr} {c5 : Nat} {A6 : Option Addr} {c6 : Nat} {A17 : Option Addr} {c17 n cg b : Nat} {P : List ByteArray} {C C' : List Bool} (h : Sp w wr (fun k => k ≠ g ∧ k ≠ B) B num A1 c1 A2 c2 A17 c17 n P C) (hG : kB.R 4 wr w.heap.size (fun k => k = g) (.slice (some ⟨g, 0, none⟩) n cg) C) (hn : 1 ≤ n) (hW : Below wr.heap.size wr W)
    (h1 : Kd.V kS 9 w1 b (fun k => (((k ≠ g ∧ k ≠ B) ∧ k < wr.heap.size) ∨ ((k ≠ g ∧ k ≠ B) ∧ k < wr.heap.size)) ∨ W.heap.size ≤ k) (.slice A5 n c5) P) (h2 : Kd.V kB 4 w1 b (fun k => (((k ≠ g ∧ k ≠ B) ∧ k < wr.heap.size) ∨ ((k ≠ g ∧ k ≠ B) ∧ k < wr.heap.size)) ∨ W.heap.size ≤ k) (.slice A6 n c6) C') (hb : Below W.heap.size W w1) (hC : C'.length = n) :
    Gt w (w1.alloc (.cells #[.int .i64 num, .slice A5 n c5, .slice A6 n c6] 32 (0, 0))) g B w1.heap.size num A1 c1 A2 c2 A5 c5 A6 c6 A17 c17 n cg P C C' := by
  have hg := R_row_lt hG (by rw [h.qlen]; omega)
  have hB := blk_lt h.box
  have hb1 : Below wr.heap.size wr w1 := hW.trans (hb.mono hW.size)
  have hb2 : Below w1.heap.size w1 (w1.alloc (.cells #[.int .i64 num, .slice A5 n c5, .slice A6 n c6] 32 (0, 0))) := below_alloc (Below.refl _ _) _
  have hb3 := hb1.trans (hb2.mono hb1.size)
  have hk : ∀ k, (((k ≠ g ∧ k ≠ B) ∧ k < wr.heap.size) ∨ ((k ≠ g ∧ k ≠ B) ∧ k < wr.heap.size)) ∨ W.heap.size ≤ k → k ≠ g ∧ k ≠ B := fun k q => by have := hW.size; omega
  have z1 := hb1.size
  exact ⟨⟨blk_new _ _, Kd.V_below (Kd.V_mono h1 hk) hb2, Kd.V_below (Kd.V_mono h2 hk) hb2, Kd.V_below h.r hb3, h.plen, hC, h.bel.trans (hb3.mono h.bel.size), Nat.le_trans h.bel.size z1⟩, blk_below h.box hb3, Kd.R_below hG hb3, by omega, by omega⟩
theorem Sp.got2 {w wr W w1 : World} {g B G : Nat} {num : Int} {A1 : Option Addr} {c1 : Nat} {A2 : Option Addr} {c2 : Nat} {A5 : Option Addr} {c5 : Nat} {A6 : Option Addr} {c6 : Nat} {A17 : Option Addr} {c17 n cg b : Nat} {P : List ByteArray} {C C' : List Bool} {u0 u1 u2 : Value} (h : Sp w wr (fun k => k ≠ g ∧ k ≠ B) B num A1 c1 A2 c2 A17 c17 n P C) (hG : kB.R 4 wr w.heap.size (fun k => k = g) (.slice (some ⟨g, 0, none⟩) n cg) C) (hn : 1 ≤ n) (hW : Below wr.heap.size wr W) (hZ : W.heap[G]? = some (.cells #[u0, u1, u2] 32 (0, 0))) (hGw : wr.heap.size ≤ G)
    (h1 : Kd.V kS 9 w1 b (fun k => (((k ≠ g ∧ k ≠ B) ∧ k < wr.heap.size) ∨ ((k ≠ g ∧ k ≠ B) ∧ k < wr.heap.size)) ∨ W.heap.size ≤ k) (.slice A5 n c5) P) (h2 : Kd.V kB 4 w1 b (fun k => (((k ≠ g ∧ k ≠ B) ∧ k < wr.heap.size) ∨ ((k ≠ g ∧ k ≠ B) ∧ k < wr.heap.size)) ∨ W.heap.size ≤ k) (.slice A6 n c6) C') (hb : Below W.heap.size W w1) (hC : C'.length = n) :
    Gt w (((w1.setCell ⟨G, 0, none⟩ (.int .i64 num)).setCell ⟨G, 1, none⟩ (.slice A5 n c5)).setCell ⟨G, 2, none⟩ (.slice A6 n c6)) g B G num A1 c1 A2 c2 A5 c5 A6 c6 A17 c17 n cg P C C' := by
  have hg := R_row_lt hG (by rw [h.qlen]; omega)
  have hB := blk_lt h.box
  have hGW := blk_lt hZ
  have hb1 : Below wr.heap.size wr w1 := hW.trans (hb.mono hW.size)
  have hk : ∀ k, (((k ≠ g ∧ k ≠ B) ∧ k < wr.heap.size) ∨ ((k ≠ g ∧ k ≠ B) ∧ k < wr.heap.size)) ∨ W.heap.size ≤ k → k ≠ g ∧ k ≠ B := fun k q => by have := hW.size; omega
  have hfar : ∀ k, (((k ≠ g ∧ k ≠ B) ∧ k < wr.heap.size) ∨ ((k ≠ g ∧ k ≠ B) ∧ k < wr.heap.size)) ∨ W.heap.size ≤ k → k ≠ G := fun k q => by omega
  have hbB : Below wr.heap.size wr (((w1.setCell ⟨G, 0, none⟩ (.int .i64 num)).setCell ⟨G, 1, none⟩ (.slice A5 n c5)).setCell ⟨G, 2, none⟩ (.slice A6 n c6)) := ((hb1.setCell (p := ⟨G, 0, none⟩) hGw _).setCell (p := ⟨G, 1, none⟩) hGw _).setCell (p := ⟨G, 2, none⟩) hGw _
  have hbox := blk_set (blk_set (blk_set (blk_below hZ hb) 0 (.int .i64 num)) 1 (.slice A5 n c5)) 2 (.slice A6 n c6)
  refine ⟨⟨by simpa using hbox, Kd.V_mono (Kd.V_far (p := ⟨G, 2, none⟩) (Kd.V_far (p := ⟨G, 1, none⟩) (Kd.V_far (p := ⟨G, 0, none⟩) h1 hfar _) hfar _) hfar _) hk, Kd.V_mono (Kd.V_far (p := ⟨G, 2, none⟩) (Kd.V_far (p := ⟨G, 1, none⟩) (Kd.V_far (p := ⟨G, 0, none⟩) h2 hfar _) hfar _) hfar _) hk, Kd.V_below h.r hbB, h.plen, hC, h.bel.trans (hbB.mono h.bel.size), Nat.le_trans h.bel.size hGw⟩, blk_below h.box hbB, Kd.R_below hG hbB, by omega, by omega⟩
/-- The row came is written at a place. -/
theorem Gt.put {w W : World} {g B G : Nat} {num : Int} {A1 : Option Addr} {c1 : Nat} {A2 : Option Addr} {c2 : Nat} {A5 : Option Addr} {c5 : Nat} {A6 : Option Addr} {c6 : Nat} {A17 : Option Addr} {c17 n cg : Nat} {P : List ByteArray} {C C' : List Bool} (h : Gt w W g B G num A1 c1 A2 c2 A5 c5 A6 c6 A17 c17 n cg P C C') (hg : w.heap.size ≤ g) (hB : B ≠ g) (y : Int) (b : Bool) :
    Gt w (W.setCell ⟨g, y.toNat, none⟩ (.bool b)) g B G num A1 c1 A2 c2 A5 c5 A6 c6 A17 c17 n cg P (C.set y.toNat b) C' := by
  have hk : ∀ k, k ≠ g ∧ k ≠ B → k ≠ (⟨g, y.toNat, none⟩ : Addr).block := fun k q => q.1
  refine ⟨⟨?_, Kd.V_far (p := ⟨g, y.toNat, none⟩) h.sp.p hk _, Kd.V_far (p := ⟨g, y.toNat, none⟩) h.sp.q hk _, Kd.V_far (p := ⟨g, y.toNat, none⟩) h.sp.r hk _, h.sp.plen, h.sp.qlen, h.sp.bel.setCell (p := ⟨g, y.toNat, none⟩) hg _, h.sp.low⟩, ?_, Kd.R_putn h.came y b, h.gG, h.BG⟩
  · rw [Below.heap_setCell _ (⟨g, y.toNat, none⟩ : Addr) _ G (Ne.symm h.gG)]; exact h.sp.box
  · rw [Below.heap_setCell _ (⟨g, y.toNat, none⟩ : Addr) _ B hB]; exact h.old
theorem Gt.step {w W W' : World} {g B G : Nat} {num : Int} {A1 : Option Addr} {c1 : Nat} {A2 : Option Addr} {c2 : Nat} {A5 : Option Addr} {c5 : Nat} {A6 : Option Addr} {c6 : Nat} {A17 : Option Addr} {c17 n cg : Nat} {P : List ByteArray} {C C' : List Bool} (h : Gt w W g B G num A1 c1 A2 c2 A5 c5 A6 c6 A17 c17 n cg P C C') (hb : Below W.heap.size W W') : Gt w W' g B G num A1 c1 A2 c2 A5 c5 A6 c6 A17 c17 n cg P C C' :=
  ⟨h.sp.step hb, blk_below h.old hb, Kd.R_below h.came hb, h.gG, h.BG⟩
/-- What Next says at a place. -/
theorem next_at {num : Int} {P : List ByteArray} {C' : List Bool} {n : Nat} {most : Int} (hn : P.length = n) {L : List Int} {NX : List S46} (hL : ints (lft C' n) = L) (hNX : ((lft C' n).take most.toNat).map (prt num P) = NX) (j : Nat) (hj : j < NX.length) :
    rd_T46 NX (j : Int) = ⟨num, rd L (j : Int), (n : Int), rdOf ByteArray.empty P (rd L (j : Int))⟩ ∧ 0 ≤ rd L (j : Int) ∧ rd L (j : Int) < (n : Int) ∧ j < L.length := by
  subst hL hNX
  rw [List.length_map, List.length_take] at hj
  have h1 : j < (lft C' n).length := by omega
  have hm := (lft_mem (List.getElem_mem h1)).1
  rw [rd_ints h1]
  refine ⟨?_, by omega, by omega, by rw [ints_len]; exact h1⟩
  unfold rd_T46
  rw [Int.toNat_natCast, List.getD_eq_getElem?_getD, List.getElem?_eq_getElem (by rw [List.length_map, List.length_take]; omega)]
  simp only [List.getElem_map, List.getElem_take, Option.getD_some]
  unfold prt
  rw [hn]
/-- The new state is laid into the old box. -/
theorem Gt.back {w W : World} {g B G : Nat} {num : Int} {A1 : Option Addr} {c1 : Nat} {A2 : Option Addr} {c2 : Nat} {A5 : Option Addr} {c5 : Nat} {A6 : Option Addr} {c6 : Nat} {A17 : Option Addr} {c17 n cg : Nat} {P : List ByteArray} {C' : List Bool} (h : Gt w W g B G num A1 c1 A2 c2 A5 c5 A6 c6 A17 c17 n cg P C' C') (hB : w.heap.size ≤ B) (hg : g ≠ B) :
    Aside0 (Sp w (((W.setCell ⟨B, 0, none⟩ (.int .i64 num)).setCell ⟨B, 1, none⟩ (.slice A5 n c5)).setCell ⟨B, 2, none⟩ (.slice A6 n c6)) (fun k => k ≠ g ∧ k ≠ B) B num A5 c5 A6 c6 A17 c17 n P C') ∧ Aside0 (kB.R 4 (((W.setCell ⟨B, 0, none⟩ (.int .i64 num)).setCell ⟨B, 1, none⟩ (.slice A5 n c5)).setCell ⟨B, 2, none⟩ (.slice A6 n c6)) w.heap.size (fun k => k = g) (.slice (some ⟨g, 0, none⟩) n cg) C') := by
  have hk : ∀ k, k ≠ g ∧ k ≠ B → k ≠ B := fun k q => q.2
  have hm : ∀ k, k = g → k ≠ B := fun k q => by omega
  have hbox := blk_set (blk_set (blk_set h.old 0 (.int .i64 num)) 1 (.slice A5 n c5)) 2 (.slice A6 n c6)
  refine ⟨⟨⟨by simpa using hbox, Kd.V_far (p := ⟨B, 2, none⟩) (Kd.V_far (p := ⟨B, 1, none⟩) (Kd.V_far (p := ⟨B, 0, none⟩) h.sp.p hk _) hk _) hk _, Kd.V_far (p := ⟨B, 2, none⟩) (Kd.V_far (p := ⟨B, 1, none⟩) (Kd.V_far (p := ⟨B, 0, none⟩) h.sp.q hk _) hk _) hk _, Kd.V_far (p := ⟨B, 2, none⟩) (Kd.V_far (p := ⟨B, 1, none⟩) (Kd.V_far (p := ⟨B, 0, none⟩) h.sp.r hk _) hk _) hk _, h.sp.plen, h.sp.qlen, ((h.sp.bel.setCell (p := ⟨B, 0, none⟩) hB _).setCell (p := ⟨B, 1, none⟩) hB _).setCell (p := ⟨B, 2, none⟩) hB _, hB⟩⟩, ⟨Kd.R_far (p := ⟨B, 2, none⟩) (Kd.R_far (p := ⟨B, 1, none⟩) (Kd.R_far (p := ⟨B, 0, none⟩) h.came hm _) hm _) hm _⟩⟩
set_option maxHeartbeats 16000000 in
set_option maxRecDepth 100000 in
theorem tillerlaw20_SendPlays.calls (num : Int) (t : ByteArray) (sz : Int) (A3 : Option Addr) (c3 : Nat) (l3 : List Int) (A4 : Option Addr) (c4 : Nat) (l4 : List Int) (most : Int) (r : Bool) (w : World) (hr3 : Kd.C kI w A3 l3.length l3) (hc3 : l3.length ≤ c3) (hr4 : Kd.C kI w A4 l4.length l4) (hc4 : l4.length ≤ c4) (hr_ : Aside0 (r = true)) (h : tillerlaw20_SendPlays.f num t sz l3 l4 most = some r) : Calls Try.prog 4 #[.int .i64 num, .string t, .int .i64 sz, .slice A3 l3.length c3, .slice A4 l4.length c4, .int .i64 most] w fun e w' => e = .returned (.bool r) ∧ Below w.heap.size w w' := by
  obtain ⟨r_⟩ := hr_
  subst r_
  have hI : (l3.length ≤ 17592186044416 ∧ l4.length ≤ 17592186044416) ∧ (-9223372036854775808 ≤ most ∧ most ≤ 9223372036854775807) := by
    unfold tillerlaw20_SendPlays.f at h
    by_cases e : (l3.length ≤ 17592186044416 ∧ l4.length ≤ 17592186044416) ∧ (-9223372036854775808 ≤ most ∧ most ≤ 9223372036854775807)
    · exact e
    · rw [if_neg e] at h; cases h
  have hcut := Cut14_eq t 3000
  have hts := Cut14_size t 3000
  obtain ⟨T, hT⟩ : ∃ T, (if t.size ≤ 3000 then t else t.extract 0 3000) = T := ⟨_, rfl⟩
  rw [hT] at hcut hts
  obtain ⟨P, num0, ee, b1, b2, b3, b4, b5, b6⟩ := begin_any num sz T hts
  obtain ⟨n, hn⟩ : ∃ n, P.length = n := ⟨_, rfl⟩
  obtain ⟨m3, hm3⟩ : ∃ m, l3.length = m := ⟨_, rfl⟩
  obtain ⟨m4, hm4⟩ : ∃ m, l4.length = m := ⟨_, rfl⟩
  rw [hn] at b2 b4 b6
  rw [hm3] at hr3 hc3 hI
  rw [hm4] at hr4 hc4 hI
  rw [hm3, hm4]
  have HN := Aside0.mk hn
  have HM := Aside0.mk (And.intro hm3 hm4)
  have H3 := Aside0.mk (And.intro hr3 hc3)
  have H4 := Aside0.mk (And.intro hr4 hc4)
  have HI := Aside0.mk hI
  have B2 := Aside0.mk b1
  have B3 := Aside0.mk b2
  have B4 := Aside0.mk b3
  have LN := Aside0.mk b4
  have BE := Aside0.mk (And.intro b5 b6)
  have FC := Aside0.mk (tillerlaw14_Cut.calls t 3000 T w hcut)
  have AW := Aside0.mk (awake20 (k := 100) (by omega))
  have TE := Aside0.mk (Texts_eq (k := 4000) P (by omega) (by omega))
  clear h hI hr3 hr4 hc3 hc4 hcut hts hT b1 b2 b3 b4 b5 b6 hn hm3 hm4
  go_enter Try.func4, Try.ntmps4
  go_upto_region 2 with (go_at_call 11; go_loud ((refine FC.out.mono ?_); rintro e w1 ⟨rfl, ⟨⟨m, hm⟩⟩⟩; have W1 := Aside0.mk (show Below w.heap.size w w1 from hm ▸ pw_below_drewN (Below.refl _ _) m); clear hm))
  go_upto_region 3 with (go_at_call 12; go_loud ((with_reducible refine (send_Cut.calls 10000 T sz P ee w1 B2.out).mono ?_); rintro e w2 ⟨va, rfl, hR, hb⟩; obtain ⟨A13, c13, rfl⟩ := Kd.R_slice hR; rw [HN.out] at hR ⊢; have R13 := Aside0.mk hR; have W2 := Aside0.mk (W1.out.trans (hb.mono W1.out.size)); clear hR hb))
  go_upto_region 4 with (go_at_call 14; go_loud ((with_reducible refine (send_Begin.calls 10000 num T sz num0 P (List.replicate n false) ee w2 B3.out).mono ?_); rintro e w3 ⟨v1, v2, rfl, h1, h2, hb⟩; obtain ⟨A1, c1, rfl⟩ := Kd.R_slice h1; obtain ⟨A2, c2, rfl⟩ := Kd.R_slice h2; rw [HN.out] at h1 ⊢; rw [List.length_replicate] at h2 ⊢; have V1 := Aside0.mk h1; have V2 := Aside0.mk h2; have Q13 := Aside0.mk (Kd.R_below R13.out hb); have W3 := Aside0.mk (W2.out.trans (hb.mono W2.out.size)); clear h1 h2 hb))
  have EB := Aside0.mk (blk_new w3 (.cells #[.int .i64 num0, .slice A1 n c1, .slice A2 n c2] 32 (0, 0)))
  have bb := below_alloc (Below.refl w3.heap.size w3) (.cells #[.int .i64 num0, .slice A1 n c1, .slice A2 n c2] 32 (0, 0))
  have P1 := Aside0.mk (Kd.R_below (Kd.R_mono (ok' := fun k => k ≠ w3.heap.size) (Kd.R_bound V1.out) (fun k q => Nat.ne_of_lt q.2.2.1)) bb)
  have P2 := Aside0.mk (Kd.R_below (Kd.R_mono (ok' := fun k => k ≠ w3.heap.size) (Kd.R_bound V2.out) (fun k q => Nat.ne_of_lt q.2.2.1)) bb)
  have P13 := Aside0.mk (Kd.R_below Q13.out bb)
  have W4 := Aside0.mk (W3.out.trans (bb.mono W3.out.size))
  have LB := Aside0.mk W3.out.size
  clear V1 V2 Q13 bb R13 W1 W2 W3 FC B2 B3
  generalize w3.alloc (.cells #[.int .i64 num0, .slice A1 n c1, .slice A2 n c2] 32 (0, 0)) = w4 at EB P1 P2 P13 W4 ⊢
  generalize w3.heap.size = B at EB LB P1 P2 ⊢
  go_upto_region 5 with (go_at_call 15; go_loud ((with_reducible refine (tillerref20_Cut.calls 10000 T sz P ee w4 B4.out).mono ?_); rintro e w5 ⟨va, rfl, hR, hb⟩; obtain ⟨A17, c17, rfl⟩ := Kd.R_slice hR; rw [HN.out] at hR ⊢; have S5 := Aside0.mk (show Sp w w5 (fun k => k ≠ B) B num0 A1 c1 A2 c2 A17 c17 n P (List.replicate n false) from ⟨blk_below EB.out hb, Kd.R_V (Kd.R_below P1.out hb), Kd.R_V (Kd.R_below P2.out hb), Kd.R_V (Kd.R_mono (Kd.R_bound hR) (fun k q => by have h1 := q.2.1; have h2 := blk_lt EB.out; omega)), HN.out, List.length_replicate .., W4.out.trans (hb.mono W4.out.size), LB.out⟩); have K13 := Aside0.mk (Kd.R_reads' (Kd.R_below P13.out hb)).2; clear hR hb))
  have TC := fun W (hb : Below w5.heap.size w5 W) => tillerlaw20_Texts.calls 4000 A13 c13 P A17 c17 P 0 W (Kd.C_below K13.out.2 hb) (by rw [HN.out]; exact K13.out.1) (Kd.C_below (Kd.V_reads' S5.out.r).2.2 hb) (by rw [HN.out]; exact (Kd.V_reads' S5.out.r).2.1) TE.out
  simp only [HN.out] at TC
  have TC := Aside0.mk TC
  clear P1 P2 P13 W4 EB LB B4
  go_upto_if 66 with (first
    | (go_at_call 13; go_loud ((refine (tillerlaw20_awake.calls 100 true _ AW.out).mono ?_); rintro e w6 ⟨rfl, hb⟩; have B6 := Aside0.mk hb; clear hb))
    | (go_at_call 16; (with_reducible refine (TC.out w6 B6.out).mono ?_); go_loud (rintro e w7 ⟨rfl, ⟨⟨m, hm⟩⟩⟩; have B7 := Aside0.mk (below_step B6.out (hm ▸ pw_below_drewN (Below.refl _ _) m)); clear hm)))
  have S7 := Aside0.mk (S5.out.step B7.out)
  clear S5 K13 TC B6 B7
  go_upto_region 7 with (fail)
  by_cases e0 : ee = 0
  · obtain ⟨hnum, hn1⟩ := BE.out.2 e0
    subst e0 hnum
    have N1 := Aside0.mk hn1
    clear BE hn1
    go_upto_region 9 with (fail)
    have hn0 := LN.out
    have hn1 := N1.out
    go_upto_region 10 with ((with_reducible refine gate_dst (N := 80) rfl ?_); go_loud ((refine Kd.R_make kB (w0 := w7) w7.heap.size 4 rfl (N := 80) rfl 30 (.tmp 79) (.tmp 79) rfl (n : Int) rfl rfl Try.underlying30 (.bool false) 1 (by kernel_rfl) rfl (by decide) (by decide) false (ok := fun _ => True) (okp := fun _ => True) rfl (fun _ hk => hk) trivial (by omega) (by omega) (Below.refl _ _) (Nat.le_refl _) ?_); intro vo w8 ho hb hg hnew; simp only [Int.toNat_natCast] at ho; obtain ⟨g, cg, rfl, hg1, hg2, _⟩ := Kd.R_form ho (by rw [List.length_replicate]; omega); rw [List.length_replicate] at ho ⊢; have G8 := Aside0.mk ho; have HG := Aside0.mk (And.intro hg1 hg2); have S8 := Aside0.mk ((S7.out.mono (ok' := fun k => k ≠ B ∧ k < w7.heap.size) (fun k q h => ⟨q, h⟩)).step hb); clear ho hb hg hnew hg1 hg2))
    have HGW := Aside0.mk (show w.heap.size ≤ g from by have := S7.out.bel.size; have := HG.out.1; omega)
    have LOB := Aside0.mk S7.out.low
    have HGB := Aside0.mk (show B < g from by have := blk_lt S7.out.box; have := HG.out.1; omega)
    have S9 := Aside0.mk (S8.out.mono (ok' := fun k => k ≠ g ∧ k ≠ B) (fun k hk _ => by have := HG.out.1; omega))
    have G9 := Aside0.mk (show kB.R 4 w8 w.heap.size (fun k => k = g) (.slice (some ⟨g, 0, none⟩) n cg) (List.replicate n false) from Kd.R_lower (Kd.R_reok rfl G8.out (fun k hk => by simpa [Value.ownBlock] using hk.symm)) S7.out.bel.size)
    clear S7 S8 G8 hn0 hn1
    go_upto_region 11 with (fail)
    go_loopg [20] 40 (fun kq v20 W => ∃ (i : Nat) (C : List Bool) (A1 : Option Addr) (c1 : Nat) (A2 : Option Addr) (c2 : Nat), v20 = .int .i64 (i : Int) ∧ Aside0 (i + kq = 40) ∧ Aside0 (Sp w W (fun k => k ≠ g ∧ k ≠ B) B num0 A1 c1 A2 c2 A17 c17 n P C) ∧ Aside0 (kB.R 4 W w.heap.size (fun k => k = g) (.slice (some ⟨g, 0, none⟩) n cg) C))
    case atStart => exact ⟨0, _, A1, c1, A2, c2, rfl, ⟨Nat.zero_add _⟩, S9, G9⟩
    case round =>
      clear S9 G9
      obtain ⟨i, C, A1, c1, A2, c2, rfl, HJ, SS, GG⟩ := hrel
      have hj := HJ.out
      by_cases hin : i < m3 ∧ i < m4 ∧ i < 40
      · obtain ⟨i3, i4, i40⟩ := hin
        obtain ⟨k0, rfl⟩ : ∃ k0, gk = k0 + 1 := ⟨gk - 1, by omega⟩
        have d3 : decide ((i : Int) < (m3 : Int)) = true := decide_eq_true (by omega)
        have d4 : decide ((i : Int) < (m4 : Int)) = true := decide_eq_true (by omega)
        have d5 : decide ((i : Int) < 40) = true := decide_eq_true (by omega)
        have d6 : decide (i < m3) = true := decide_eq_true (by omega)
        have d7 : decide (i < m4) = true := decide_eq_true (by omega)
        have d8 : decide (i < 40) = true := decide_eq_true (by omega)
        have HIN := Aside0.mk (And.intro i3 (And.intro i4 i40))
        clear hj
        obtain ⟨ad3, hA3, h3⟩ := Kd.at_int H3.out.1 (i : Int) (by omega) (by omega)
        obtain ⟨ad4, hA4, h4⟩ := Kd.at_int H4.out.1 (i : Int) (by omega) (by omega)
        subst hA3 hA4
        rw [Int.toNat_natCast] at h3 h4
        have S0 := Aside0.mk (SS.out.bel.size)
        have Q3 := Aside0.mk h3
        have Q4 := Aside0.mk h4
        replace h3 := pw_cell_below SS.out.bel h3
        replace h4 := pw_cell_below SS.out.bel h4
        obtain ⟨x, hx⟩ : ∃ x, rd l3 (i : Int) = x := ⟨_, rfl⟩
        obtain ⟨y, hy⟩ : ∃ y, rd l4 (i : Int) = y := ⟨_, rfl⟩
        rw [hx] at h3 Q3
        rw [hy] at h4 Q4
        obtain ⟨C', e2, hg, hw⟩ := got_set num0 x y P C (by rw [HN.out]; have := LN.out; omega) (by rw [HN.out]; exact SS.out.qlen)
        rw [HN.out] at hw
        have HW := Aside0.mk hw
        have LC' := Aside0.mk (show C'.length = n from by rcases hw with ⟨_, h, _⟩ | ⟨_, _, h, _⟩ | ⟨_, _, _, h, _⟩ <;> rw [h] <;> simp [SS.out.qlen])
        have QG := fun W (hb : Below wr.heap.size wr W) => send_Got.calls num0 (fun k => (k ≠ g ∧ k ≠ B) ∧ k < wr.heap.size) A1 c1 P (fun k => (k ≠ g ∧ k ≠ B) ∧ k < wr.heap.size) A2 c2 C x y num0 P C' e2 W (Kd.V_below (Kd.V_bound (by rw [HN.out]; exact SS.out.p)) hb) (Kd.V_below (Kd.V_bound (by rw [SS.out.qlen]; exact SS.out.q)) hb) hg
        simp only [HN.out, SS.out.qlen] at QG
        have QG := Aside0.mk QG
        have x0 := blk_cell SS.out.box 0
        have x1 := blk_cell SS.out.box 1
        have x2 := blk_cell SS.out.box 2
        simp at x0 x1 x2
        clear hx hy hg hw
        go_upto_region 13 with (fail)
        go_cut [21, 22] from 81 to 196 (fun s21 s22 wx => ∃ (G : Nat) (A5 : Option Addr) (c5 : Nat) (A6 : Option Addr) (c6 : Nat), s21 = .pointer (some ⟨G, 0, none⟩) ∧ s22 = .int .i64 e2 ∧ Aside0 (Gt w wx g B G num0 A1 c1 A2 c2 A5 c5 A6 c6 A17 c17 n cg P C C'))
        case first =>
          have BD := Aside0.mk (show Below wr.heap.size wr wr.drew from (Below.refl _ _).drew)
          have BA := Aside0.mk (show Below wr.heap.size wr (wr.alloc (.cells #[.int .i64 0, .slice none 0 0, .slice none 0 0] 32 (0, 0))).drew from (below_alloc (Below.refl _ _) _).drew)
          have BZ := Aside0.mk (show (wr.alloc (.cells #[.int .i64 0, .slice none 0 0, .slice none 0 0] 32 (0, 0))).drew.heap[wr.heap.size]? = some (.cells #[.int .i64 0, .slice none 0 0, .slice none 0 0] 32 (0, 0)) from blk_new wr _)
          have KP := Aside0.mk (show ∀ W, Below wr.heap.size wr W → (W.cell? ⟨B, 0, none⟩ = some (.int .i64 num0) ∧ W.cell? ⟨B, 1, none⟩ = some (.slice A1 n c1) ∧ W.cell? ⟨B, 2, none⟩ = some (.slice A2 n c2) ∧ W.cell? (ad3.add i) = some (.int .i64 x) ∧ W.cell? (ad4.add i) = some (.int .i64 y)) from fun W hb => ⟨pw_cell_below hb x0, pw_cell_below hb x1, pw_cell_below hb x2, pw_cell_below hb h3, pw_cell_below hb h4⟩)
          go_region_held3 (fun W => W.cell? ⟨B, 0, none⟩ = some (.int .i64 num0) ∧ W.cell? ⟨B, 1, none⟩ = some (.slice A1 n c1) ∧ W.cell? ⟨B, 2, none⟩ = some (.slice A2 n c2) ∧ W.cell? (ad3.add i) = some (.int .i64 x) ∧ W.cell? (ad4.add i) = some (.int .i64 y))
            (first | exact KP.out _ BS3.out | exact KP.out _ (below_alloc BS2.out _) | exact KP.out _ BS2.out | exact KP.out _ BA.out | exact KP.out _ BD.out)
            (first
              | (go_at_call 17; (with_reducible refine (QG.out wr.drew BD.out).mono ?_); go_loud (rintro e w1 ⟨v1, v2, rfl, k1, k2, hb⟩; obtain ⟨A5, c5, rfl⟩ := Kd.V_slice k1; obtain ⟨A6, c6, rfl⟩ := Kd.V_slice k2; rw [HN.out] at k1 ⊢; rw [LC'.out] at k2 ⊢; have GT := Aside0.mk (SS.out.got1 GG.out N1.out BD.out k1 k2 hb LC'.out); have BS2 := Aside0.mk (show Below wr.heap.size wr w1 from BD.out.trans hb); clear k1 k2 hb))
              | (go_at_call 17; (with_reducible refine (QG.out (wr.alloc (.cells #[.int .i64 0, .slice none 0 0, .slice none 0 0] 32 (0, 0))).drew BA.out).mono ?_); go_loud (rintro e w1 ⟨v1, v2, rfl, k1, k2, hb⟩; obtain ⟨A5, c5, rfl⟩ := Kd.V_slice k1; obtain ⟨A6, c6, rfl⟩ := Kd.V_slice k2; rw [HN.out] at k1 ⊢; rw [LC'.out] at k2 ⊢; have GT := Aside0.mk (SS.out.got2 GG.out N1.out BA.out BZ.out (Nat.le_refl _) k1 k2 hb LC'.out); have z0 := blk_below BZ.out hb; have u0 := blk_cell z0 0; have u1 := blk_cell z0 1; have u2 := blk_cell z0 2; have u3 := blk_frozen z0 0; have u4 := blk_frozen z0 1; have u5 := blk_frozen z0 2; simp at u0 u1 u2; have BS2 := Aside0.mk (show Below wr.heap.size wr w1 from BA.out.trans (hb.mono (by show wr.heap.size ≤ (wr.alloc (.cells #[.int .i64 0, .slice none 0 0, .slice none 0 0] 32 (0, 0))).heap.size; rw [World.size_alloc]; omega))); have BS3 := Aside0.mk (((BS2.out.setCell (p := ⟨wr.heap.size, 0, none⟩) (Nat.le_refl _) (.int .i64 num0)).setCell (p := ⟨wr.heap.size, 1, none⟩) (Nat.le_refl _) (.slice A5 n c5)).setCell (p := ⟨wr.heap.size, 2, none⟩) (Nat.le_refl _) (.slice A6 n c6)); clear k1 k2 hb z0)))
          all_goals (
            go_wp2
            go_meet
            exact ⟨_, A5, c5, A6, c6, rfl, rfl, GT⟩)
        case rest =>
          obtain ⟨G, A5, c5, A6, c6, rfl, rfl, GT⟩ := hcut
          clear SS GG QG x0 x1 x2 h3 h4
          have e3 := pw_cell_below GT.out.sp.bel Q3.out
          have e4 := pw_cell_below GT.out.sp.bel Q4.out
          have GE := Aside0.mk (show w.heap.size ≤ g from HGW.out)
          go_upto_block 2 with (fail)
          go_cut [23] from 81 to 196 (fun s23 wx => s23 = .int .i64 e2 ∧ Aside0 (Gt w wx g B G num0 A1 c1 A2 c2 A5 c5 A6 c6 A17 c17 n cg P C' C'))
          case first =>
            rcases HW.out with ⟨k1, k2, k3⟩ | ⟨k1, k4, k2, k3⟩ | ⟨k1, k4, k5, k2, k3⟩
            · subst k3
              have f1 : (x == num0) = false := beq_eq_false_iff_ne.mpr k1
              have f2 : (x != num0) = true := bne_iff_ne.mpr k1
              have GT := Aside0.mk (show Gt w wc g B G num0 A1 c1 A2 c2 A5 c5 A6 c6 A17 c17 n cg P C' C' from by have := GT.out; rwa [← k2] at this)
              clear HW k1 k2
              go_wp2
              go_meet
              exact ⟨rfl, GT⟩
            · subst k3
              have f1 : (x == num0) = true := beq_iff_eq.mpr k1
              have f2 : (x != num0) = false := bne_eq_false_iff_eq.mpr k1
              by_cases ea : y < 0
              · have f3 : decide (y < 0) = true := decide_eq_true ea
                have GT := Aside0.mk (show Gt w wc g B G num0 A1 c1 A2 c2 A5 c5 A6 c6 A17 c17 n cg P C' C' from by have := GT.out; rwa [← k2] at this)
                clear HW k1 k2 k4 ea
                go_wp2
                go_meet
                exact ⟨rfl, GT⟩
              · have f3 : decide (y < 0) = false := decide_eq_false ea
                have f4 : decide ((n : Int) ≤ y) = true := decide_eq_true (by omega)
                have GT := Aside0.mk (show Gt w wc g B G num0 A1 c1 A2 c2 A5 c5 A6 c6 A17 c17 n cg P C' C' from by have := GT.out; rwa [← k2] at this)
                clear HW k1 k2 k4 ea
                go_wp2
                go_meet
                exact ⟨rfl, GT⟩
            · subst k3
              have f1 : (x == num0) = true := beq_iff_eq.mpr k1
              have f2 : (x != num0) = false := bne_eq_false_iff_eq.mpr k1
              have f3 : decide (y < 0) = false := decide_eq_false (by omega)
              have f4 : decide ((n : Int) ≤ y) = false := decide_eq_false (by omega)
              obtain ⟨q1, q2⟩ := Kd.R_celln false GT.out.came y k4 (by omega)
              have GT := Aside0.mk (show Gt w (wc.setCell ⟨g, y.toNat, none⟩ (.bool true)) g B G num0 A1 c1 A2 c2 A5 c5 A6 c6 A17 c17 n cg P C' C' from by have := GT.out.put GE.out (by have := HGB.out; omega) y true; rwa [← k2] at this)
              have p1 : ¬ y < 0 := by omega
              clear HW k1 k2
              go_wp2
              go_meet
              exact ⟨rfl, GT⟩
          case rest =>
            clear GT e3 e4
            obtain ⟨rfl, GT⟩ := hcut
            obtain ⟨L, hL⟩ : ∃ L, ints (lft C' n) = L := ⟨_, rfl⟩
            obtain ⟨nL, hnL⟩ : ∃ m, L.length = m := ⟨_, rfl⟩
            have hLF : (lft C' n).length = nL := by rw [← ints_len, hL, hnL]
            have hLL : nL ≤ n := by rw [← hLF]; exact lft_len C' n
            have HNL := Aside0.mk hnL
            have LL := Aside0.mk (show nL ≤ 3001 by have := LN.out; omega)
            have FC := tillerref20_Left.calls 4000 (n : Int) (some ⟨g, 0, none⟩) cg C' L wc (Kd.R_reads' GT.out.came).2.2 (by rw [LC'.out]; exact (Kd.R_reads' GT.out.came).2.1) (by rw [← hL]; exact rLeft_eq C' (by have := LN.out; omega) (by have := LN.out; omega))
            rw [LC'.out] at FC
            have FC := Aside0.mk FC
            go_upto_region 21 with (go_at_call 18; go_loud ((with_reducible refine FC.out.mono ?_); rintro e wl ⟨va, rfl, hR, hb⟩; obtain ⟨A24, c24, rfl⟩ := Kd.R_slice hR; rw [HNL.out] at hR ⊢; have R24 := Aside0.mk hR; have GL := Aside0.mk (GT.out.step hb); clear hR hb))
            clear FC GT
            have LE := Left_eq (k := 4000) num0 (P := P) C' (by rw [HN.out]; have := LN.out; omega) (by rw [HN.out]; have := LN.out; omega)
            rw [HN.out, hL] at LE
            have OE := Over_eq (k := 4000) num0 (P := P) C' (by rw [HN.out]; have := LN.out; omega) (by rw [HN.out]; have := LN.out; omega)
            rw [HN.out, hLF] at OE
            have NE := Next_eq (k := 4000) num0 (P := P) C' most (by rw [HN.out]; have := LN.out; omega) (by rw [HN.out]; have := LN.out; omega)
            rw [HN.out] at NE
            obtain ⟨NX, hNX⟩ : ∃ l, ((lft C' n).take most.toNat).map (prt num0 P) = l := ⟨_, rfl⟩
            rw [hNX] at NE
            obtain ⟨nN, hnN⟩ : ∃ m, NX.length = m := ⟨_, rfl⟩
            have hmx : (nN : Int) = max 0 (min most (nL : Int)) := by rw [← hnN, ← hNX, List.length_map, List.length_take, hLF]; omega
            have HNN := Aside0.mk hnN
            have HNX := Aside0.mk (show ∀ j : Nat, j < nN → rd_T46 NX (j : Int) = ⟨num0, rd L (j : Int), (n : Int), rdOf ByteArray.empty P (rd L (j : Int))⟩ ∧ 0 ≤ rd L (j : Int) ∧ rd L (j : Int) < (n : Int) ∧ j < nL from by intro j hj; have h := next_at HN.out hL hNX j (by rw [hnN]; exact hj); rw [hnL] at h; exact h)
            have QL := fun W (hb : Below wl.heap.size wl W) => send_Left.calls 4000 num0 A5 c5 P A6 c6 C' L W (Kd.V_reads' (Kd.V_below GL.out.sp.p hb)).2.2 (by rw [HN.out]; exact (Kd.V_reads' GL.out.sp.p).2.1) (Kd.V_reads' (Kd.V_below GL.out.sp.q hb)).2.2 (by rw [LC'.out]; exact (Kd.V_reads' GL.out.sp.q).2.1) LE
            have QO := fun W (hb : Below wl.heap.size wl W) => send_Over.calls 4000 num0 A5 c5 P A6 c6 C' ((nL : Int) == 0) W (Kd.V_reads' (Kd.V_below GL.out.sp.p hb)).2.2 (by rw [HN.out]; exact (Kd.V_reads' GL.out.sp.p).2.1) (Kd.V_reads' (Kd.V_below GL.out.sp.q hb)).2.2 (by rw [LC'.out]; exact (Kd.V_reads' GL.out.sp.q).2.1) OE
            have QN := fun W (hb : Below wl.heap.size wl W) => send_Next.calls 4000 num0 A5 c5 P A6 c6 C' most NX W (Kd.V_reads' (Kd.V_below GL.out.sp.p hb)).2.2 (by rw [HN.out]; exact (Kd.V_reads' GL.out.sp.p).2.1) (Kd.V_reads' (Kd.V_below GL.out.sp.q hb)).2.2 (by rw [LC'.out]; exact (Kd.V_reads' GL.out.sp.q).2.1) NE
            have QS := fun (A7 : Option Addr) (c7 : Nat) W (b7 : Nat) (h7 : Kd.R kI 3 W b7 (fun _ => True) (.slice A7 nL c7) L) (hb : Below wl.heap.size wl W) => tillerref10_Same.calls 4000 A7 c7 L A24 c24 L true W (Kd.R_reads' h7).2.2 (by rw [HNL.out]; exact (Kd.R_reads' h7).2.1) (Kd.R_reads' (Kd.R_below R24.out hb)).2.2 (by rw [HNL.out]; exact (Kd.R_reads' R24.out).2.1) (same10 L (by rw [HNL.out]; have := LL.out; omega) (by rw [HNL.out]; have := LL.out; omega))
            simp only [HN.out, LC'.out, HNL.out] at QL QO QN QS
            have QL := Aside0.mk QL
            have QO := Aside0.mk QO
            have QN := Aside0.mk QN
            have QS := Aside0.mk QS
            have B0 := Aside0.mk (Below.refl wl.heap.size wl)
            clear LE OE NE hL hnL hLF hLL hNX hnN
            have x0 := blk_cell GL.out.sp.box 0
            have x1 := blk_cell GL.out.sp.box 1
            have x2 := blk_cell GL.out.sp.box 2
            simp at x0 x1 x2
            have HMX := Aside0.mk hmx
            clear hmx
            go_upto_if 159 with (first
              | (go_at_call 20; (with_reducible refine (QL.out wl B0.out).mono ?_); go_loud (rintro e w14 ⟨va, rfl, hR, hb⟩; obtain ⟨A7, c7, rfl⟩ := Kd.R_slice hR; rw [HNL.out] at hR ⊢; have B2 := Aside0.mk (below_step B0.out hb); have SC := Aside0.mk (QS.out A7 c7 w14 _ hR B2.out); replace x0 := pw_cell_below hb x0; replace x1 := pw_cell_below hb x1; replace x2 := pw_cell_below hb x2; clear hR hb))
              | (go_at_call 19; go_loud ((with_reducible refine SC.out.mono ?_); rintro e w15 ⟨rfl, ⟨⟨m, hm⟩⟩⟩; have hb : Below w14.heap.size w14 w15 := (hm ▸ pw_below_drewN (Below.refl _ _) m); have B3 := Aside0.mk (below_step B2.out hb); replace x0 := pw_cell_below hb x0; replace x1 := pw_cell_below hb x1; replace x2 := pw_cell_below hb x2; clear hm hb))
              | (go_at_call 21; (with_reducible refine (QO.out w15 B3.out).mono ?_); go_loud (rintro e w16 ⟨rfl, hb⟩; have B4 := Aside0.mk (below_step B3.out hb); replace x0 := pw_cell_below hb x0; replace x1 := pw_cell_below hb x1; replace x2 := pw_cell_below hb x2; clear hb)))
            go_upto_if 170 with (go_at_call 22; (with_reducible refine (QN.out w16 B4.out).mono ?_); go_loud (rintro e w17 ⟨va, rfl, hR, hb⟩; obtain ⟨A25, c25, rfl⟩ := Kd.R_slice hR; rw [HNN.out] at hR ⊢; have R25 := Aside0.mk hR; have B5 := Aside0.mk (below_step B4.out hb); clear hR hb))
            rw [← HMX.out]
            have G17 := Aside0.mk (GL.out.step B5.out)
            have R17 := Aside0.mk (Kd.R_below R24.out B5.out)
            clear GL B0 B2 B3 B4 x0 x1 x2 QL QO QN QS SC R24
            go_upto_region 27 with (fail)
            go_loopg [173] nN (fun kq v173 W => ∃ (j : Nat), v173 = .int .i64 (j : Int) ∧ Aside0 (j + kq = nN) ∧ Aside0 (Below w17.heap.size w17 W))
            case atStart => exact ⟨0, rfl, ⟨Nat.zero_add _⟩, ⟨Below.refl _ _⟩⟩
            case round =>
              obtain ⟨j, rfl, HJ2, BJ⟩ := hrel
              have hj := HJ2.out
              cases gk with
              | succ q' =>
                obtain ⟨hx1, z0, z1, z2⟩ := HNX.out j (by omega)
                have b1 : (j : Int) < (nN : Int) := by omega
                have b2 : decide ((j : Int) < (nN : Int)) = true := decide_eq_true b1
                have b3 : decide (j < nN) = true := decide_eq_true (by omega)
                have b4 : (j : Int) < (nL : Int) := by omega
                obtain ⟨ad5, hA5, y0, y1, y2, y3⟩ := at_T46 (show Kd.C k46 w17 A25 nN NX from by have := (Kd.R_reads' R25.out).2.2; rwa [HNN.out] at this) (j : Int) (by omega) b1
                obtain ⟨ad6, hA6, y4⟩ := Kd.at_int (show Kd.C kI w17 A24 nL L from by have := (Kd.R_reads' R17.out).2.2; rwa [HNL.out] at this) (j : Int) (by omega) b4
                obtain ⟨z, hz⟩ : ∃ z, rd L (j : Int) = z := ⟨_, rfl⟩
                rw [hx1] at y0 y1 y2 y3
                rw [Int.toNat_natCast] at y0 y1 y2 y3 y4
                rw [hz] at y0 y1 y2 y3 y4 z0 z1
                obtain ⟨ad7, hA7, y5⟩ := Kd.at_string (show Kd.C kS w17 A17 n P from by have := (Kd.V_reads' G17.out.sp.r).2.2; rwa [HN.out] at this) z z0 z1
                obtain ⟨st, hst⟩ : ∃ s, rdOf ByteArray.empty P z = s := ⟨_, rfl⟩
                rw [hst] at y3 y5
                simp only at y0 y1 y2 y3
                subst hA5 hA6 hA7
                replace y0 := pw_cell_below BJ.out y0
                replace y1 := pw_cell_below BJ.out y1
                replace y2 := pw_cell_below BJ.out y2
                replace y3 := pw_cell_below BJ.out y3
                clear hx1 hz hst hj
                go_upto_region 29 with (fail)
                have BB := below_alloc (Below.refl wr.heap.size wr) (.cells #[.int .i64 num0, .int .i64 z, .int .i64 n, .string st] 46 (0, 0))
                have ZB := blk_new wr (.cells #[.int .i64 num0, .int .i64 z, .int .i64 n, .string st] 46 (0, 0))
                have B8 := Aside0.mk (below_step BJ.out BB)
                replace y4 := pw_cell_below B8.out y4
                replace y5 := pw_cell_below B8.out y5
                generalize wr.alloc (.cells #[.int .i64 num0, .int .i64 z, .int .i64 n, .string st] 46 (0, 0)) = wz at ZB B8 y4 y5 ⊢
                generalize wr.heap.size = Z at ZB ⊢
                have v0 := blk_cell ZB 0
                have v1 := blk_cell ZB 1
                have v2 := blk_cell ZB 2
                have v3 := blk_cell ZB 3
                simp at v0 v1 v2 v3
                have zn : z.toNat < n := by omega
                clear y0 y1 y2 y3 BB ZB
                go_quiet (fail)
                go_wp2
                go_roundg q'
                case measure => omega
                case rel => exact ⟨j + 1, by rw [w64 (x := (j : Int) + 1) (by have := LL.out; omega) (by have := LL.out; omega)]; rfl, ⟨by have := HJ2.out; omega⟩, ⟨below_step B8.out (pw_below_drewN (Below.refl _ _) _)⟩⟩
              | zero =>
                have b2 : decide ((j : Int) < (nN : Int)) = false := decide_eq_false (by omega)
                have b3 : decide (j < nN) = false := decide_eq_false (by omega)
                clear hj
                have G18 := Aside0.mk (G17.out.step BJ.out)
                have x0 := blk_cell G18.out.sp.box 0
                have x1 := blk_cell G18.out.sp.box 1
                have x2 := blk_cell G18.out.sp.box 2
                have x3 := blk_frozen G18.out.old 0
                have x4 := blk_frozen G18.out.old 1
                have x5 := blk_frozen G18.out.old 2
                have x6 := blk_cell G18.out.old 0
                have x7 := blk_cell G18.out.old 1
                have x8 := blk_cell G18.out.old 2
                simp at x0 x1 x2 x6 x7 x8
                have NB := Aside0.mk (G18.out.back LOB.out (by have := HGB.out; omega))
                clear R17 R25 G17
                go_wp2
                go_roundg k0
                case measure => omega
                case rel => exact ⟨i + 1, C', A5, c5, A6, c6, by go_num, ⟨by have := HJ.out; omega⟩, NB.out.1, NB.out.2⟩
      · have BL := Aside0.mk SS.out.bel
        have dd : (decide ((i : Int) < (m3 : Int)) = false ∧ decide (i < m3) = false) ∨ ((decide ((i : Int) < (m3 : Int)) = true ∧ decide (i < m3) = true) ∧ decide ((i : Int) < (m4 : Int)) = false ∧ decide (i < m4) = false) ∨ ((decide ((i : Int) < (m3 : Int)) = true ∧ decide (i < m3) = true) ∧ (decide ((i : Int) < (m4 : Int)) = true ∧ decide (i < m4) = true) ∧ decide ((i : Int) < 40) = false ∧ decide (i < 40) = false) := by
          simp only [decide_eq_true_eq, decide_eq_false_iff_not]
          omega
        clear hj hin
        rcases dd with ⟨d3, d6⟩ | ⟨⟨d3, d6⟩, d4, d7⟩ | ⟨⟨d3, d6⟩, ⟨d4, d7⟩, d5, d8⟩
        all_goals (
          go_wp2
          go_ret
          exact ⟨rfl, BL.out⟩)
  · obtain ⟨hP, hnum⟩ := BE.out.1 e0
    subst hP hnum
    have hn0 : n = 0 := HN.out.symm
    subst hn0
    have d1 : (ee == 0) = false := beq_eq_false_iff_ne.mpr e0
    have d2 : (ee != 0) = true := bne_iff_ne.mpr e0
    have x0 := blk_cell S7.out.box 0
    have x1 := blk_cell S7.out.box 1
    have x2 := blk_cell S7.out.box 2
    simp at x0 x1 x2
    have BL := Aside0.mk S7.out.bel
    clear BE e0
    go_wp2
    go_ret
    exact ⟨rfl, BL.out⟩
end Go.Proofs.Ytfonfdpimbnfaaa.OSendPlays
