/- RecvWhole, walked by hand. -/
import Derived.Test.YtfonfdpimbnfaaaGQx2
import Derived.Test.YtfonfdpimbnfaaaGQx3
import Derived.Test.YtfonfdpimbnfaaaGQx9
import Derived.Test.YtfonfdpimbnfaaaGQx11
import Derived.Test.YtfonfdpimbnfaaaGQx12
import Derived.Test.YtfonfdpimbnfaaaGQx13
import Derived.Test.YtfonfdpimbnfaaaGQx16
import Derived.Test.YtfonfdpimbnfaaaURecv3
import Derived.Test.YtfonfdpimbnfaaaUAwake21
import Derived.Outline
import Derived.LoopN
import Derived.BigQuiet
import Derived.Deep.RegionHeld3
set_option linter.unusedVariables false
set_option linter.unusedSimpArgs false
namespace Go.Proofs.Ytfonfdpimbnfaaa.ORecvWhole
open Go.RowKit Go.Proofs.YtfonfdpimbnfaaaW.PrintWords Go.Proofs.YtfonfdpimbnfaaaW.PrintLast Go.Proofs.YtfonfdpimbnfaaaW.PrintMore Go.Proofs.Ytfonfdpimbnfaaa.GQ Go.Proofs.Ytfonfdpimbnfaaa.GGot Go.Proofs.Ytfonfdpimbnfaaa.U
abbrev kI := Kd.int .i64
abbrev kB := Kd.bool
abbrev kS := Kd.string
open Classical in
/-- The law's answer within the row's bounds. -/
noncomputable def tillerlaw21_RecvWhole.f (a0 : Int) (a1 : ByteArray) (a2 : Int) (l3 : List Int) : Option Bool := if l3.length ≤ 17592186044416 then some true else none
/-- The two states: their boxes and rows. -/
structure Sw (w W : World) (S R : Nat) (num : Int) (n : Nat) (A1 : Option Addr) (c1 : Nat) (A2 : Option Addr) (c2 : Nat) (A3 : Option Addr) (c3 : Nat) (A4 : Option Addr) (c4 : Nat) (P : List ByteArray) (D : List Bool) (Q : List ByteArray) (D2 : List Bool) : Prop where
  s : W.heap[S]? = some (.cells #[.int .i64 num, .slice A1 n c1, .slice A2 n c2] 32 (0, 0))
  r : W.heap[R]? = some (.cells #[.int .i64 num, .slice A3 n c3, .slice A4 n c4] 50 (0, 0))
  p : ∀ b, Kd.V kS 9 W b (fun k => k ≠ S ∧ k ≠ R) (.slice A1 n c1) P
  q : ∀ b, Kd.V kB 4 W b (fun k => k ≠ S ∧ k ≠ R) (.slice A2 n c2) D
  p2 : ∀ b, Kd.V kS 9 W b (fun k => k ≠ S ∧ k ≠ R) (.slice A3 n c3) Q
  q2 : ∀ b, Kd.V kB 4 W b (fun k => k ≠ S ∧ k ≠ R) (.slice A4 n c4) D2
  bel : Below w.heap.size w W
  ls : w.heap.size ≤ S
  lr : w.heap.size ≤ R
  ne : S ≠ R
theorem anyb {α : Type} {d : Kd α} {e b : Nat} {W : World} {ok : Nat → Prop} {v : Value} {xs : List α} (h : Kd.V d e W b ok v xs) (b' : Nat) : Kd.V d e W b' ok v xs := Kd.V_mono (Kd.V_bound h) (fun k q => q.1)
theorem Sw.step {w W W' : World} {S R : Nat} {num : Int} {n : Nat} {A1 : Option Addr} {c1 : Nat} {A2 : Option Addr} {c2 : Nat} {A3 : Option Addr} {c3 : Nat} {A4 : Option Addr} {c4 : Nat} {P : List ByteArray} {D : List Bool} {Q : List ByteArray} {D2 : List Bool} (h : Sw w W S R num n A1 c1 A2 c2 A3 c3 A4 c4 P D Q D2) (hb : Below W.heap.size W W') : Sw w W' S R num n A1 c1 A2 c2 A3 c3 A4 c4 P D Q D2 :=
  ⟨blk_below h.s hb, blk_below h.r hb, fun b => Kd.V_below (h.p b) hb, fun b => Kd.V_below (h.q b) hb, fun b => Kd.V_below (h.p2 b) hb, fun b => Kd.V_below (h.q2 b) hb, h.bel.trans (hb.mono h.bel.size), h.ls, h.lr, h.ne⟩
theorem go_far (W1 : World) (p : Addr) (u : Value) (o : Obj) (g : Nat) (hg : g ≠ p.block) (ho : W1.heap[g]? = some o) : (W1.setCell p u).heap[g]? = some o := by rw [Below.heap_setCell _ _ _ _ hg]; exact ho
theorem far3 {α : Type} {d : Kd α} {e b : Nat} {v : Value} {xs : List α} {W : World} {ok : Nat → Prop} {B : Nat} (hk : ∀ k, ok k → k ≠ B) (u0 u1 u2 : Value) (hv : Kd.V d e W b ok v xs) : Kd.V d e (((W.setCell ⟨B, 0, none⟩ u0).setCell ⟨B, 1, none⟩ u1).setCell ⟨B, 2, none⟩ u2) b ok v xs :=
  Kd.V_far (p := ⟨B, 2, none⟩) (Kd.V_far (p := ⟨B, 1, none⟩) (Kd.V_far (p := ⟨B, 0, none⟩) hv hk _) hk _) hk _
/-- A new state of who gets the text. -/
theorem Sw.backR {w W : World} {S R : Nat} {num : Int} {n : Nat} {A1 : Option Addr} {c1 : Nat} {A2 : Option Addr} {c2 : Nat} {A3 : Option Addr} {c3 : Nat} {A4 : Option Addr} {c4 : Nat} {P : List ByteArray} {D : List Bool} {Q : List ByteArray} {D2 : List Bool} (h : Sw w W S R num n A1 c1 A2 c2 A3 c3 A4 c4 P D Q D2)
    {A5 : Option Addr} {c5 : Nat} {A6 : Option Addr} {c6 : Nat} {Q' : List ByteArray} {D' : List Bool} {b1 b2 : Nat} (hp : Kd.V kS 9 W b1 (fun k => k ≠ S ∧ k ≠ R) (.slice A5 n c5) Q') (hq : Kd.V kB 4 W b2 (fun k => k ≠ S ∧ k ≠ R) (.slice A6 n c6) D') :
    Sw w (((W.setCell ⟨R, 0, none⟩ (.int .i64 num)).setCell ⟨R, 1, none⟩ (.slice A5 n c5)).setCell ⟨R, 2, none⟩ (.slice A6 n c6)) S R num n A1 c1 A2 c2 A5 c5 A6 c6 P D Q' D' := by
  have hk : ∀ k, k ≠ S ∧ k ≠ R → k ≠ R := fun k q => q.2
  have e1 := blk_set (blk_set (blk_set h.r 0 (.int .i64 num)) 1 (.slice A5 n c5)) 2 (.slice A6 n c6)
  exact ⟨go_far _ ⟨R, 2, none⟩ _ _ S h.ne (go_far _ ⟨R, 1, none⟩ _ _ S h.ne (go_far _ ⟨R, 0, none⟩ _ _ S h.ne h.s)), by simpa using e1, fun b => far3 hk _ _ _ (h.p b), fun b => far3 hk _ _ _ (h.q b), fun b => far3 hk _ _ _ (anyb hp b), fun b => far3 hk _ _ _ (anyb hq b), ((h.bel.setCell (p := ⟨R, 0, none⟩) h.lr _).setCell (p := ⟨R, 1, none⟩) h.lr _).setCell (p := ⟨R, 2, none⟩) h.lr _, h.ls, h.lr, h.ne⟩
/-- A new state of who sends the text. -/
theorem Sw.backS {w W : World} {S R : Nat} {num : Int} {n : Nat} {A1 : Option Addr} {c1 : Nat} {A2 : Option Addr} {c2 : Nat} {A3 : Option Addr} {c3 : Nat} {A4 : Option Addr} {c4 : Nat} {P : List ByteArray} {D : List Bool} {Q : List ByteArray} {D2 : List Bool} (h : Sw w W S R num n A1 c1 A2 c2 A3 c3 A4 c4 P D Q D2)
    {A5 : Option Addr} {c5 : Nat} {A6 : Option Addr} {c6 : Nat} {P' : List ByteArray} {D' : List Bool} {b1 b2 : Nat} (hp : Kd.V kS 9 W b1 (fun k => k ≠ S ∧ k ≠ R) (.slice A5 n c5) P') (hq : Kd.V kB 4 W b2 (fun k => k ≠ S ∧ k ≠ R) (.slice A6 n c6) D') :
    Sw w (((W.setCell ⟨S, 0, none⟩ (.int .i64 num)).setCell ⟨S, 1, none⟩ (.slice A5 n c5)).setCell ⟨S, 2, none⟩ (.slice A6 n c6)) S R num n A5 c5 A6 c6 A3 c3 A4 c4 P' D' Q D2 := by
  have hk : ∀ k, k ≠ S ∧ k ≠ R → k ≠ S := fun k q => q.1
  have e1 := blk_set (blk_set (blk_set h.s 0 (.int .i64 num)) 1 (.slice A5 n c5)) 2 (.slice A6 n c6)
  exact ⟨by simpa using e1, go_far _ ⟨S, 2, none⟩ _ _ R (Ne.symm h.ne) (go_far _ ⟨S, 1, none⟩ _ _ R (Ne.symm h.ne) (go_far _ ⟨S, 0, none⟩ _ _ R (Ne.symm h.ne) h.r)), fun b => far3 hk _ _ _ (anyb hp b), fun b => far3 hk _ _ _ (anyb hq b), fun b => far3 hk _ _ _ (h.p2 b), fun b => far3 hk _ _ _ (h.q2 b), ((h.bel.setCell (p := ⟨S, 0, none⟩) h.ls _).setCell (p := ⟨S, 1, none⟩) h.ls _).setCell (p := ⟨S, 2, none⟩) h.ls _, h.ls, h.lr, h.ne⟩
theorem all_true {D : List Bool} {n : Nat} (h : D.length = n) (ha : ∀ j : Nat, j < n → D.getD j false = true) : D.countP id = n := by
  rw [← h, List.countP_eq_length]
  intro a hm
  obtain ⟨i, hi, rfl⟩ := List.mem_iff_getElem.1 hm
  have := ha i (by omega)
  rwa [List.getD_eq_getElem?_getD, List.getElem?_eq_getElem hi, Option.getD_some] at this
set_option maxHeartbeats 16000000 in
set_option maxRecDepth 100000 in
theorem tillerlaw21_RecvWhole.calls (num : Int) (t : ByteArray) (sz : Int) (A : Option Addr) (c : Nat) (l : List Int) (r : Bool) (w : World) (hr : Kd.C kI w A l.length l) (hc : l.length ≤ c) (hr_ : Aside0 (r = true)) (h : tillerlaw21_RecvWhole.f num t sz l = some r) : Calls Try.prog 10 #[.int .i64 num, .string t, .int .i64 sz, .slice A l.length c] w fun e w' => e = .returned (.bool r) ∧ Below w.heap.size w w' := by
  obtain ⟨r_⟩ := hr_
  subst r_
  have hI : l.length ≤ 17592186044416 := by
    unfold tillerlaw21_RecvWhole.f at h
    by_cases e : l.length ≤ 17592186044416
    · exact e
    · rw [if_neg e] at h; cases h
  obtain ⟨ml, hml⟩ : ∃ m, l.length = m := ⟨_, rfl⟩
  rw [hml] at hr hc hI ⊢
  have HL := Aside0.mk (And.intro hr (And.intro hc hml))
  have HI := Aside0.mk hI
  have AW := Aside0.mk (awake21 (k := 100) (by omega))
  have hcut := Cut14_eq t 300
  have hts := Cut14_size t 300
  obtain ⟨T, hT⟩ : ∃ T, (if t.size ≤ 300 then t else t.extract 0 300) = T := ⟨_, rfl⟩
  rw [hT] at hcut hts
  obtain ⟨P, num0, ee, hb, hc1, hc2⟩ := begin_whole num sz T hts
  obtain ⟨n, hn⟩ : ∃ m, P.length = m := ⟨_, rfl⟩
  rw [hn] at hb hc2
  have FC := Aside0.mk hcut
  have TS := Aside0.mk hts
  have BC := Aside0.mk hb
  have HC := Aside0.mk (And.intro hc1 hc2)
  have HN := Aside0.mk hn
  clear h hI hr hc hml hb hcut hts hT hc1 hc2 hn
  go_enter Try.func10, Try.ntmps10
  go_upto_region 2 with (go_at_call 11; go_loud ((refine (tillerlaw14_Cut.calls t 300 T w FC.out).mono ?_); rintro e w1 ⟨rfl, ⟨⟨m, hm⟩⟩⟩; have W1 := Aside0.mk (show Below w.heap.size w w1 from hm ▸ pw_below_drewN (Below.refl _ _) m); clear hm))
  go_upto_region 3 with (go_at_call 14; go_loud ((with_reducible refine (send_Begin.calls 10000 num T sz num0 P (List.replicate n false) ee w1 BC.out).mono ?_); rintro e w3 ⟨v1, v2, rfl, h1, h2, hb⟩; obtain ⟨A1, c1, rfl⟩ := Kd.R_slice h1; obtain ⟨A2, c2, rfl⟩ := Kd.R_slice h2; rw [HN.out] at h1 ⊢; rw [List.length_replicate] at h2 ⊢; have V1 := Aside0.mk h1; have V2 := Aside0.mk h2; have W3 := Aside0.mk (W1.out.trans (hb.mono W1.out.size)); clear h1 h2 hb))
  have EB := blk_new w3 (.cells #[.int .i64 num0, .slice A1 n c1, .slice A2 n c2] 32 (0, 0))
  have bb := below_alloc (Below.refl w3.heap.size w3) (.cells #[.int .i64 num0, .slice A1 n c1, .slice A2 n c2] 32 (0, 0))
  have P1 := Aside0.mk (Kd.R_below (Kd.R_mono (ok' := fun k => k ≠ w3.heap.size) (Kd.R_bound V1.out) (fun k q => Nat.ne_of_lt q.2.2.1)) bb)
  have P2 := Aside0.mk (Kd.R_below (Kd.R_mono (ok' := fun k => k ≠ w3.heap.size) (Kd.R_bound V2.out) (fun k q => Nat.ne_of_lt q.2.2.1)) bb)
  have W4 := Aside0.mk (W3.out.trans (bb.mono W3.out.size))
  have LB := Aside0.mk W3.out.size
  clear V1 V2 bb W1 W3 FC BC
  generalize w3.alloc (.cells #[.int .i64 num0, .slice A1 n c1, .slice A2 n c2] 32 (0, 0)) = w4 at EB P1 P2 W4 ⊢
  generalize w3.heap.size = S at EB LB P1 P2 ⊢
  have x1 := blk_cell EB 1
  simp at x1
  by_cases e0 : ee = 0
  · subst e0
    obtain ⟨rfl, n1, n2, n3, n4⟩ := HC.out.2 rfl
    have RW := Aside0.mk (rw_begin HN.out n1 n2 n3 TS.out n4)
    have NB := Aside0.mk (And.intro n1 n2)
    have BG := Aside0.mk (rBegin_eq num0 (n := n) n1 (by omega))
    have EB := Aside0.mk EB
    clear HC n1 n2 n3 n4
    go_upto_region 6 with (go_at_call 23; go_loud ((with_reducible refine (recv_Begin.calls num0 (n : Int) num0 (List.replicate n ⟨#[]⟩) (List.replicate n false) 0 w4 BG.out).mono ?_); rintro e w5 ⟨v1, v2, rfl, h1, h2, hb⟩; obtain ⟨A3, c3, rfl⟩ := Kd.R_slice h1; obtain ⟨A4, c4, rfl⟩ := Kd.R_slice h2; rw [List.length_replicate] at h1 h2 ⊢; rw [List.length_replicate] at ⊢; have V3 := Aside0.mk (Kd.R_mono (ok' := fun k => k ≠ S ∧ k < w5.heap.size) (Kd.R_bound h1) (fun k q => by have h3 := blk_lt EB.out; have h4 := q.2; omega)); have V4 := Aside0.mk (Kd.R_mono (ok' := fun k => k ≠ S ∧ k < w5.heap.size) (Kd.R_bound h2) (fun k q => by have h3 := blk_lt EB.out; have h4 := q.2; omega)); have W5 := Aside0.mk (W4.out.trans (hb.mono W4.out.size)); have E5 := Aside0.mk (blk_below EB.out hb); have Q1 := Aside0.mk (Kd.R_below P1.out hb); have Q2 := Aside0.mk (Kd.R_below P2.out hb); clear h1 h2 hb))
    have SS := Aside0.mk (show Sw w (w5.alloc (.cells #[.int .i64 num0, .slice A3 n c3, .slice A4 n c4] 50 (0, 0))) S w5.heap.size num0 n A1 c1 A2 c2 A3 c3 A4 c4 P (List.replicate n false) (List.replicate n ⟨#[]⟩) (List.replicate n false) from by
      have bb := below_alloc (Below.refl w5.heap.size w5) (.cells #[.int .i64 num0, .slice A3 n c3, .slice A4 n c4] 50 (0, 0))
      have hB := blk_lt E5.out
      have z : ∀ k, k ≠ S ∧ k < w5.heap.size → k ≠ S ∧ k ≠ w5.heap.size := fun k q => ⟨q.1, Nat.ne_of_lt q.2⟩
      exact ⟨blk_below E5.out bb, blk_new _ _, fun b => Kd.V_below (Kd.V_mono (Kd.V_bound (Kd.R_V Q1.out)) z) bb, fun b => Kd.V_below (Kd.V_mono (Kd.V_bound (Kd.R_V Q2.out)) z) bb, fun b => Kd.V_below (Kd.V_mono (Kd.R_V V3.out) z) bb, fun b => Kd.V_below (Kd.V_mono (Kd.R_V V4.out) z) bb, W5.out.trans (bb.mono W5.out.size), LB.out, W5.out.size, by omega⟩)
    clear Q1 Q2 V3 V4 E5 W5 LB P1 P2 EB W4 x1 BG
    generalize w5.alloc (.cells #[.int .i64 num0, .slice A3 n c3, .slice A4 n c4] 50 (0, 0)) = w6 at SS ⊢
    generalize w5.heap.size = R at SS ⊢
    go_upto_if 55 with (fail)
    go_cut [3] (fun s3 wx => s3 = .slice A (min ml 100) c ∧ wx = w6)
    case first =>
      by_cases hc : 100 < ml
      · have e1 : decide ((100 : Int) < (ml : Int)) = true := decide_eq_true (by omega)
        have e2 : decide (100 < ml) = true := decide_eq_true hc
        have q1 : (100 : Int) ≤ (c : Int) := by have := HL.out.2.1; omega
        have q2 : 100 ≤ c := by omega
        have hmin : min ml 100 = 100 := by omega
        have HMIN := Aside0.mk hmin
        clear hmin
        first | rw [e1] | rw [e2]
        go_wp2
        go_meet
        exact ⟨by rw [HMIN.out], rfl⟩
      · have e1 : decide ((100 : Int) < (ml : Int)) = false := decide_eq_false (by omega)
        have e2 : decide (100 < ml) = false := decide_eq_false hc
        have hmin : min ml 100 = ml := by omega
        have HMIN := Aside0.mk hmin
        clear hc hmin
        first | rw [e1] | rw [e2]
        go_wp2
        go_meet
        exact ⟨by rw [HMIN.out], rfl⟩
    case rest =>
      obtain ⟨rfl, rfl⟩ := hcut
      obtain ⟨lo, hlo⟩ : ∃ lo, l.take (min ml 100) = lo := ⟨_, rfl⟩
      obtain ⟨no, hno⟩ : ∃ no, min ml 100 = no := ⟨_, rfl⟩
      have LO := Aside0.mk (show Kd.C kI w A no lo ∧ no ≤ 100 from by
        refine ⟨?_, by omega⟩
        have h := HL.out.1
        have h2 := HL.out.2.2
        rw [← h2] at h
        have := Kd.C_take h (by rw [h2]; omega : min ml 100 ≤ l.length)
        rw [← hlo, ← hno]
        rw [List.length_take, h2, Nat.min_eq_left (Nat.min_le_left ml 100)] at this
        exact this)
      rw [hno]
      clear hlo hno HL
      go_upto_region 11 with (fail)
      go_loopg [13] (no + n) (fun kq v13 W => ∃ (i : Nat) (A1 : Option Addr) (c1 : Nat) (A2 : Option Addr) (c2 : Nat) (A3 : Option Addr) (c3 : Nat) (A4 : Option Addr) (c4 : Nat) (D : List Bool) (Q : List ByteArray), v13 = .int .i64 (i : Int) ∧ Aside0 (i + kq = no + n) ∧ Aside0 (Sw w W S R num0 n A1 c1 A2 c2 A3 c3 A4 c4 P D Q D) ∧ Aside0 (Rw n T P D Q) ∧ Aside0 (∀ j : Nat, j < n → j + no < i → D.getD j false = true))
      case atStart => exact ⟨0, _, _, _, _, _, _, _, _, _, _, rfl, ⟨Nat.zero_add _⟩, SS, RW, ⟨fun j _ h => absurd h (Nat.not_lt_zero _)⟩⟩
      case round =>
        clear SS RW
        obtain ⟨i, A1, c1, A2, c2, A3, c3, A4, c4, D, Q, rfl, HJ, SS, RW, VI⟩ := hrel
        have hj := HJ.out
        cases gk with
        | succ k0 =>
          have nb := NB.out
          have lo1 := LO.out.2
          have w1 : IntKind.i64.wrap ((no : Int) + (n : Int)) = (no : Int) + (n : Int) := by rw [IntKind.wrap_i64]; omega
          have d1 : decide ((i : Int) < (no : Int) + (n : Int)) = true := decide_eq_true (by omega)
          have d2 : (i : Int) < (no : Int) + (n : Int) := by omega
          have w2 : IntKind.i64.wrap ((i : Int) - (no : Int)) = (i : Int) - (no : Int) := by rw [IntKind.wrap_i64]; omega
          have IB := Aside0.mk (show i < 500 from by omega)
          clear hj nb lo1
          obtain ⟨y, hy⟩ : ∃ y, y = (if i < no then rd lo (i : Int) else (i : Int) - (no : Int)) := ⟨_, rfl⟩
          have HY := Aside0.mk hy
          have x1 := blk_cell SS.out.s 1
          simp at x1
          go_upto_if 75 with (fail)
          go_cut [14] from 58 to 154 (fun s14 wx => s14 = .int .i64 y ∧ Aside0 (Sw w wx S R num0 n A1 c1 A2 c2 A3 c3 A4 c4 P D Q D))
          case first =>
            by_cases hi : i < no
            · have e1 : decide ((i : Int) < (no : Int)) = true := decide_eq_true (by omega)
              have e2 : decide (i < no) = true := decide_eq_true hi
              obtain ⟨ad, hA, h1⟩ := Kd.at_int LO.out.1 (i : Int) (by omega) (by omega)
              subst hA
              replace h1 := pw_cell_below SS.out.bel h1
              rw [if_pos hi] at hy
              rw [← hy, Int.toNat_natCast] at h1
              clear hy
              first | rw [e1] | rw [e2]
              go_wp2
              go_meet
              exact ⟨rfl, SS⟩
            · have e1 : decide ((i : Int) < (no : Int)) = false := decide_eq_false (by omega)
              have e2 : decide (i < no) = false := decide_eq_false hi
              rw [if_neg hi] at hy
              subst hy
              first | rw [e1] | rw [e2]
              go_wp2
              go_meet
              exact ⟨rfl, SS⟩
          case rest =>
            clear SS x1
            obtain ⟨rfl, SS⟩ := hcut
            clear hy w1 w2 d1 d2
            have x1 := blk_cell SS.out.s 1
            simp at x1
            by_cases hr : y < 0 ∨ y ≥ (n : Int)
            · have VN := Aside0.mk (show ∀ j : Nat, j < n → j + no < i + 1 → D.getD j false = true from by
                intro j h1 h2
                by_cases h3 : j + no < i
                · exact VI.out j h1 h3
                · have h4 := HY.out
                  rw [if_neg (by omega)] at h4
                  omega)
              rcases (show (decide (y < 0) = true) ∨ (decide (y < 0) = false ∧ decide ((n : Int) ≤ y) = true) from by
                by_cases h1 : y < 0
                · exact .inl (decide_eq_true h1)
                · exact .inr ⟨decide_eq_false h1, decide_eq_true (by omega)⟩) with e1 | ⟨e1, e2⟩
              all_goals (
                clear hr
                go_wp2
                go_roundg k0
                case measure => omega
                case rel => exact ⟨i + 1, A1, c1, A2, c2, A3, c3, A4, c4, D, Q, by have h9 := IB.out; rw [w64 (x := (i : Int) + 1) (by omega) (by omega)]; rfl, ⟨by have := HJ.out; omega⟩, SS, RW, VN⟩)
            · obtain ⟨j, rfl⟩ : ∃ j : Nat, y = (j : Int) := ⟨y.toNat, by omega⟩
              have hj : j < n := by omega
              have e1 : decide ((j : Int) < 0) = false := decide_eq_false (by omega)
              have e2 : decide ((n : Int) ≤ (j : Int)) = false := decide_eq_false (by omega)
              have e3 : decide (n ≤ j) = false := decide_eq_false (by omega)
              have VN := Aside0.mk (show ∀ k : Nat, k < n → k + no < i + 1 → k = j ∨ D.getD k false = true from by
                intro k h1 h2
                by_cases h3 : k + no < i
                · exact .inr (VI.out k h1 h3)
                · have h4 := HY.out
                  rw [if_neg (by omega)] at h4
                  left
                  omega)
              have HJN := Aside0.mk hj
              obtain ⟨ad, hA, h1⟩ := Kd.at_string (show Kd.C kS wc A1 n P from by have h := (Kd.V_reads' (SS.out.p 0)).2.2; rw [RW.out.p] at h; exact h) (j : Int) (by omega) (by omega)
              subst hA
              rw [rdS, Int.toNat_natCast] at h1
              obtain ⟨st, hst⟩ : ∃ s, P.getD j ByteArray.empty = s := ⟨_, rfl⟩
              rw [hst] at h1
              have HST := Aside0.mk hst
              clear hr hst
              go_upto_region 17 with (fail)
              have KP := Aside0.mk (show ∀ W, Below wc.heap.size wc W → (W.cell? ⟨S, 1, none⟩ = some (.slice (some ad) n c1) ∧ W.cell? (ad.add j) = some (.string st)) from fun W hb => ⟨pw_cell_below hb x1, pw_cell_below hb h1⟩)
              go_region_held3 (fun W => W.cell? ⟨S, 1, none⟩ = some (.slice (some ad) n c1) ∧ W.cell? (ad.add j) = some (.string st))
                (first | exact KP.out _ ((Below.refl _ _).drew) | exact KP.out _ ((below_alloc (Below.refl _ _) _).drew) | exact KP.out _ (below_alloc ((Below.refl _ _).drew) _))
                (fail)
              go_upto_region 18 with (fail)
              have EP := Aside0.mk (show (wc.alloc (.cells #[.int .i64 num0, .int .i64 j, .int .i64 n, .string st] 46 (0, 0))).drew.heap[wc.heap.size]? = some (.cells #[.int .i64 num0, .int .i64 j, .int .i64 n, .string st] 46 (0, 0)) from blk_new wc _)
              have SA := Aside0.mk (SS.out.step ((below_alloc (Below.refl wc.heap.size wc) (.cells #[.int .i64 num0, .int .i64 j, .int .i64 n, .string st] 46 (0, 0))).drew))
              clear KP SS x1 h1
              generalize (wc.alloc (.cells #[.int .i64 num0, .int .i64 j, .int .i64 n, .string st] 46 (0, 0))).drew = wa at EP SA ⊢
              generalize wc.heap.size = G at EP ⊢
              obtain ⟨Q', is, hT, hRW, hcn, hkp⟩ := take_own RW.out num0 j HJN.out
              rw [HST.out] at hT
              obtain ⟨D', hD'⟩ : ∃ D', D.set j true = D' := ⟨_, rfl⟩
              rw [hD'] at hT hRW hcn hkp
              have hGt := got_own RW.out num0 j HJN.out
              rw [hD'] at hGt
              have hms := miss_any num0 RW.out.q RW.out.d (by have := RW.out.high; omega)
              have hmx := miss_any num0 hRW.q hRW.d (by have := RW.out.high; omega)
              have hc1 : D.countP id ≤ n := by have := List.countP_le_length (p := id) (l := D); rw [RW.out.d] at this; exact this
              have hc2 : D'.countP id ≤ n := by have := List.countP_le_length (p := id) (l := D'); rw [hRW.d] at this; exact this
              obtain ⟨mr, hmr⟩ : ∃ m : Int, (n : Int) - (D.countP id : Int) = m := ⟨_, rfl⟩
              obtain ⟨mx, hmx'⟩ : ∃ m : Int, (n : Int) - (D'.countP id : Int) = m := ⟨_, rfl⟩
              rw [hmr] at hms
              rw [hmx'] at hmx
              have MB := Aside0.mk (show 0 ≤ mr ∧ mr ≤ 301 ∧ 0 ≤ mx ∧ (mx == mr - 1) = is from by
                have h7 := RW.out.high
                refine ⟨by omega, by omega, by omega, ?_⟩
                cases is with
                | true => exact beq_iff_eq.2 (by rw [if_pos rfl] at hcn; omega)
                | false => exact beq_eq_false_iff_ne.2 (by rw [if_neg (by decide)] at hcn; omega))
              have VD := Aside0.mk (show ∀ k : Nat, k < n → k + no < i + 1 → D'.getD k false = true from by
                intro k h1 h2
                rcases VN.out k h1 h2 with h3 | h3
                · subst h3
                  rw [← hD', getD_set, if_pos ⟨rfl, by rw [RW.out.d]; exact h1⟩]
                · exact hkp k h3)
              obtain ⟨al, ok, hwh, hok1, hok2⟩ := whole_own hRW num0
              have LX := lft_count (D := D') (n := n) hRW.d
              have HO := Aside0.mk (show ((((lft D' n).length : Nat) : Int) == 0) = ok ∧ ((lft D' n).length : Int) = mx ∧ (ok = true → al = T) from by
                refine ⟨?_, by omega, hok1⟩
                cases ok with
                | true => exact beq_iff_eq.2 (by have := hok2.1 rfl; omega)
                | false => exact beq_eq_false_iff_ne.2 (fun q => by have := hok2.2 (by omega); simp at this))
              have QT := recv_Take.calls 2000 num0 (fun k => k ≠ S ∧ k ≠ R) A3 c3 Q (fun k => k ≠ S ∧ k ≠ R) A4 c4 D num0 (j : Int) (n : Int) st num0 Q' D' is 0 wa (by rw [RW.out.q]; exact SA.out.p2 _) (by rw [RW.out.d]; exact SA.out.q2 _) hT
              rw [RW.out.q, RW.out.d] at QT
              have QT := Aside0.mk QT
              have RW' := Aside0.mk hRW
              have HT2 := Aside0.mk (And.intro hms (And.intro hmx (And.intro hGt hwh)))
              clear hT hRW hcn hkp hD' hGt hms hmx hc1 hc2 hmr hmx' hwh hok1 hok2 LX VN HJN HST
              have x0 := blk_cell SA.out.r 0
              have x1 := blk_cell SA.out.r 1
              have x2 := blk_cell SA.out.r 2
              have y0 := blk_cell EP.out 0
              have y1 := blk_cell EP.out 1
              have y2 := blk_cell EP.out 2
              have y3 := blk_cell EP.out 3
              simp at x0 x1 x2 y0 y1 y2 y3
              go_upto_region 19 with (go_at_call 25; go_loud ((with_reducible refine QT.out.mono ?_); rintro e w4 ⟨v1, v2, rfl, h1, h2, hb⟩; obtain ⟨A5, c5, rfl⟩ := Kd.V_slice h1; obtain ⟨A6, c6, rfl⟩ := Kd.V_slice h2; rw [RW'.out.q] at h1 ⊢; rw [RW'.out.d] at h2 ⊢; have SB := Aside0.mk (SA.out.step hb); have V5 := Aside0.mk (Kd.V_mono (ok' := fun k => k ≠ S ∧ k ≠ R) h1 (fun k q => by have := blk_lt SA.out.s; have := blk_lt SA.out.r; omega)); have V6 := Aside0.mk (Kd.V_mono (ok' := fun k => k ≠ S ∧ k ≠ R) h2 (fun k q => by have := blk_lt SA.out.s; have := blk_lt SA.out.r; omega)); clear h1 h2 hb))
              clear x0 x1 x2 y0 y1 y2 y3 QT SA EP
              have ET := Aside0.mk (blk_new w4 (.cells #[.int .i64 num0, .slice A5 n c5, .slice A6 n c6] 50 (0, 0)))
              have bb := below_alloc (Below.refl w4.heap.size w4) (.cells #[.int .i64 num0, .slice A5 n c5, .slice A6 n c6] 50 (0, 0))
              have SC := Aside0.mk (SB.out.step bb)
              have U5 := Aside0.mk (Kd.V_below V5.out bb)
              have U6 := Aside0.mk (Kd.V_below V6.out bb)
              have NYl := Aside0.mk (And.intro (blk_lt SB.out.s) (blk_lt SB.out.r))
              clear bb V5 V6 SB
              have NY := Aside0.mk (show w4.heap.size ≠ R ∧ w4.heap.size ≠ S from by have h1 := NYl.out; omega)
              generalize w4.alloc (.cells #[.int .i64 num0, .slice A5 n c5, .slice A6 n c6] 50 (0, 0)) = w5 at ET SC U5 U6 ⊢
              generalize w4.heap.size = Y1 at ET NY ⊢
              have QX := recv_Missing.calls 2000 num0 A5 c5 Q' A6 c6 D' mx w5.drew (Kd.V_reads' (Kd.V_below U5.out (Below.refl _ _).drew)).2.2 (by rw [RW'.out.q]; exact (Kd.V_reads' U5.out).2.1) (Kd.V_reads' (Kd.V_below U6.out (Below.refl _ _).drew)).2.2 (by rw [RW'.out.d]; exact (Kd.V_reads' U6.out).2.1) HT2.out.2.1
              have QM := fun W (hb : Below w5.heap.size w5 W) => recv_Missing.calls 2000 num0 A3 c3 Q A4 c4 D mr W (Kd.V_reads' (Kd.V_below (SC.out.p2 0) hb)).2.2 (by rw [RW.out.q]; exact (Kd.V_reads' (SC.out.p2 0)).2.1) (Kd.V_reads' (Kd.V_below (SC.out.q2 0) hb)).2.2 (by rw [RW.out.d]; exact (Kd.V_reads' (SC.out.q2 0)).2.1) HT2.out.1
              simp only [RW'.out.q, RW'.out.d] at QX
              simp only [RW.out.q, RW.out.d] at QM
              have QX := Aside0.mk QX
              have QM := Aside0.mk QM
              have x0 := blk_cell SC.out.r 0
              have x1 := blk_cell SC.out.r 1
              have x2 := blk_cell SC.out.r 2
              have y0 := blk_cell ET.out 0
              have y1 := blk_cell ET.out 1
              have y2 := blk_cell ET.out 2
              simp at x0 x1 x2 y0 y1 y2
              have wm : IntKind.i64.wrap (mr - 1) = mr - 1 := by have := MB.out; rw [IntKind.wrap_i64]; omega
              have qis : (mx == mr - 1) = is := MB.out.2.2.2
              have BD := Aside0.mk (show Below w5.heap.size w5 w5.drew from (Below.refl _ _).drew)
              have KP := Aside0.mk (show ∀ W, Below w5.heap.size w5 W → (W.cell? ⟨R, 0, none⟩ = some (.int .i64 num0) ∧ W.cell? ⟨R, 1, none⟩ = some (.slice A3 n c3) ∧ W.cell? ⟨R, 2, none⟩ = some (.slice A4 n c4) ∧ W.cell? ⟨Y1, 0, none⟩ = some (.int .i64 num0) ∧ W.cell? ⟨Y1, 1, none⟩ = some (.slice A5 n c5) ∧ W.cell? ⟨Y1, 2, none⟩ = some (.slice A6 n c6)) from fun W hb => ⟨pw_cell_below hb x0, pw_cell_below hb x1, pw_cell_below hb x2, pw_cell_below hb y0, pw_cell_below hb y1, pw_cell_below hb y2⟩)
              go_upto_region 19 with (fail)
              go_region_held3 (fun W => W.cell? ⟨R, 0, none⟩ = some (.int .i64 num0) ∧ W.cell? ⟨R, 1, none⟩ = some (.slice A3 n c3) ∧ W.cell? ⟨R, 2, none⟩ = some (.slice A4 n c4) ∧ W.cell? ⟨Y1, 0, none⟩ = some (.int .i64 num0) ∧ W.cell? ⟨Y1, 1, none⟩ = some (.slice A5 n c5) ∧ W.cell? ⟨Y1, 2, none⟩ = some (.slice A6 n c6))
                (first | exact KP.out _ B8.out | exact KP.out _ B7.out | exact KP.out _ BD.out)
                (first
                  | (go_at_call 29; (with_reducible refine QX.out.mono ?_); go_loud (rintro e w7 ⟨rfl, hb⟩; have B7 := Aside0.mk (show Below w5.heap.size w5 w7 from BD.out.trans hb); clear hb))
                  | (go_at_call 29; (with_reducible refine (QM.out w7 B7.out).mono ?_); go_loud (rintro e w8 ⟨rfl, hb⟩; have B8 := Aside0.mk (below_step B7.out hb); clear hb)))
              go_upto_region 21 with (fail)
              have SD := Aside0.mk (SC.out.step B8.out)
              have E8 := Aside0.mk (blk_below ET.out B8.out)
              have V5 := Aside0.mk (Kd.V_below U5.out B8.out)
              have V6 := Aside0.mk (Kd.V_below U6.out B8.out)
              clear x0 x1 x2 y0 y1 y2 wm qis QX QM KP BD B7 B8 SC ET U5 U6 MB
              have n1 : ¬ Y1 = R := NY.out.1
              have SE := Aside0.mk (SD.out.backR V5.out V6.out)
              have x0 := blk_cell E8.out 0
              have x1 := blk_cell E8.out 1
              have x2 := blk_cell E8.out 2
              have z0 := blk_cell SD.out.r 0
              have z1 := blk_cell SD.out.r 1
              have z2 := blk_cell SD.out.r 2
              have z3 := blk_frozen SD.out.r 0
              have z4 := blk_frozen SD.out.r 1
              have z5 := blk_frozen SD.out.r 2
              simp at x0 x1 x2 z0 z1 z2
              go_upto_region 22 with (fail)
              obtain ⟨w9, hw9⟩ : ∃ w9, w9 = ((w8.setCell ⟨R, 0, none⟩ (.int .i64 num0)).setCell ⟨R, 1, none⟩ (.slice A5 n c5)).setCell ⟨R, 2, none⟩ (.slice A6 n c6) := ⟨_, rfl⟩
              rw [← hw9] at SE ⊢
              clear hw9 x0 x1 x2 z0 z1 z2 z3 z4 z5 V5 V6 E8 SD NY n1 NYl
              have QG := send_Got.calls num0 (fun k => k ≠ S ∧ k ≠ R) (some ad) c1 P (fun k => k ≠ S ∧ k ≠ R) A2 c2 D num0 (j : Int) num0 P D' 0 w9 (by rw [RW.out.p]; exact SE.out.p _) (by rw [RW.out.d]; exact SE.out.q _) HT2.out.2.2.1
              simp only [RW.out.p, RW.out.d] at QG
              have QG := Aside0.mk QG
              have x0 := blk_cell SE.out.s 0
              have x1 := blk_cell SE.out.s 1
              have x2 := blk_cell SE.out.s 2
              simp at x0 x1 x2
              go_upto_region 23 with (go_at_call 17; go_loud ((with_reducible refine QG.out.mono ?_); rintro e wg ⟨v1, v2, rfl, h1, h2, hb⟩; obtain ⟨A7, c7, rfl⟩ := Kd.V_slice h1; obtain ⟨A8, c8, rfl⟩ := Kd.V_slice h2; rw [RW.out.p] at h1 ⊢; rw [RW'.out.d] at h2 ⊢; have SF := Aside0.mk (SE.out.step hb); have V7 := Aside0.mk (Kd.V_mono (ok' := fun k => k ≠ S ∧ k ≠ R) h1 (fun k q => by have := blk_lt SE.out.s; have := blk_lt SE.out.r; omega)); have V8 := Aside0.mk (Kd.V_mono (ok' := fun k => k ≠ S ∧ k ≠ R) h2 (fun k q => by have := blk_lt SE.out.s; have := blk_lt SE.out.r; omega)); clear h1 h2 hb))
              clear x0 x1 x2 QG SE
              have ET := Aside0.mk (blk_new wg (.cells #[.int .i64 num0, .slice A7 n c7, .slice A8 n c8] 32 (0, 0)))
              have bb := below_alloc (Below.refl wg.heap.size wg) (.cells #[.int .i64 num0, .slice A7 n c7, .slice A8 n c8] 32 (0, 0))
              have NY := Aside0.mk (show wg.heap.size ≠ S from by have := blk_lt SF.out.s; omega)
              have SG := Aside0.mk (SF.out.step bb)
              have U7 := Aside0.mk (Kd.V_below V7.out bb)
              have U8 := Aside0.mk (Kd.V_below V8.out bb)
              clear bb V7 V8 SF
              generalize wg.alloc (.cells #[.int .i64 num0, .slice A7 n c7, .slice A8 n c8] 32 (0, 0)) = wh at ET SG U7 U8 ⊢
              generalize wg.heap.size = Y2 at ET NY ⊢
              have SH := Aside0.mk (SG.out.backS U7.out U8.out)
              have x0 := blk_cell ET.out 0
              have x1 := blk_cell ET.out 1
              have x2 := blk_cell ET.out 2
              have z0 := blk_cell SG.out.s 0
              have z1 := blk_cell SG.out.s 1
              have z2 := blk_cell SG.out.s 2
              have z3 := blk_frozen SG.out.s 0
              have z4 := blk_frozen SG.out.s 1
              have z5 := blk_frozen SG.out.s 2
              simp at x0 x1 x2 z0 z1 z2
              have n1 : ¬ Y2 = S := NY.out
              go_upto_region 26 with (fail)
              obtain ⟨wk, hwk⟩ : ∃ wk, wk = ((wh.setCell ⟨S, 0, none⟩ (.int .i64 num0)).setCell ⟨S, 1, none⟩ (.slice A7 n c7)).setCell ⟨S, 2, none⟩ (.slice A8 n c8) := ⟨_, rfl⟩
              rw [← hwk] at SH ⊢
              clear hwk x0 x1 x2 z0 z1 z2 z3 z4 z5 U7 U8 ET SG NY n1
              have QW := recv_Whole.calls 2000 num0 A5 c5 Q' A6 c6 D' al ok wk (Kd.V_reads' (SH.out.p2 0)).2.2 (by rw [RW'.out.q]; exact (Kd.V_reads' (SH.out.p2 0)).2.1) (Kd.V_reads' (SH.out.q2 0)).2.2 (by rw [RW'.out.d]; exact (Kd.V_reads' (SH.out.q2 0)).2.1) HT2.out.2.2.2
              have QO := fun W (hb : Below wk.heap.size wk W) => send_Over.calls 2000 num0 A7 c7 P A8 c8 D' ok W (Kd.V_reads' (Kd.V_below (SH.out.p 0) hb)).2.2 (by rw [RW.out.p]; exact (Kd.V_reads' (SH.out.p 0)).2.1) (Kd.V_reads' (Kd.V_below (SH.out.q 0) hb)).2.2 (by rw [RW'.out.d]; exact (Kd.V_reads' (SH.out.q 0)).2.1) (by have h := Over_eq (k := 2000) num0 (P := P) D' (by rw [RW.out.p]; have := RW.out.high; omega) (by rw [RW.out.p]; have := RW.out.high; omega); rw [RW.out.p, HO.out.1] at h; exact h)
              have QL := fun W (hb : Below wk.heap.size wk W) => send_Left.calls 2000 num0 A7 c7 P A8 c8 D' (ints (lft D' n)) W (Kd.V_reads' (Kd.V_below (SH.out.p 0) hb)).2.2 (by rw [RW.out.p]; exact (Kd.V_reads' (SH.out.p 0)).2.1) (Kd.V_reads' (Kd.V_below (SH.out.q 0) hb)).2.2 (by rw [RW'.out.d]; exact (Kd.V_reads' (SH.out.q 0)).2.1) (by have h := Left_eq (k := 2000) num0 (P := P) D' (by rw [RW.out.p]; have := RW.out.high; omega) (by rw [RW.out.p]; have := RW.out.high; omega); rw [RW.out.p] at h; exact h)
              have QX := fun W (hb : Below wk.heap.size wk W) => recv_Missing.calls 2000 num0 A5 c5 Q' A6 c6 D' mx W (Kd.V_reads' (Kd.V_below (SH.out.p2 0) hb)).2.2 (by rw [RW'.out.q]; exact (Kd.V_reads' (SH.out.p2 0)).2.1) (Kd.V_reads' (Kd.V_below (SH.out.q2 0) hb)).2.2 (by rw [RW'.out.d]; exact (Kd.V_reads' (SH.out.q2 0)).2.1) HT2.out.2.1
              obtain ⟨L, hL⟩ : ∃ L, ints (lft D' n) = L := ⟨_, rfl⟩
              obtain ⟨nL, hnL⟩ : ∃ m, L.length = m := ⟨_, rfl⟩
              have HNL := Aside0.mk hnL
              have NL := Aside0.mk (show (nL : Int) = mx from by rw [← hnL, ← hL, ints_len]; exact HO.out.2.1)
              rw [hL] at QL
              simp only [RW'.out.q, RW'.out.d] at QW QX
              simp only [RW.out.p, RW'.out.d] at QO QL
              have QW := Aside0.mk QW
              have QO := Aside0.mk QO
              have QL := Aside0.mk QL
              have QX := Aside0.mk QX
              clear hL hnL
              have x0 := blk_cell SH.out.s 0
              have x1 := blk_cell SH.out.s 1
              have x2 := blk_cell SH.out.s 2
              have z0 := blk_cell SH.out.r 0
              have z1 := blk_cell SH.out.r 1
              have z2 := blk_cell SH.out.r 2
              simp at x0 x1 x2 z0 z1 z2
              go_upto_region 27 with (go_at_call 27; go_loud ((with_reducible refine QW.out.mono ?_); rintro e wm ⟨rfl, hb⟩; have BM := Aside0.mk hb; replace x0 := pw_cell_below hb x0; replace x1 := pw_cell_below hb x1; replace x2 := pw_cell_below hb x2; replace z0 := pw_cell_below hb z0; replace z1 := pw_cell_below hb z1; replace z2 := pw_cell_below hb z2; clear hb))
              have KP := Aside0.mk (show ∀ W, Below wm.heap.size wm W → (W.cell? ⟨S, 0, none⟩ = some (.int .i64 num0) ∧ W.cell? ⟨S, 1, none⟩ = some (.slice A7 n c7) ∧ W.cell? ⟨S, 2, none⟩ = some (.slice A8 n c8) ∧ W.cell? ⟨R, 0, none⟩ = some (.int .i64 num0) ∧ W.cell? ⟨R, 1, none⟩ = some (.slice A5 n c5) ∧ W.cell? ⟨R, 2, none⟩ = some (.slice A6 n c6)) from fun W hb => ⟨pw_cell_below hb x0, pw_cell_below hb x1, pw_cell_below hb x2, pw_cell_below hb z0, pw_cell_below hb z1, pw_cell_below hb z2⟩)
              have BD := Aside0.mk (show Below wm.heap.size wm wm.drew from (Below.refl _ _).drew)
              have BW := Aside0.mk (show ∀ W, Below wm.heap.size wm W → Below wk.heap.size wk W from fun W hb => below_step BM.out hb)
              have VD := VD
              have fin : ok = true → al = T := HO.out.2.2
              cases ok with
              | true =>
                obtain rfl := fin rfl
                rw [← NL.out] at QX
                clear NL HO
                go_region_held3 (fun W => W.cell? ⟨S, 0, none⟩ = some (.int .i64 num0) ∧ W.cell? ⟨S, 1, none⟩ = some (.slice A7 n c7) ∧ W.cell? ⟨S, 2, none⟩ = some (.slice A8 n c8) ∧ W.cell? ⟨R, 0, none⟩ = some (.int .i64 num0) ∧ W.cell? ⟨R, 1, none⟩ = some (.slice A5 n c5) ∧ W.cell? ⟨R, 2, none⟩ = some (.slice A6 n c6))
                  (first | exact KP.out _ BX.out | exact KP.out _ BL.out | exact KP.out _ BO.out | exact KP.out _ BD.out)
                  (first
                    | (go_at_call 21; (with_reducible refine (QO.out wm.drew (BW.out _ BD.out)).mono ?_); go_loud (rintro e wo ⟨rfl, hb⟩; have BO := Aside0.mk (show Below wm.heap.size wm wo from BD.out.trans hb); clear hb))
                    | (go_at_call 20; (with_reducible refine (QL.out wo (BW.out _ BO.out)).mono ?_); go_loud (rintro e wl ⟨va, rfl, hR, hb⟩; obtain ⟨A9, c9, rfl⟩ := Kd.R_slice hR; rw [HNL.out]; have BL := Aside0.mk (below_step BO.out hb); clear hR hb))
                    | (go_at_call 29; (with_reducible refine (QX.out wl (BW.out _ BL.out)).mono ?_); go_loud (rintro e wx ⟨rfl, hb⟩; have BX := Aside0.mk (below_step BL.out hb); clear hb)))
                go_wp2
                go_roundg k0
                case measure => omega
                case rel => exact ⟨i + 1, A7, c7, A8, c8, A5, c5, A6, c6, D', Q', by have h9 := IB.out; rw [w64 (x := (i : Int) + 1) (by omega) (by omega)]; rfl, ⟨by have := HJ.out; omega⟩, ⟨SH.out.step (BW.out _ BX.out)⟩, RW', VD⟩
              | false =>
                rw [← NL.out] at QX
                clear NL HO fin
                refine wp_region_held_drew (S := (fun W => W.cell? ⟨S, 0, none⟩ = some (.int .i64 num0) ∧ W.cell? ⟨S, 1, none⟩ = some (.slice A7 n c7) ∧ W.cell? ⟨S, 2, none⟩ = some (.slice A8 n c8) ∧ W.cell? ⟨R, 0, none⟩ = some (.int .i64 num0) ∧ W.cell? ⟨R, 1, none⟩ = some (.slice A5 n c5) ∧ W.cell? ⟨R, 2, none⟩ = some (.slice A6 n c6))) (by kernel_rfl) ?_ (fun hHeld => ?_)
                · (try dsimp only); exact KP.out _ BD.out
                refine wpAnyH_take (i := 0) (oi := { dst := some 135, op := Op.move (Operand.tmp 22), type := 4, pos := "law.go:82", after := #[], guard := none }) (v := ?v0) rfl (by kernel_rfl) (by kernel_rfl) (by kernel_rfl) (fun _ _ _ h => h) (Or.inl ⟨by rfl, ?hy0⟩) (by assumption) ?rest0
                case hy0 => (intro w_ hSw; (try dsimp only at hSw); go_simp; try with_reducible rfl)
                try simp only [Act.put, List.setIfInBounds_toArray, List.set_cons_zero, List.set_cons_succ]
                refine wpAnyH_take (i := 1) (oi := { dst := some 136, op := Op.load 32 (Operand.tmp 9), type := 32, pos := "law.go:82", after := #[], guard := none }) (v := ?v1) rfl (by kernel_rfl) (by kernel_rfl) (by kernel_rfl) (fun _ _ _ h => h) (Or.inl ⟨by rfl, ?hy1⟩) (by assumption) ?rest1
                case hy1 => (intro w_ hSw; (try dsimp only at hSw); go_simp; try with_reducible rfl)
                try simp only [Act.put, List.setIfInBounds_toArray, List.set_cons_zero, List.set_cons_succ]
                refine wpAnyH_ready (rs := [2]) (by kernel_rfl) (by simp) ?_
                refine AllReadyH.cons (o := { dst := some 137, op := Op.call { callee := Callee.value (Operand.func 21), args := #[Operand.tmp 136], argTypes := #[32] }, type := 4, pos := "law.go:82", after := #[{ on := 1, ground := Ground.data }], guard := none }) rfl (fun K hK => ?_) AllReadyH.nil
                go_simp
                with_reducible refine (QO.out wm.drew (BW.out _ BD.out)).mono ?_
                rintro e wo ⟨rfl, hb⟩
                have BO := Aside0.mk (show Below wm.heap.size wm wo from BD.out.trans hb)
                clear hb
                refine hK.out _ _ ?_ (fun hHeld => ?_)
                · (try dsimp only); exact KP.out _ BO.out
                clear hK K
                try simp only [Act.put, List.setIfInBounds_toArray, List.set_cons_zero, List.set_cons_succ]
                refine wpAnyH_take (i := 3) (oi := { dst := some 138, op := Op.binOp BinOp.neq 4 (Operand.tmp 135) (Operand.tmp 137) 4, type := 4, pos := "law.go:82", after := #[{ on := 0, ground := Ground.data }, { on := 2, ground := Ground.data }], guard := none }) (v := ?v3) rfl (by kernel_rfl) (by kernel_rfl) (by kernel_rfl) (fun _ _ _ h => h) (Or.inl ⟨by rfl, ?hy3⟩) (by assumption) ?rest3
                case hy3 => (intro w_ hSw; (try dsimp only at hSw); go_simp; try with_reducible rfl)
                try simp only [Act.put, List.setIfInBounds_toArray, List.set_cons_zero, List.set_cons_succ]
                refine wpAnyH_take (i := 4) (oi := { dst := some 139, op := Op.move (Operand.tmp 138), type := 4, pos := "law.go:82", after := #[{ on := 3, ground := Ground.data }, { on := 2, ground := Ground.chain }], guard := none }) (v := ?v4) rfl (by kernel_rfl) (by kernel_rfl) (by kernel_rfl) (fun _ _ _ h => h) (Or.inl ⟨by rfl, ?hy4⟩) (by assumption) ?rest4
                case hy4 => (intro w_ hSw; (try dsimp only at hSw); go_simp; try with_reducible rfl)
                try simp only [Act.put, List.setIfInBounds_toArray, List.set_cons_zero, List.set_cons_succ]
                refine wpAnyH_take (i := 5) (oi := { dst := some 140, op := Op.move (Operand.tmp 22), type := 4, pos := "law.go:82", after := #[{ on := 4, ground := Ground.guard }], guard := some (4, false) }) (v := ?v5) rfl (by kernel_rfl) (by kernel_rfl) (by kernel_rfl) (fun _ _ _ h => h) (Or.inl ⟨by rfl, ?hy5⟩) (by assumption) ?rest5
                case hy5 => (intro w_ hSw; (try dsimp only at hSw); go_simp; try with_reducible rfl)
                try simp only [Act.put, List.setIfInBounds_toArray, List.set_cons_zero, List.set_cons_succ]
                refine wpAnyH_take (i := 6) (oi := { dst := some 141, op := Op.move (Operand.tmp 140), type := 4, pos := "law.go:82", after := #[{ on := 5, ground := Ground.data }, { on := 4, ground := Ground.chain }, { on := 4, ground := Ground.guard }], guard := some (4, false) }) (v := ?v6) rfl (by kernel_rfl) (by kernel_rfl) (by kernel_rfl) (fun _ _ _ h => h) (Or.inl ⟨by rfl, ?hy6⟩) (by assumption) ?rest6
                case hy6 => (intro w_ hSw; (try dsimp only at hSw); go_simp; try with_reducible rfl)
                try simp only [Act.put, List.setIfInBounds_toArray, List.set_cons_zero, List.set_cons_succ]
                refine wpAnyH_take (i := 7) (oi := { dst := some 142, op := Op.move (Operand.tmp 21), type := 9, pos := "law.go:82", after := #[{ on := 6, ground := Ground.guard }], guard := some (6, true) }) (v := undef) rfl (by kernel_rfl) (by kernel_rfl) (by kernel_rfl) (fun _ _ _ h => h) (Or.inr ⟨by rfl, rfl⟩) (by assumption) ?_
                try simp only [Act.put, List.setIfInBounds_toArray, List.set_cons_zero, List.set_cons_succ]
                refine wpAnyH_take (i := 8) (oi := { dst := some 143, op := Op.move (Operand.tmp 1), type := 9, pos := "law.go:82", after := #[{ on := 6, ground := Ground.guard }], guard := some (6, true) }) (v := undef) rfl (by kernel_rfl) (by kernel_rfl) (by kernel_rfl) (fun _ _ _ h => h) (Or.inr ⟨by rfl, rfl⟩) (by assumption) ?_
                try simp only [Act.put, List.setIfInBounds_toArray, List.set_cons_zero, List.set_cons_succ]
                refine wpAnyH_take (i := 9) (oi := { dst := some 144, op := Op.binOp BinOp.neq 9 (Operand.tmp 142) (Operand.tmp 143) 9, type := 4, pos := "law.go:82", after := #[{ on := 7, ground := Ground.data }, { on := 8, ground := Ground.data }, { on := 6, ground := Ground.guard }], guard := some (6, true) }) (v := undef) rfl (by kernel_rfl) (by kernel_rfl) (by kernel_rfl) (fun _ _ _ h => h) (Or.inr ⟨by rfl, rfl⟩) (by assumption) ?_
                try simp only [Act.put, List.setIfInBounds_toArray, List.set_cons_zero, List.set_cons_succ]
                refine wpAnyH_take (i := 10) (oi := { dst := some 145, op := Op.pick (Operand.tmp 141) (Operand.tmp 144) (Operand.const (Value.bool false)), type := 4, pos := "law.go:82", after := #[{ on := 6, ground := Ground.data }, { on := 9, ground := Ground.data }, { on := 4, ground := Ground.guard }], guard := some (4, false) }) (v := ?v10) rfl (by kernel_rfl) (by kernel_rfl) (by kernel_rfl) (fun _ _ _ h => h) (Or.inl ⟨by rfl, ?hy10⟩) (by assumption) ?rest10
                case hy10 => (intro w_ hSw; (try dsimp only at hSw); go_simp; try with_reducible rfl)
                try simp only [Act.put, List.setIfInBounds_toArray, List.set_cons_zero, List.set_cons_succ]
                refine wpAnyH_take (i := 11) (oi := { dst := some 146, op := Op.pick (Operand.tmp 139) (Operand.const (Value.bool true)) (Operand.tmp 145), type := 4, pos := "law.go:82", after := #[{ on := 4, ground := Ground.data }, { on := 10, ground := Ground.data }], guard := none }) (v := ?v11) rfl (by kernel_rfl) (by kernel_rfl) (by kernel_rfl) (fun _ _ _ h => h) (Or.inl ⟨by rfl, ?hy11⟩) (by assumption) ?rest11
                case hy11 => (intro w_ hSw; (try dsimp only at hSw); go_simp; try with_reducible rfl)
                try simp only [Act.put, List.setIfInBounds_toArray, List.set_cons_zero, List.set_cons_succ]
                refine wpAnyH_take (i := 12) (oi := { dst := some 147, op := Op.move (Operand.tmp 146), type := 4, pos := "law.go:82", after := #[{ on := 11, ground := Ground.data }, { on := 6, ground := Ground.chain }], guard := none }) (v := ?v12) rfl (by kernel_rfl) (by kernel_rfl) (by kernel_rfl) (fun _ _ _ h => h) (Or.inl ⟨by rfl, ?hy12⟩) (by assumption) ?rest12
                case hy12 => (intro w_ hSw; (try dsimp only at hSw); go_simp; try with_reducible rfl)
                try simp only [Act.put, List.setIfInBounds_toArray, List.set_cons_zero, List.set_cons_succ]
                refine wpAnyH_take (i := 13) (oi := { dst := some 148, op := Op.load 32 (Operand.tmp 9), type := 32, pos := "law.go:82", after := #[{ on := 12, ground := Ground.guard }], guard := some (12, false) }) (v := ?v13) rfl (by kernel_rfl) (by kernel_rfl) (by kernel_rfl) (fun _ _ _ h => h) (Or.inl ⟨by rfl, ?hy13⟩) (by assumption) ?rest13
                case hy13 => (intro w_ hSw; (try dsimp only at hSw); go_simp; try with_reducible rfl)
                try simp only [Act.put, List.setIfInBounds_toArray, List.set_cons_zero, List.set_cons_succ]
                refine wpAnyH_take (i := 16) (oi := { dst := some 151, op := Op.load 50 (Operand.tmp 11), type := 50, pos := "law.go:82", after := #[{ on := 12, ground := Ground.guard }], guard := some (12, false) }) (v := ?v16) rfl (by kernel_rfl) (by kernel_rfl) (by kernel_rfl) (fun _ _ _ h => h) (Or.inl ⟨by rfl, ?hy16⟩) (by assumption) ?rest16
                case hy16 => (intro w_ hSw; (try dsimp only at hSw); go_simp; try with_reducible rfl)
                try simp only [Act.put, List.setIfInBounds_toArray, List.set_cons_zero, List.set_cons_succ]
                refine wpAnyH_ready (rs := [14]) (by kernel_rfl) (by simp) ?_
                refine AllReadyH.cons (o := { dst := some 149, op := Op.call { callee := Callee.value (Operand.func 20), args := #[Operand.tmp 148], argTypes := #[32] }, type := 29, pos := "law.go:82", after := #[{ on := 13, ground := Ground.data }, { on := 12, ground := Ground.chain }, { on := 12, ground := Ground.guard }], guard := some (12, false) }) rfl (fun K hK => ?_) AllReadyH.nil
                go_simp
                with_reducible refine (QL.out wo (BW.out _ BO.out)).mono ?_
                rintro e wl ⟨va, rfl, hR, hb⟩
                obtain ⟨A9, c9, rfl⟩ := Kd.R_slice hR
                rw [HNL.out]
                have BL := Aside0.mk (below_step BO.out hb)
                clear hR hb
                refine hK.out _ _ ?_ (fun hHeld => ?_)
                · (try dsimp only); exact KP.out _ BL.out
                clear hK K
                try simp only [Act.put, List.setIfInBounds_toArray, List.set_cons_zero, List.set_cons_succ]
                refine wpAnyH_take (i := 15) (oi := { dst := some 150, op := Op.call { callee := Callee.builtin Builtin.len, args := #[Operand.tmp 149], argTypes := #[29] }, type := 3, pos := "law.go:82", after := #[{ on := 14, ground := Ground.data }, { on := 12, ground := Ground.guard }], guard := some (12, false) }) (v := ?v15) rfl (by kernel_rfl) (by kernel_rfl) (by kernel_rfl) (fun _ _ _ h => h) (Or.inl ⟨by rfl, ?hy15⟩) (by assumption) ?rest15
                case hy15 => (intro w_ hSw; (try dsimp only at hSw); go_simp; try with_reducible rfl)
                try simp only [Act.put, List.setIfInBounds_toArray, List.set_cons_zero, List.set_cons_succ]
                refine wpAnyH_ready (rs := [17]) (by kernel_rfl) (by simp) ?_
                refine AllReadyH.cons (o := { dst := some 152, op := Op.call { callee := Callee.value (Operand.func 29), args := #[Operand.tmp 151], argTypes := #[50] }, type := 3, pos := "law.go:82", after := #[{ on := 16, ground := Ground.data }, { on := 14, ground := Ground.chain }, { on := 12, ground := Ground.guard }], guard := some (12, false) }) rfl (fun K hK => ?_) AllReadyH.nil
                go_simp
                with_reducible refine (QX.out wl (BW.out _ BL.out)).mono ?_
                rintro e wx ⟨rfl, hb⟩
                have BX := Aside0.mk (below_step BL.out hb)
                clear hb
                refine hK.out _ _ ?_ (fun hHeld => ?_)
                · (try dsimp only); exact KP.out _ BX.out
                clear hK K
                try simp only [Act.put, List.setIfInBounds_toArray, List.set_cons_zero, List.set_cons_succ]
                refine wpAnyH_take (i := 18) (oi := { dst := some 153, op := Op.binOp BinOp.neq 3 (Operand.tmp 150) (Operand.tmp 152) 3, type := 4, pos := "law.go:82", after := #[{ on := 15, ground := Ground.data }, { on := 17, ground := Ground.data }, { on := 12, ground := Ground.guard }], guard := some (12, false) }) (v := ?v18) rfl (by kernel_rfl) (by kernel_rfl) (by kernel_rfl) (fun _ _ _ h => h) (Or.inl ⟨by rfl, ?hy18⟩) (by assumption) ?rest18
                case hy18 => (intro w_ hSw; (try dsimp only at hSw); go_simp; try with_reducible rfl)
                try simp only [Act.put, List.setIfInBounds_toArray, List.set_cons_zero, List.set_cons_succ]
                refine wpAnyH_take (i := 19) (oi := { dst := some 154, op := Op.pick (Operand.tmp 147) (Operand.const (Value.bool true)) (Operand.tmp 153), type := 4, pos := "law.go:82", after := #[{ on := 12, ground := Ground.data }, { on := 18, ground := Ground.data }], guard := none }) (v := ?v19) rfl (by kernel_rfl) (by kernel_rfl) (by kernel_rfl) (fun _ _ _ h => h) (Or.inl ⟨by rfl, ?hy19⟩) (by assumption) ?rest19
                case hy19 => (intro w_ hSw; (try dsimp only at hSw); go_simp; try with_reducible rfl)
                try simp only [Act.put, List.setIfInBounds_toArray, List.set_cons_zero, List.set_cons_succ]
                refine wpAnyH_done (by kernel_rfl) ?_ _
                all_goals (
                  go_wp2
                  go_roundg k0
                  case measure => omega
                  case rel => exact ⟨i + 1, A7, c7, A8, c8, A5, c5, A6, c6, D', Q', by have h9 := IB.out; rw [w64 (x := (i : Int) + 1) (by omega) (by omega)]; rfl, ⟨by have := HJ.out; omega⟩, ⟨SH.out.step (BW.out _ BX.out)⟩, RW', VD⟩)
        | zero =>
          have nb := NB.out
          have lo1 := LO.out.2
          have w1 : IntKind.i64.wrap ((no : Int) + (n : Int)) = (no : Int) + (n : Int) := by rw [IntKind.wrap_i64]; omega
          have d1 : decide ((i : Int) < (no : Int) + (n : Int)) = false := decide_eq_false (by omega)
          have d2 : ¬ (i : Int) < (no : Int) + (n : Int) := by omega
          obtain ⟨al, ok, hwh, hok1, hok2⟩ := whole_own RW.out num0
          have hok : ok = true := hok2.2 (all_true RW.out.d (fun j h => VI.out j h (by omega)))
          obtain rfl := hok1 hok
          subst hok
          have QW := recv_Whole.calls 2000 num0 A3 c3 Q A4 c4 D al true wr (Kd.V_reads' (SS.out.p2 0)).2.2 (by rw [RW.out.q]; exact (Kd.V_reads' (SS.out.p2 0)).2.1) (Kd.V_reads' (SS.out.q2 0)).2.2 (by rw [RW.out.d]; exact (Kd.V_reads' (SS.out.q2 0)).2.1) hwh
          simp only [RW.out.q, RW.out.d] at QW
          have QW := Aside0.mk QW
          have x1 := blk_cell SS.out.s 1
          have z0 := blk_cell SS.out.r 0
          have z1 := blk_cell SS.out.r 1
          have z2 := blk_cell SS.out.r 2
          simp at x1 z0 z1 z2
          clear hj nb lo1 hwh hok1 hok2
          go_wp2_with (first
            | (go_at_call 27; go_loud ((with_reducible refine QW.out.mono ?_); rintro e wm ⟨rfl, hb⟩; have BM := Aside0.mk hb; clear hb))
            | (go_at_call 24; go_loud ((refine (tillerlaw21_awake.calls 100 true wm AW.out).mono ?_); rintro e wn ⟨rfl, hb⟩; have BN := Aside0.mk (SS.out.bel.trans ((below_step BM.out hb).mono SS.out.bel.size)); clear hb)))
          go_ret
          exact ⟨rfl, BN.out⟩
  · obtain ⟨hP, hnum⟩ := HC.out.1 e0
    subst hP hnum
    obtain rfl : n = 0 := HN.out.symm
    have d1 : (ee == 0) = false := beq_eq_false_iff_ne.mpr e0
    have d2 : (ee != 0) = true := bne_iff_ne.mpr e0
    have AC := Aside0.mk (tillerlaw21_awake.calls 100 true w4 AW.out)
    clear HC HN P1 P2 EB e0
    go_wp2_with (go_at_call 24; go_loud ((refine AC.out.mono ?_); rintro e w5 ⟨rfl, hb⟩; replace x1 := pw_cell_below hb x1; have W5 := Aside0.mk (W4.out.trans (hb.mono W4.out.size)); clear hb))
    go_ret
    exact ⟨rfl, W5.out⟩
end Go.Proofs.Ytfonfdpimbnfaaa.ORecvWhole
