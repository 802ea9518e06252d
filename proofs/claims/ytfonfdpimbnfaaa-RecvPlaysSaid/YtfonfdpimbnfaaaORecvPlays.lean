/- RecvPlays, walked by hand. -/
import Derived.Test.YtfonfdpimbnfaaaGQx2
import Derived.Test.YtfonfdpimbnfaaaGQx11
import Derived.Test.YtfonfdpimbnfaaaGQx12
import Derived.Test.YtfonfdpimbnfaaaGQx13
import Derived.Test.YtfonfdpimbnfaaaGQx15
import Derived.Test.YtfonfdpimbnfaaaGQx16
import Derived.Test.YtfonfdpimbnfaaaURecv2
import Derived.Test.YtfonfdpimbnfaaaUAwake21
import Derived.Test.YtfonfdpimbnfaaaOSendRaw
import Derived.Test.YtfonfdpimbnfaaaUPlays20
import Derived.Deep.RegionHeld3
set_option linter.unusedVariables false
set_option linter.unusedSimpArgs false
namespace Go.Proofs.Ytfonfdpimbnfaaa.ORecvPlays
open Go.RowKit Go.Proofs.YtfonfdpimbnfaaaW.PrintWords Go.Proofs.YtfonfdpimbnfaaaW.PrintLast Go.Proofs.YtfonfdpimbnfaaaW.PrintMore Go.Proofs.Ytfonfdpimbnfaaa.GQ Go.Proofs.Ytfonfdpimbnfaaa.GGot Go.Proofs.Ytfonfdpimbnfaaa.U Go.Proofs.Ytfonfdpimbnfaaa.OSendRaw
abbrev kS := Kd.string
open Classical in
/-- The law's answer within the row's bounds. -/
noncomputable def tillerlaw21_RecvPlays.f (a0 a1 : Int) (l2 : List S46) : Option Bool := if l2.length ≤ 17592186044416 then some true else none
/-- The program's state and the document's: their boxes and rows. -/
structure Sr (w W : World) (B X : Nat) (num : Int) (n : Nat) (A1 : Option Addr) (c1 : Nat) (A2 : Option Addr) (c2 : Nat) (A3 : Option Addr) (c3 m : Nat) (P : List ByteArray) (C : List Bool) (M : List S74) : Prop where
  s : W.heap[B]? = some (.cells #[.int .i64 num, .slice A1 n c1, .slice A2 n c2] 50 (0, 0))
  x : W.heap[X]? = some (.cells #[.int .i64 num, .int .i64 n, .slice A3 m c3] 55 (0, 0))
  p : Kd.V kS 9 W 0 (fun k => k ≠ B ∧ k ≠ X) (.slice A1 n c1) P
  q : Kd.V kB 4 W 0 (fun k => k ≠ B ∧ k ≠ X) (.slice A2 n c2) C
  r : Kd.V k74 74 W 0 (fun k => k ≠ B ∧ k ≠ X) (.slice A3 m c3) M
  rel : Rel n P C M
  mlen : M.length = m
  bel : Below w.heap.size w W
  lb : w.heap.size ≤ B
  lx : w.heap.size ≤ X
  ne : B ≠ X
theorem Sr.step {w W W' : World} {B X : Nat} {num : Int} {n : Nat} {A1 : Option Addr} {c1 : Nat} {A2 : Option Addr} {c2 : Nat} {A3 : Option Addr} {c3 m : Nat} {P : List ByteArray} {C : List Bool} {M : List S74} (h : Sr w W B X num n A1 c1 A2 c2 A3 c3 m P C M) (hb : Below W.heap.size W W') : Sr w W' B X num n A1 c1 A2 c2 A3 c3 m P C M :=
  ⟨blk_below h.s hb, blk_below h.x hb, Kd.V_below h.p hb, Kd.V_below h.q hb, Kd.V_below h.r hb, h.rel, h.mlen, h.bel.trans (hb.mono h.bel.size), h.lb, h.lx, h.ne⟩
/-- The new states are laid into the boxes. -/
theorem Sr.back {w wr W : World} {B X : Nat} {num : Int} {n : Nat} {A1 : Option Addr} {c1 : Nat} {A2 : Option Addr} {c2 : Nat} {A3 : Option Addr} {c3 m : Nat} {P : List ByteArray} {C : List Bool} {M : List S74} (h : Sr w wr B X num n A1 c1 A2 c2 A3 c3 m P C M) (hb : Below wr.heap.size wr W)
    {A5 : Option Addr} {c5 : Nat} {A6 : Option Addr} {c6 : Nat} {A7 : Option Addr} {c7 m' : Nat} {P' : List ByteArray} {C' : List Bool} {M' : List S74} {b1 b2 b3 : Nat}
    (hp : Kd.V kS 9 W b1 (fun k => k ≠ B ∧ k ≠ X) (.slice A5 n c5) P') (hq : Kd.V kB 4 W b2 (fun k => k ≠ B ∧ k ≠ X) (.slice A6 n c6) C') (hr : Kd.V k74 74 W b3 (fun k => k ≠ B ∧ k ≠ X) (.slice A7 m' c7) M') (hR : Rel n P' C' M') (hm : M'.length = m') :
    Sr w ((((((W.setCell ⟨B, 0, none⟩ (.int .i64 num)).setCell ⟨B, 1, none⟩ (.slice A5 n c5)).setCell ⟨B, 2, none⟩ (.slice A6 n c6)).setCell ⟨X, 0, none⟩ (.int .i64 num)).setCell ⟨X, 1, none⟩ (.int .i64 n)).setCell ⟨X, 2, none⟩ (.slice A7 m' c7)) B X num n A5 c5 A6 c6 A7 c7 m' P' C' M' := by
  have h0 := h.step hb
  have kB : ∀ k, k ≠ B ∧ k ≠ X → k ≠ B := fun k q => q.1
  have kX : ∀ k, k ≠ B ∧ k ≠ X → k ≠ X := fun k q => q.2
  have e1 := blk_set (blk_set (blk_set h0.s 0 (.int .i64 num)) 1 (.slice A5 n c5)) 2 (.slice A6 n c6)
  have go : ∀ (W1 : World) (p : Addr) (u : Value) (o : Obj) (g : Nat), g ≠ p.block → W1.heap[g]? = some o → (W1.setCell p u).heap[g]? = some o := fun W1 p u o g hg ho => by rw [Below.heap_setCell _ _ _ _ hg]; exact ho
  have e2 := go _ ⟨X, 2, none⟩ (.slice A7 m' c7) _ B h.ne (go _ ⟨X, 1, none⟩ (.int .i64 n) _ B h.ne (go _ ⟨X, 0, none⟩ (.int .i64 num) _ B h.ne e1))
  have e3 := go _ ⟨B, 2, none⟩ (.slice A6 n c6) _ X (Ne.symm h.ne) (go _ ⟨B, 1, none⟩ (.slice A5 n c5) _ X (Ne.symm h.ne) (go _ ⟨B, 0, none⟩ (.int .i64 num) _ X (Ne.symm h.ne) h0.x))
  have e4 := blk_set (blk_set (blk_set e3 0 (.int .i64 num)) 1 (.int .i64 n)) 2 (.slice A7 m' c7)
  have far : ∀ {α : Type} {d : Kd α} {e b : Nat} {v : Value} {xs : List α}, Kd.V d e W b (fun k => k ≠ B ∧ k ≠ X) v xs → Kd.V d e ((((((W.setCell ⟨B, 0, none⟩ (.int .i64 num)).setCell ⟨B, 1, none⟩ (.slice A5 n c5)).setCell ⟨B, 2, none⟩ (.slice A6 n c6)).setCell ⟨X, 0, none⟩ (.int .i64 num)).setCell ⟨X, 1, none⟩ (.int .i64 n)).setCell ⟨X, 2, none⟩ (.slice A7 m' c7)) 0 (fun k => k ≠ B ∧ k ≠ X) v xs := fun hv => Kd.V_far (p := ⟨X, 2, none⟩) (Kd.V_far (p := ⟨X, 1, none⟩) (Kd.V_far (p := ⟨X, 0, none⟩) (Kd.V_far (p := ⟨B, 2, none⟩) (Kd.V_far (p := ⟨B, 1, none⟩) (Kd.V_far (p := ⟨B, 0, none⟩) hv kB _) kB _) kB _) kX _) kX _) kX _
  exact ⟨by simpa using e2, by simpa using e4, far hp, far hq, far hr, hR, hm, (((((h0.bel.setCell (p := ⟨B, 0, none⟩) h.lb _).setCell (p := ⟨B, 1, none⟩) h.lb _).setCell (p := ⟨B, 2, none⟩) h.lb _).setCell (p := ⟨X, 0, none⟩) h.lx _).setCell (p := ⟨X, 1, none⟩) h.lx _).setCell (p := ⟨X, 2, none⟩) h.lx _, h.lb, h.lx, h.ne⟩
theorem Begin_any (num a : Int) : ∃ (P : List ByteArray) (C : List Bool) (num0 e : Int), recv_Begin.f num a = some (num0, P, C, e) ∧ ((a < 1 ∧ P = [] ∧ C = [] ∧ e = 1) ∨ (a > 512 ∧ P = [] ∧ C = [] ∧ e = 2) ∨ (1 ≤ a ∧ a ≤ 512 ∧ num0 = num ∧ P = List.replicate a.toNat ⟨#[]⟩ ∧ C = List.replicate a.toNat false ∧ e = 0)) := by
  by_cases h1 : a < 1
  · exact ⟨[], [], 0, 1, by unfold recv_Begin.f; rw [if_pos h1], .inl ⟨h1, rfl, rfl, rfl⟩⟩
  · by_cases h2 : a > 512
    · exact ⟨[], [], 0, 2, by unfold recv_Begin.f; rw [if_neg h1, if_pos h2], .inr (.inl ⟨h2, rfl, rfl, rfl⟩)⟩
    · have := rBegin_eq num (n := a.toNat) (by omega) (by omega)
      rw [Int.toNat_of_nonneg (by omega)] at this
      exact ⟨_, _, num, 0, this, .inr (.inr ⟨by omega, by omega, rfl, rfl, rfl, rfl⟩)⟩
theorem bt {G : Nat} {wr w1 w2 : World} (hg : wr.heap.size = G) (h : Below G wr w1) (hb : Below w1.heap.size w1 w2) : Below G wr w2 := by subst hg; exact below_step h hb
theorem bw {G : Nat} {wr w1 : World} (hg : wr.heap.size = G) (h : Below G wr w1) : Below wr.heap.size wr w1 := by subst hg; exact h
theorem bsz {G : Nat} {wr w1 : World} (hg : wr.heap.size = G) (h : Below G wr w1) : G ≤ w1.heap.size := by subst hg; exact h.size
/-- What a state says at a world from which only new blocks are written. -/
structure Si (W : World) (B X G : Nat) (num : Int) (n : Nat) (A1 : Option Addr) (c1 : Nat) (A2 : Option Addr) (c2 : Nat) (A3 : Option Addr) (c3 m : Nat) (P : List ByteArray) (C : List Bool) (M : List S74) : Prop where
  s : W.heap[B]? = some (.cells #[.int .i64 num, .slice A1 n c1, .slice A2 n c2] 50 (0, 0))
  x : W.heap[X]? = some (.cells #[.int .i64 num, .int .i64 n, .slice A3 m c3] 55 (0, 0))
  p : ∀ b, Kd.V kS 9 W b (fun k => (k ≠ B ∧ k ≠ X) ∧ k < G) (.slice A1 n c1) P
  q : ∀ b, Kd.V kB 4 W b (fun k => (k ≠ B ∧ k ≠ X) ∧ k < G) (.slice A2 n c2) C
  r : ∀ b, Kd.V k74 74 W b (fun k => (k ≠ B ∧ k ≠ X) ∧ k < G) (.slice A3 m c3) M
set_option maxHeartbeats 16000000 in
set_option maxRecDepth 100000 in
theorem tillerlaw21_RecvPlays.calls (num of_ : Int) (A : Option Addr) (c : Nat) (l : List S46) (r : Bool) (w : World) (hr : Kd.C k46 w A l.length l) (hc : l.length ≤ c) (hr_ : Aside0 (r = true)) (h : tillerlaw21_RecvPlays.f num of_ l = some r) : Calls Try.prog 7 #[.int .i64 num, .int .i64 of_, .slice A l.length c] w fun e w' => e = .returned (.bool r) ∧ Below w.heap.size w w' := by
  obtain ⟨r_⟩ := hr_
  subst r_
  have hI : l.length ≤ 17592186044416 := by
    unfold tillerlaw21_RecvPlays.f at h
    by_cases e : l.length ≤ 17592186044416
    · exact e
    · rw [if_neg e] at h; cases h
  obtain ⟨ml, hml⟩ : ∃ m, l.length = m := ⟨_, rfl⟩
  rw [hml] at hr hc hI ⊢
  have HL := Aside0.mk (And.intro hr hc)
  have HI := Aside0.mk hI
  have AW := Aside0.mk (awake21 (k := 100) (by omega))
  obtain ⟨P, C, num0, ee, hb, hcase⟩ := Begin_any num of_
  have BC := Aside0.mk hb
  have HC := Aside0.mk hcase
  clear h hI hr hc hml hb hcase
  obtain ⟨n1, hn1⟩ : ∃ m, P.length = m := ⟨_, rfl⟩
  obtain ⟨n2, hn2⟩ : ∃ m, C.length = m := ⟨_, rfl⟩
  have HN := Aside0.mk (And.intro hn1 hn2)
  clear hn1 hn2
  go_enter Try.func7, Try.ntmps7
  go_upto_region 2 with (go_at_call 23; go_loud ((with_reducible refine (recv_Begin.calls num of_ num0 P C ee w BC.out).mono ?_); rintro e w1 ⟨v1, v2, rfl, h1, h2, hb⟩; obtain ⟨A1, c1, rfl⟩ := Kd.R_slice h1; obtain ⟨A2, c2, rfl⟩ := Kd.R_slice h2; rw [HN.out.1] at h1 ⊢; rw [HN.out.2] at h2 ⊢; have V1 := Aside0.mk h1; have V2 := Aside0.mk h2; have W1 := Aside0.mk hb; clear h1 h2 hb))
  have EB := blk_new w1 (.cells #[.int .i64 num0, .slice A1 n1 c1, .slice A2 n2 c2] 50 (0, 0))
  have bb := below_alloc (Below.refl w1.heap.size w1) (.cells #[.int .i64 num0, .slice A1 n1 c1, .slice A2 n2 c2] 50 (0, 0))
  have P1 := Aside0.mk (Kd.R_below (Kd.R_mono (ok' := fun k => k ≠ w1.heap.size) (Kd.R_bound V1.out) (fun k q => Nat.ne_of_lt q.2.2.1)) bb)
  have P2 := Aside0.mk (Kd.R_below (Kd.R_mono (ok' := fun k => k ≠ w1.heap.size) (Kd.R_bound V2.out) (fun k q => Nat.ne_of_lt q.2.2.1)) bb)
  have W2 := Aside0.mk (W1.out.trans (bb.mono W1.out.size))
  have LB := Aside0.mk W1.out.size
  clear V1 V2 bb W1
  generalize w1.alloc (.cells #[.int .i64 num0, .slice A1 n1 c1, .slice A2 n2 c2] 50 (0, 0)) = w2 at EB P1 P2 W2 ⊢
  generalize w1.heap.size = B at EB LB P1 P2 ⊢
  rcases HC.out with ⟨h1, h2, h3, h4⟩ | ⟨h1, h2, h3, h4⟩ | ⟨h1, h2, h3, h4, h5, h6⟩
  · subst h2 h3 h4
    have e1 : decide (of_ < 1) = true := decide_eq_true h1
    obtain rfl : n1 = 0 := HN.out.1.symm
    have x1 := blk_cell EB 1
    simp at x1
    have AC := Aside0.mk (tillerlaw21_awake.calls 100 true w2 AW.out)
    clear HC HN h1 P1 P2 EB
    go_wp2_with (go_at_call 24; go_loud ((refine AC.out.mono ?_); rintro e w3 ⟨rfl, hb⟩; replace x1 := pw_cell_below hb x1; have W3 := Aside0.mk (W2.out.trans (hb.mono W2.out.size)); clear hb))
    go_ret
    exact ⟨rfl, W3.out⟩
  · subst h2 h3 h4
    have e1 : decide (of_ < 1) = false := decide_eq_false (by omega)
    have e2 : decide (512 < of_) = true := decide_eq_true h1
    obtain rfl : n1 = 0 := HN.out.1.symm
    have x1 := blk_cell EB 1
    simp at x1
    have AC := Aside0.mk (tillerlaw21_awake.calls 100 true w2 AW.out)
    clear HC HN h1 P1 P2 EB
    go_wp2_with (go_at_call 24; go_loud ((refine AC.out.mono ?_); rintro e w3 ⟨rfl, hb⟩; replace x1 := pw_cell_below hb x1; have W3 := Aside0.mk (W2.out.trans (hb.mono W2.out.size)); clear hb))
    go_ret
    exact ⟨rfl, W3.out⟩
  · subst h3 h6
    obtain ⟨n, rfl⟩ : ∃ n : Nat, of_ = (n : Int) := ⟨of_.toNat, by omega⟩
    rw [Int.toNat_natCast] at h4 h5
    have RL := Aside0.mk (show Rel n P C [] from by rw [h4, h5]; exact rel_begin (by omega) (by omega))
    obtain ⟨q1, q2⟩ := HN.out
    rw [RL.out.p] at q1
    rw [RL.out.c] at q2
    subst q1 q2
    have e1 : decide ((n : Int) < 1) = false := decide_eq_false (by omega)
    have e2 : decide (512 < (n : Int)) = false := decide_eq_false (by omega)
    have e3 : ¬ 512 < n := by omega
    have e4 : decide (512 < n) = false := decide_eq_false (by omega)
    have NB := Aside0.mk (And.intro h1 h2)
    have EB := Aside0.mk EB
    clear HC HN h1 h2 h4 h5 BC
    have AC := Aside0.mk (tillerlaw21_awake.calls 100 true w2 AW.out)
    go_upto_region 6 with (go_at_call 24; go_loud ((refine AC.out.mono ?_); rintro e w3 ⟨rfl, hb⟩; have W3 := Aside0.mk (W2.out.trans (hb.mono W2.out.size)); have E3 := Aside0.mk (blk_below EB.out hb); have Q1 := Aside0.mk (Kd.R_below P1.out hb); have Q2 := Aside0.mk (Kd.R_below P2.out hb); clear hb))
    clear AC P1 P2 EB W2 e1 e2 e3 e4
    go_upto_region 7 with (fail)
    have S0 := Aside0.mk (show Sr w (w3.alloc (.cells #[.int .i64 num0, .int .i64 n, .slice none 0 0] 55 (0, 0))) B w3.heap.size num0 n A1 c1 A2 c2 none 0 0 P C [] from by
      have bb := below_alloc (Below.refl w3.heap.size w3) (.cells #[.int .i64 num0, .int .i64 n, .slice none 0 0] 55 (0, 0))
      have hB := blk_lt E3.out
      exact ⟨blk_below E3.out bb, blk_new _ _, Kd.V_below (Kd.V_mono (Kd.V_bound (Kd.R_V Q1.out)) (fun k q => ⟨q.1, Nat.ne_of_lt q.2⟩)) bb, Kd.V_below (Kd.V_mono (Kd.V_bound (Kd.R_V Q2.out)) (fun k q => ⟨q.1, Nat.ne_of_lt q.2⟩)) bb, Kd.V_nil .., RL.out, rfl, W3.out.trans (bb.mono W3.out.size), LB.out, W3.out.size, by omega⟩)
    clear Q1 Q2 E3 W3 RL LB
    generalize w3.alloc (.cells #[.int .i64 num0, .int .i64 n, .slice none 0 0] 55 (0, 0)) = w4 at S0 ⊢
    generalize w3.heap.size = X at S0 ⊢
    go_upto_region 8 with (fail)
    go_loopg [10] 60 (fun kq v10 W => ∃ (i : Nat) (A1 : Option Addr) (c1 : Nat) (A2 : Option Addr) (c2 : Nat) (A3 : Option Addr) (c3 m : Nat) (P : List ByteArray) (C : List Bool) (M : List S74), v10 = .int .i64 (i : Int) ∧ Aside0 (i + kq = 60) ∧ Aside0 (Sr w W B X num0 n A1 c1 A2 c2 A3 c3 m P C M) ∧ Aside0 (m ≤ i))
    case atStart => exact ⟨0, _, _, _, _, _, _, _, _, _, _, rfl, ⟨Nat.zero_add _⟩, S0, ⟨Nat.le_refl _⟩⟩
    case round =>
      clear S0
      obtain ⟨i, A1, c1, A2, c2, A3, c3, m, P, C, M, rfl, HJ, SS, MI⟩ := hrel
      have hj := HJ.out
      by_cases hin : i < ml ∧ i < 60
      · obtain ⟨i3, i4⟩ := hin
        obtain ⟨k0, rfl⟩ : ∃ k0, gk = k0 + 1 := ⟨gk - 1, by omega⟩
        have d3 : decide ((i : Int) < (ml : Int)) = true := decide_eq_true (by omega)
        have d4 : decide ((i : Int) < 60) = true := decide_eq_true (by omega)
        have d5 : decide (i < ml) = true := decide_eq_true (by omega)
        have d6 : decide (i < 60) = true := decide_eq_true (by omega)
        have HIN := Aside0.mk (And.intro i3 i4)
        clear hj
        obtain ⟨ad, hA, y0, y1, y2, y3⟩ := at_T46 HL.out.1 (i : Int) (by omega) (by omega)
        subst hA
        rw [Int.toNat_natCast] at y0 y1 y2 y3
        obtain ⟨pn, hpn⟩ : ∃ x, (rd_T46 l (i : Int)).f0 = x := ⟨_, rfl⟩
        obtain ⟨pa, hpa⟩ : ∃ x, (rd_T46 l (i : Int)).f1 = x := ⟨_, rfl⟩
        obtain ⟨po, hpo⟩ : ∃ x, (rd_T46 l (i : Int)).f2 = x := ⟨_, rfl⟩
        obtain ⟨pt, hpt⟩ : ∃ x, (rd_T46 l (i : Int)).f3 = x := ⟨_, rfl⟩
        rw [hpn] at y0
        rw [hpa] at y1
        rw [hpo] at y2
        rw [hpt] at y3
        clear hpn hpa hpo hpt
        replace y0 := pw_cell_below SS.out.bel y0
        replace y1 := pw_cell_below SS.out.bel y1
        replace y2 := pw_cell_below SS.out.bel y2
        replace y3 := pw_cell_below SS.out.bel y3
        have hcut := Cut14_eq pt 5000
        obtain ⟨T, hT⟩ : ∃ T, (if pt.size ≤ 5000 then pt else pt.extract 0 5000) = T := ⟨_, rfl⟩
        rw [hT] at hcut
        have FC := Aside0.mk hcut
        clear hcut hT i4
        go_upto_region 11 with (fail)
        clear i3
        have B1 := Aside0.mk (below_alloc (Below.refl wr.heap.size wr) (.cells #[.int .i64 pn, .int .i64 pa, .int .i64 po, .string pt] 46 (0, 0)))
        have EP := Aside0.mk (blk_new wr (.cells #[.int .i64 pn, .int .i64 pa, .int .i64 po, .string pt] 46 (0, 0)))
        obtain ⟨G, hG⟩ : ∃ G, wr.heap.size = G := ⟨_, rfl⟩
        have LP := Aside0.mk (show B < G ∧ X < G ∧ wr.heap.size = G from ⟨by rw [← hG]; exact blk_lt SS.out.s, by rw [← hG]; exact blk_lt SS.out.x, hG⟩)
        have SI := Aside0.mk (show Si wr B X G num0 n A1 c1 A2 c2 A3 c3 m P C M from hG ▸ ⟨SS.out.s, SS.out.x, fun b => Kd.V_bound SS.out.p, fun b => Kd.V_bound SS.out.q, fun b => Kd.V_bound SS.out.r⟩)
        clear y0 y1 y2 y3
        generalize wr.alloc (.cells #[.int .i64 pn, .int .i64 pa, .int .i64 po, .string pt] 46 (0, 0)) = w1 at B1 EP ⊢
        rw [hG] at B1 EP ⊢
        clear hG
        have y3 := blk_cell EP.out 3
        simp at y3
        go_upto_region 12 with (go_at_call 11; go_loud ((refine (tillerlaw14_Cut.calls pt 5000 T w1 FC.out).mono ?_); rintro e w2 ⟨rfl, ⟨⟨md, hm⟩⟩⟩; have B2 := Aside0.mk (bt LP.out.2.2 B1.out (show Below w1.heap.size w1 w2 from hm ▸ pw_below_drewN (Below.refl _ _) md)); have E2 := Aside0.mk (blk_below EP.out (show Below w1.heap.size w1 w2 from hm ▸ pw_below_drewN (Below.refl _ _) md)); clear hm; have z3 := blk_frozen E2.out 3; replace y3 := blk_cell E2.out 3; simp at y3))
        have B3 := Aside0.mk (B2.out.setCell (p := ⟨G, 3, none⟩) (Nat.le_refl _) (.string T))
        have E3 := Aside0.mk (blk_set E2.out 3 (.string T))
        simp at E3
        clear z3 y3 B1 B2 E2 EP FC
        generalize w2.setCell ⟨G, 3, none⟩ (.string T) = w3 at B3 E3 ⊢
        obtain ⟨P', C', M', is, ff, hT1, hT2, hR, hM'⟩ := take_step SS.out.rel num0 pn pa po T (by rw [SS.out.mlen]; have := MI.out; have := HIN.out; omega)
        obtain ⟨m', hm'⟩ : ∃ m, M'.length = m := ⟨_, rfl⟩
        rw [hm', SS.out.mlen] at hM'
        have QT := recv_Take.calls 2000 num0 (fun k => (k ≠ B ∧ k ≠ X) ∧ k < G) A1 c1 P (fun k => (k ≠ B ∧ k ≠ X) ∧ k < G) A2 c2 C pn pa po T num0 P' C' is ff w3 (by rw [SS.out.rel.p]; exact Kd.V_below (SI.out.p _) (bw LP.out.2.2 B3.out)) (by rw [SS.out.rel.c]; exact Kd.V_below (SI.out.q _) (bw LP.out.2.2 B3.out)) hT1
        have QR := fun W (hb : Below G wr W) => tillerref21_Take.calls 2000 num0 (n : Int) (fun k => (k ≠ B ∧ k ≠ X) ∧ k < G) A3 c3 M pn pa po T num0 (n : Int) M' is ff W (by rw [SS.out.mlen]; exact Kd.V_below (SI.out.r _) (bw LP.out.2.2 hb)) hT2
        simp only [SS.out.rel.p, SS.out.rel.c] at QT
        simp only [SS.out.mlen] at QR
        have QT := Aside0.mk QT
        have QR := Aside0.mk QR
        have R' := Aside0.mk (And.intro hR (And.intro hm' (show m' ≤ i + 1 from by have := MI.out; omega)))
        clear hT1 hT2 hR hm' hM'
        have x0 := blk_cell (blk_below SI.out.s (bw LP.out.2.2 B3.out)) 0
        have x1 := blk_cell (blk_below SI.out.s (bw LP.out.2.2 B3.out)) 1
        have x2 := blk_cell (blk_below SI.out.s (bw LP.out.2.2 B3.out)) 2
        have y0 := blk_cell E3.out 0
        have y1 := blk_cell E3.out 1
        have y2 := blk_cell E3.out 2
        have y3 := blk_cell E3.out 3
        simp at x0 x1 x2 y0 y1 y2 y3
        go_upto_region 13 with (go_at_call 25; go_loud ((with_reducible refine QT.out.mono ?_); rintro e w4 ⟨v1, v2, rfl, h1, h2, hb⟩; obtain ⟨A5, c5, rfl⟩ := Kd.V_slice h1; obtain ⟨A6, c6, rfl⟩ := Kd.V_slice h2; rw [R'.out.1.p] at h1 ⊢; rw [R'.out.1.c] at h2 ⊢; have B4 := Aside0.mk (bt LP.out.2.2 B3.out hb); have E4 := Aside0.mk (blk_below E3.out hb); have V5 := Aside0.mk (Kd.V_mono (ok' := fun k => k ≠ B ∧ k ≠ X) h1 (fun k q => by have := bsz LP.out.2.2 B3.out; have := LP.out; omega)); have V6 := Aside0.mk (Kd.V_mono (ok' := fun k => k ≠ B ∧ k ≠ X) h2 (fun k q => by have := bsz LP.out.2.2 B3.out; have := LP.out; omega)); clear h1 h2 hb))
        clear x0 x1 x2 y0 y1 y2 y3 QT B3 E3
        have ET := Aside0.mk (blk_new w4 (.cells #[.int .i64 num0, .slice A5 n c5, .slice A6 n c6] 50 (0, 0)))
        have bb := below_alloc (Below.refl w4.heap.size w4) (.cells #[.int .i64 num0, .slice A5 n c5, .slice A6 n c6] 50 (0, 0))
        have B5 := Aside0.mk (bt LP.out.2.2 B4.out bb)
        have E5 := Aside0.mk (blk_below E4.out bb)
        have U5 := Aside0.mk (Kd.V_below V5.out bb)
        have U6 := Aside0.mk (Kd.V_below V6.out bb)
        have TG := Aside0.mk (show G ≤ w4.heap.size from bsz LP.out.2.2 B4.out)
        clear bb V5 V6 E4 B4
        generalize w4.alloc (.cells #[.int .i64 num0, .slice A5 n c5, .slice A6 n c6] 50 (0, 0)) = w5 at ET B5 E5 U5 U6 ⊢
        generalize w4.heap.size = Y1 at ET TG ⊢
        have x0 := blk_cell (blk_below SI.out.x (bw LP.out.2.2 B5.out)) 0
        have x1 := blk_cell (blk_below SI.out.x (bw LP.out.2.2 B5.out)) 1
        have x2 := blk_cell (blk_below SI.out.x (bw LP.out.2.2 B5.out)) 2
        have y0 := blk_cell E5.out 0
        have y1 := blk_cell E5.out 1
        have y2 := blk_cell E5.out 2
        have y3 := blk_cell E5.out 3
        simp at x0 x1 x2 y0 y1 y2 y3
        go_upto_region 14 with (go_at_call 26; go_loud ((with_reducible refine (QR.out w5 B5.out).mono ?_); rintro e w6 ⟨v3, rfl, h3, hb⟩; obtain ⟨A7, c7, rfl⟩ := Kd.V_slice h3; rw [R'.out.2.1] at h3 ⊢; have B6 := Aside0.mk (bt LP.out.2.2 B5.out hb); have E6 := Aside0.mk (blk_below ET.out hb); have V5 := Aside0.mk (Kd.V_below U5.out hb); have V6 := Aside0.mk (Kd.V_below U6.out hb); have V7 := Aside0.mk (Kd.V_mono (ok' := fun k => k ≠ B ∧ k ≠ X) h3 (fun k q => by have := bsz LP.out.2.2 B5.out; have := LP.out; omega)); clear h3 hb))
        clear x0 x1 x2 y0 y1 y2 y3 QR U5 U6 B5 E5 ET
        have EY := Aside0.mk (blk_new w6 (.cells #[.int .i64 num0, .int .i64 n, .slice A7 m' c7] 55 (0, 0)))
        have bb := below_alloc (Below.refl w6.heap.size w6) (.cells #[.int .i64 num0, .int .i64 n, .slice A7 m' c7] 55 (0, 0))
        have B7 := Aside0.mk (bt LP.out.2.2 B6.out bb)
        have E7 := Aside0.mk (blk_below E6.out bb)
        have U5 := Aside0.mk (Kd.V_below V5.out bb)
        have U6 := Aside0.mk (Kd.V_below V6.out bb)
        have U7 := Aside0.mk (Kd.V_below V7.out bb)
        have TH := Aside0.mk (show G ≤ w6.heap.size ∧ Y1 ≠ w6.heap.size from ⟨bsz LP.out.2.2 B6.out, Nat.ne_of_lt (blk_lt E6.out)⟩)
        clear bb V5 V6 V7 E6 B6
        generalize w6.alloc (.cells #[.int .i64 num0, .int .i64 n, .slice A7 m' c7] 55 (0, 0)) = w7 at EY B7 E7 U5 U6 U7 ⊢
        generalize w6.heap.size = Y2 at EY TH ⊢
        have SN := Aside0.mk (SS.out.back (bw LP.out.2.2 B7.out) U5.out U6.out U7.out R'.out.1 R'.out.2.1)
        have x0 := blk_cell (blk_below SI.out.s (bw LP.out.2.2 B7.out)) 0
        have x1 := blk_cell (blk_below SI.out.s (bw LP.out.2.2 B7.out)) 1
        have x2 := blk_cell (blk_below SI.out.s (bw LP.out.2.2 B7.out)) 2
        have x3 := blk_frozen (blk_below SI.out.s (bw LP.out.2.2 B7.out)) 0
        have x4 := blk_frozen (blk_below SI.out.s (bw LP.out.2.2 B7.out)) 1
        have x5 := blk_frozen (blk_below SI.out.s (bw LP.out.2.2 B7.out)) 2
        have z0 := blk_cell (blk_below SI.out.x (bw LP.out.2.2 B7.out)) 0
        have z1 := blk_cell (blk_below SI.out.x (bw LP.out.2.2 B7.out)) 1
        have z2 := blk_cell (blk_below SI.out.x (bw LP.out.2.2 B7.out)) 2
        have z3 := blk_frozen (blk_below SI.out.x (bw LP.out.2.2 B7.out)) 0
        have z4 := blk_frozen (blk_below SI.out.x (bw LP.out.2.2 B7.out)) 1
        have z5 := blk_frozen (blk_below SI.out.x (bw LP.out.2.2 B7.out)) 2
        have y0 := blk_cell E7.out 0
        have y1 := blk_cell E7.out 1
        have y2 := blk_cell E7.out 2
        have v0 := blk_cell EY.out 0
        have v1 := blk_cell EY.out 1
        have v2 := blk_cell EY.out 2
        simp at x0 x1 x2 z0 z1 z2 y0 y1 y2 v0 v1 v2
        have n1 : ¬ Y2 = B := by have := TH.out; have := LP.out; omega
        have n2 : ¬ B = X := SS.out.ne
        have n3 : ¬ Y1 = B := by have := TG.out; have := LP.out; omega
        go_upto_region 16 with (fail)
        obtain ⟨w8, hw8⟩ : ∃ w8, w8 = (((((w7.setCell ⟨B, 0, none⟩ (.int .i64 num0)).setCell ⟨B, 1, none⟩ (.slice A5 n c5)).setCell ⟨B, 2, none⟩ (.slice A6 n c6)).setCell ⟨X, 0, none⟩ (.int .i64 num0)).setCell ⟨X, 1, none⟩ (.int .i64 n)).setCell ⟨X, 2, none⟩ (.slice A7 m' c7) := ⟨_, rfl⟩
        rw [← hw8] at SN ⊢
        clear hw8 x0 x1 x2 x3 x4 x5 y0 y1 y2 z0 z1 z2 z3 z4 z5 v0 v1 v2 n1 n2 n3 U5 U6 U7 EY E7 B7 SI SS LP TG TH
        obtain ⟨a, ok, hw1, hw2⟩ := rWhole_eq SN.out.rel num0 (by rw [SN.out.mlen]; have := R'.out.2.2; have := HIN.out; omega)
        have hms := missing_eq SN.out.rel num0
        rw [SN.out.mlen] at hms
        have Q1 := recv_Whole.calls 2000 num0 A5 c5 P' A6 c6 C' a ok w8 (Kd.V_reads' SN.out.p).2.2 (by rw [SN.out.rel.p]; exact (Kd.V_reads' SN.out.p).2.1) (Kd.V_reads' SN.out.q).2.2 (by rw [SN.out.rel.c]; exact (Kd.V_reads' SN.out.q).2.1) hw1
        have Q2 := fun W (hb : Below w8.heap.size w8 W) => tillerref21_Whole.calls 2000 num0 (n : Int) A7 c7 M' a ok W (Kd.V_reads' (Kd.V_below SN.out.r hb)).2.2 (by rw [SN.out.mlen]; exact (Kd.V_reads' SN.out.r).2.1) hw2
        have Q3 := fun W (hb : Below w8.heap.size w8 W) => recv_Missing.calls 2000 num0 A5 c5 P' A6 c6 C' ((n : Int) - (m' : Int)) W (Kd.V_reads' (Kd.V_below SN.out.p hb)).2.2 (by rw [SN.out.rel.p]; exact (Kd.V_reads' SN.out.p).2.1) (Kd.V_reads' (Kd.V_below SN.out.q hb)).2.2 (by rw [SN.out.rel.c]; exact (Kd.V_reads' SN.out.q).2.1) hms
        simp only [SN.out.rel.p, SN.out.rel.c, SN.out.mlen] at Q1 Q2 Q3
        have Q1 := Aside0.mk Q1
        have Q2 := Aside0.mk Q2
        have Q3 := Aside0.mk Q3
        clear hw1 hw2 hms
        have x0 := blk_cell SN.out.s 0
        have x1 := blk_cell SN.out.s 1
        have x2 := blk_cell SN.out.s 2
        have z0 := blk_cell SN.out.x 0
        have z1 := blk_cell SN.out.x 1
        have z2 := blk_cell SN.out.x 2
        simp at x0 x1 x2 z0 z1 z2
        go_upto_region 17 with (go_at_call 27; go_loud ((with_reducible refine Q1.out.mono ?_); rintro e w9 ⟨rfl, hb⟩; have B9 := Aside0.mk hb; replace z0 := pw_cell_below hb z0; replace z1 := pw_cell_below hb z1; replace z2 := pw_cell_below hb z2; clear hb))
        go_upto_region 18 with (go_at_call 28; go_loud ((with_reducible refine (Q2.out w9 B9.out).mono ?_); rintro e w10 ⟨rfl, hb⟩; have B10 := Aside0.mk (below_step B9.out hb); replace z2 := pw_cell_below hb z2; clear hb))
        replace x0 := pw_cell_below B10.out x0
        replace x1 := pw_cell_below B10.out x1
        replace x2 := pw_cell_below B10.out x2
        have wr1 : IntKind.i64.wrap ((n : Int) - (m' : Int)) = (n : Int) - (m' : Int) := by have h1 := NB.out; have h2 := R'.out.2.2; have h3 := HIN.out; rw [IntKind.wrap_i64]; omega
        have B11 := Aside0.mk (below_step B10.out (show Below w10.heap.size w10 w10.drew from (Below.refl _ _).drew))
        have KP := Aside0.mk (show ∀ W, Below w10.heap.size w10 W → (W.cell? ⟨B, 0, none⟩ = some (.int .i64 num0) ∧ W.cell? ⟨B, 1, none⟩ = some (.slice A5 n c5) ∧ W.cell? ⟨B, 2, none⟩ = some (.slice A6 n c6) ∧ W.cell? ⟨X, 2, none⟩ = some (.slice A7 m' c7)) from fun W hb => ⟨pw_cell_below hb x0, pw_cell_below hb x1, pw_cell_below hb x2, pw_cell_below hb z2⟩)
        clear z0 z1
        go_region_held3 (fun W => W.cell? ⟨B, 0, none⟩ = some (.int .i64 num0) ∧ W.cell? ⟨B, 1, none⟩ = some (.slice A5 n c5) ∧ W.cell? ⟨B, 2, none⟩ = some (.slice A6 n c6) ∧ W.cell? ⟨X, 2, none⟩ = some (.slice A7 m' c7))
          (first | exact KP.out _ B13.out | exact KP.out _ ((Below.refl _ _).drew))
          ((go_at_call 29; (with_reducible refine (Q3.out w10.drew B11.out).mono ?_); go_loud (rintro e w12 ⟨rfl, hb⟩; have B12 := Aside0.mk (below_step B11.out hb); have B13 := Aside0.mk (show Below w10.heap.size w10 w12 from ((Below.refl _ _).drew).trans hb); clear hb)))
        go_wp2
        go_roundg k0
        case measure => omega
        case rel => exact ⟨i + 1, A5, c5, A6, c6, A7, c7, m', P', C', M', by have h9 := HIN.out; rw [w64 (x := (i : Int) + 1) (by omega) (by omega)]; rfl, ⟨by have := HJ.out; omega⟩, ⟨SN.out.step B12.out⟩, ⟨R'.out.2.2⟩⟩
      · have BL := Aside0.mk SS.out.bel
        have dd : (decide ((i : Int) < (ml : Int)) = false ∧ decide (i < ml) = false) ∨ ((decide ((i : Int) < (ml : Int)) = true ∧ decide (i < ml) = true) ∧ decide ((i : Int) < 60) = false ∧ decide (i < 60) = false) := by
          simp only [decide_eq_true_eq, decide_eq_false_iff_not]
          omega
        clear hj hin
        rcases dd with ⟨d3, d6⟩ | ⟨⟨d3, d6⟩, d4, d7⟩
        all_goals (
          go_wp2
          go_ret
          exact ⟨rfl, BL.out⟩)
end Go.Proofs.Ytfonfdpimbnfaaa.ORecvPlays
