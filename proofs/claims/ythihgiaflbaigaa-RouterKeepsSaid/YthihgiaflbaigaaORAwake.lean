/- A router's door is awake. -/
import Derived.Test.YthihgiaflbaigaaGQx1
import Derived.Test.YthihgiaflbaigaaGQx2
import Derived.Test.YthihgiaflbaigaaORSubmit
import Derived.Test.YthihgiaflbaigaaORNew
set_option linter.unusedVariables false
set_option linter.unusedSimpArgs false
namespace Go.Proofs.Ythihgiaflbaigaa.ORouter
open Go.RowKit Go.Proofs.YthihgiaflbaigaaW.PrintWords Go.Proofs.YthihgiaflbaigaaW.PrintLast Go.Proofs.YthihgiaflbaigaaW.PrintMore Go.Proofs.Ythihgiaflbaigaa.GQ Go.Proofs.Ythihgiaflbaigaa.OMap Go.Proofs.Ythihgiaflbaigaa.UTrie Go.Proofs.Ythihgiaflbaigaa.OTrie
theorem pickD_val (S : RX) : (pickD S).1.p = S.p ∧ (pickD S).1.es = S.es := ⟨rfl, rfl⟩
theorem Inv.place {S : RX} (h : Inv S) (l : List Int) (fresh : Bool) : Inv (placeR S l fresh).1 := by
  obtain ⟨i1, i2, i3⟩ := h.pickP l fresh
  have sm := pickP_same S l fresh
  have hd := i1.pickD
  unfold placeR
  by_cases e : (ORouter.pickP S l fresh).2 = 0 ∨ (ORouter.pickD (ORouter.pickP S l fresh).1).2 = 0
  · simp only [if_pos e]; exact hd
  · simp only [if_neg e]
    exact hd.putT l _ ⟨by omega, by rw [(pickD_val _).1, sm.1]; exact i3⟩
theorem placeR_es (S : RX) (l : List Int) (fresh : Bool) : (placeR S l fresh).1.es = S.es ∧ (placeR S l fresh).1.p = S.p ∧ (placeR S l fresh).1.c = S.c := by
  have sm := pickP_same S l fresh
  unfold placeR
  by_cases e : (pickP S l fresh).2 = 0 ∨ (pickD (pickP S l fresh).1).2 = 0
  · simp only [if_pos e]; exact ⟨sm.2.2.2.2.2.1, sm.1, sm.2.1⟩
  · simp only [if_neg e]; exact ⟨sm.2.2.2.2.2.1, sm.1, sm.2.1⟩
theorem Inv.es {S : RX} (h : Inv S) (es : List PE) : Inv { S with es := es } := ⟨h.p1, h.p2, h.sum, h.out, h.t0, h.t1, h.val, h.cnt⟩
theorem Inv.submit {S : RX} (h : Inv S) (ea now : Int) (l : List Int) (most : Int) : Inv (submitR S ea now l most).1 := by
  unfold submitR
  split
  · exact h
  split
  · exact h
  split
  · exact h
  split
  · exact h
  split
  · exact h.place l true
  · exact (h.place l true).es _
theorem Inv.new (c : Cfg) (p : S31) (h1 : 1 ≤ p.f0 ∧ p.f0 ≤ 7) (h2 : 1 ≤ p.f1 ∧ p.f1 ≤ 7) (h3 : p.f0 + p.f1 ≤ 7) : Inv (newR c p) :=
  ⟨h1, h2, h3, by show ((List.replicate (p.f0 + p.f1 + 1).toNat false).length : Int) = p.f0 + p.f1 + 1; rw [List.length_replicate]; omega, by show 0 ≤ (0 : Int) ∧ (0 : Int) < p.f0; omega, by show 0 ≤ (0 : Int) ∧ (0 : Int) < p.f1; omega, fun r v hv => (by cases hv), by show 0 ≤ (0 : Int) ∧ (0 : Int) ≤ 1000; omega⟩
def smallC : Cfg := ⟨4, 1, 1, 1, 1⟩
def plA : S31 := ⟨2, 1, 4, 5, 2⟩
def aw0 : RX := newR smallC plA
def aw1 : RX := (submitR aw0 0 0 [1] 1).1
def aw2 : RX := (submitR aw1 0 0 [2] 1).1
def aw3 : RX := (submitR aw2 0 0 [2, 1] 1).1
theorem aw_1 : (submitR aw0 0 0 [1] 1).2 = (0, 1, 3, 0) := by rfl
theorem aw_2 : (submitR aw1 0 0 [2] 1).2 = (1, 2, 3, 0) := by rfl
theorem aw_3 : (submitR aw2 0 0 [2, 1] 1).2 = (2, 2, 3, 0) := by rfl
theorem aw_o : opn aw3.es = 3 := by rfl
theorem aw_a1 : greedy_Asked.f 2000 4 1 1 1 1 [1] 1 = some 0 := by decide +kernel
theorem aw_a2 : greedy_Asked.f 2000 4 1 1 1 1 [2] 1 = some 0 := by decide +kernel
theorem aw_a3 : greedy_Asked.f 2000 4 1 1 1 1 [2, 1] 1 = some 0 := by decide +kernel
theorem aw_c : router_Check.f 100 2 1 4 5 2 = some 0 := by decide +kernel
theorem aw_i0 : Inv aw0 := Inv.new _ _ (by decide) (by decide) (by decide)
theorem new_ok (c : Cfg) (p : S31) (w : World) (hC : router_Check.f 100 p.f0 p.f1 p.f2 p.f3 p.f4 = some 0) (hp : (1 ≤ p.f0 ∧ p.f0 ≤ 7) ∧ 1 ≤ p.f1 ∧ p.f1 ≤ 7) :
    Calls Try.prog 7 #[.agg #[.int .i64 c.f0, .int .i64 c.f1, .int .i64 c.f2, .int .i64 c.f3, .int .i64 c.f4], .agg #[.int .i64 p.f0, .int .i64 p.f1, .int .i64 p.f2, .int .i64 p.f3, .int .i64 p.f4]] w fun e w' => ∃ g q oc, e = .returned (.tuple #[.pointer (some ⟨g, 0, none⟩), .int .i64 0]) ∧ RT w' g w.heap.size (newR c p) (newL g q oc) ∧ Below w.heap.size w w' :=
  (new_calls c p 0 w hC (fun _ => hp)).mono (fun e w' h => by
    rcases h with ⟨hb, ⟨h0, _⟩ | ⟨_, g, q, oc, he, r⟩⟩
    · exact absurd rfl h0
    · exact ⟨g, q, oc, he, r, hb⟩)
theorem lit_ok {W : World} {g lo : Nat} {S : RX} {L : Lo} (h : RT W g lo S L) {l : List Int} (hl : l.length ≤ 1000) : Kd.F kI (W.alloc (.cells (l.map (Value.int .i64)).toArray 3 (0, 0))) (fun k => ¬ mine L k) (some ⟨W.heap.size, 0, none⟩) l.length l :=
  Kd.F_mono (lit_F (blk_new W _) hl) (fun k hk hm => by have := h.hi k hm; omega)
/-- Submit of a row that was just written down. -/
theorem submit_lit {W : World} {g lo : Nat} {S : RX} {L : Lo} (h : RT W g lo S L) (hI : Inv S) {l : List Int} (n : Nat) (hn : l.length = n) (hl : n ≤ 1000) (hi : ∀ x ∈ l, 0 ≤ x ∧ x ≤ 1000000) (hN : L.N ≤ 1000000000) (hes : S.es.length ≤ 1048576) (ea now most : Int) (hE : greedy_Asked.f 2000 S.c.f0 S.c.f1 S.c.f2 S.c.f3 S.c.f4 l most = some ea) (S' : RX) (r p d ee : Int) (h1 : (submitR S ea now l most).1 = S') (h2 : (submitR S ea now l most).2 = (r, p, d, ee)) :
    Calls Try.prog 10 #[.pointer (some ⟨g, 0, none⟩), .int .i64 now, .slice (some ⟨W.heap.size, 0, none⟩) n n, .int .i64 most] (W.alloc (.cells (l.map (Value.int .i64)).toArray 3 (0, 0))) fun e w' => e = .returned (.tuple #[.agg #[.int .i64 r, .int .i64 0, .int .i64 p, .int .i64 d], .int .i64 ee]) ∧ ∃ L', L'.N ≤ L.N + 128 ∧ RT w' g lo S' L' ∧ Below lo W w' ∧ ∀ k, k < W.heap.size → ¬ mine L k → w'.heap[k]? = W.heap[k]? ∧ ¬ mine L' k := by
  have hb := below_alloc (Below.refl W.heap.size W) (.cells (l.map (Value.int .i64)).toArray 3 (0, 0))
  have c := submit_calls g lo S L (some ⟨W.heap.size, 0, none⟩) n l now most ea _ (h.below hb) hI (lit_ok h (by omega)) (by omega) (small_i64 hi) hN (by omega) hes hE
  rw [hn, h1, h2] at c
  exact c.mono (fun e w' ⟨he, L', hN', hr, hp⟩ => ⟨he, L', hN', hr, (hb.mono h.size).trans hp.below, fun k hk hm => ⟨(hp.kept.2 k (Nat.lt_of_lt_of_le hk hb.size) hm).trans (hb.block k hk), fun hm' => (hp.mine k hm').elim hm (fun q => by have := hb.size; omega)⟩⟩)
set_option maxHeartbeats 8000000 in
set_option maxRecDepth 100000 in
theorem awake_calls (w : World) : Calls Try.prog 11 #[] w fun e w' => e = .returned (.bool true) ∧ Below w.heap.size w w' := by
  have SC := Aside0.mk (tillerlaw24_small.calls 4 1 1 1 1 w rfl)
  go_enter Try.func11, Try.ntmps11
  go_upto_region 2 with (first
    | (go_at_call 8; go_loud ((refine SC.out.mono ?_); rintro e w1 ⟨rfl, hb⟩; have B1 := Aside0.mk hb; clear hb))
    | (go_at_call 7; go_loud ((refine (new_ok smallC plA w1 aw_c (by decide)).mono ?_); rintro e w2 ⟨g, q, oc, rfl, r, hb⟩; have B2 := Aside0.mk (B1.out.trans (hb.mono B1.out.size)); have R2 := Aside0.mk (show RT w2 g w1.heap.size aw0 (newL g q oc) from r); have LO := Aside0.mk B1.out.size; clear hb r)))
  go_upto_region 4 with (fail)
  have SU := Aside0.mk (submit_lit R2.out aw_i0 (l := [1]) 1 rfl (by decide) (by decide) (by show 0 ≤ 1000000000; omega) (by decide) 0 0 1 aw_a1 aw1 0 1 3 0 rfl aw_1)
  go_upto_region 5 with (go_at_call 10; go_loud ((refine SU.out.mono ?_); rintro e w3 ⟨rfl, L0, hN, r, hb, kp⟩;  have HN0 := Aside0.mk (show L0.N ≤ 128 from by exact hN); have RA := Aside0.mk r; have BA := Aside0.mk (B2.out.trans (hb.mono LO.out)); clear hN r hb kp))
  have bb := below_alloc (Below.refl w3.heap.size w3) (.cells #[.int .i64 0, .int .i64 0, .int .i64 1, .int .i64 3] 34 (0, 0))
  have X0 := Aside0.mk (And.intro (blk_new w3 (.cells #[.int .i64 0, .int .i64 0, .int .i64 1, .int .i64 3] 34 (0, 0))) (show ¬ mine L0 w3.heap.size from fun q => Nat.lt_irrefl _ (RA.out.hi _ q)))
  have R3 := Aside0.mk (RA.out.below bb)
  have B3 := Aside0.mk (BA.out.trans (bb.mono BA.out.size))
  clear SU RA BA bb R2 B2
  generalize w3.alloc (.cells #[.int .i64 0, .int .i64 0, .int .i64 1, .int .i64 3] 34 (0, 0)) = w4 at  X0 R3 B3 ⊢
  generalize w3.heap.size = G0 at X0 ⊢
  have SU := Aside0.mk (submit_lit R3.out (aw_i0.submit 0 0 [1] 1) (l := [2]) 1 rfl (by decide) (by decide) (by have := HN0.out; omega) (by decide) 0 0 1 aw_a2 aw2 1 2 3 0 rfl aw_2)
  go_upto_region 6 with (go_at_call 10; go_loud ((refine SU.out.mono ?_); rintro e w5 ⟨rfl, L1, hN, r, hb, kp⟩;  have X0 := Aside0.mk (show _ ∧ _ from let q := kp G0 (blk_lt X0.out.1) X0.out.2; ⟨q.1.trans X0.out.1, q.2⟩); have HN1 := Aside0.mk (show L1.N ≤ 256 from by have := HN0.out; omega); have RA := Aside0.mk r; have BA := Aside0.mk (B3.out.trans (hb.mono LO.out)); clear hN r hb kp))
  have bb := below_alloc (Below.refl w5.heap.size w5) (.cells #[.int .i64 1, .int .i64 0, .int .i64 2, .int .i64 3] 34 (0, 0))
  have X1 := Aside0.mk (And.intro (blk_new w5 (.cells #[.int .i64 1, .int .i64 0, .int .i64 2, .int .i64 3] 34 (0, 0))) (show ¬ mine L1 w5.heap.size from fun q => Nat.lt_irrefl _ (RA.out.hi _ q)))
  have X0 := Aside0.mk (show _ ∧ _ from ⟨blk_below X0.out.1 bb, X0.out.2⟩)
  have R4 := Aside0.mk (RA.out.below bb)
  have B4 := Aside0.mk (BA.out.trans (bb.mono BA.out.size))
  clear SU RA BA bb R3 B3
  generalize w5.alloc (.cells #[.int .i64 1, .int .i64 0, .int .i64 2, .int .i64 3] 34 (0, 0)) = w6 at X0 X1 R4 B4 ⊢
  generalize w5.heap.size = G1 at X1 ⊢
  have SU := Aside0.mk (submit_lit R4.out ((aw_i0.submit 0 0 [1] 1).submit 0 0 [2] 1) (l := [2, 1]) 2 rfl (by decide) (by decide) (by have := HN1.out; omega) (by decide) 0 0 1 aw_a3 aw3 2 2 3 0 rfl aw_3)
  go_upto_region 7 with (go_at_call 10; go_loud ((refine SU.out.mono ?_); rintro e w7 ⟨rfl, L2, hN, r, hb, kp⟩;  have X0 := Aside0.mk (show _ ∧ _ from let q := kp G0 (blk_lt X0.out.1) X0.out.2; ⟨q.1.trans X0.out.1, q.2⟩); have X1 := Aside0.mk (show _ ∧ _ from let q := kp G1 (blk_lt X1.out.1) X1.out.2; ⟨q.1.trans X1.out.1, q.2⟩); have HN2 := Aside0.mk (show L2.N ≤ 384 from by have := HN1.out; omega); have RA := Aside0.mk r; have BA := Aside0.mk (B4.out.trans (hb.mono LO.out)); clear hN r hb kp))
  have bb := below_alloc (Below.refl w7.heap.size w7) (.cells #[.int .i64 2, .int .i64 0, .int .i64 2, .int .i64 3] 34 (0, 0))
  have X2 := Aside0.mk (And.intro (blk_new w7 (.cells #[.int .i64 2, .int .i64 0, .int .i64 2, .int .i64 3] 34 (0, 0))) (show ¬ mine L2 w7.heap.size from fun q => Nat.lt_irrefl _ (RA.out.hi _ q)))
  have X0 := Aside0.mk (show _ ∧ _ from ⟨blk_below X0.out.1 bb, X0.out.2⟩)
  have X1 := Aside0.mk (show _ ∧ _ from ⟨blk_below X1.out.1 bb, X1.out.2⟩)
  have R5 := Aside0.mk (RA.out.below bb)
  have B5 := Aside0.mk (BA.out.trans (bb.mono BA.out.size))
  clear SU RA BA bb R4 B4
  generalize w7.alloc (.cells #[.int .i64 2, .int .i64 0, .int .i64 2, .int .i64 3] 34 (0, 0)) = w8 at X0 X1 X2 R5 B5 ⊢
  generalize w7.heap.size = G2 at X2 ⊢
  have y00 := blk_cell X0.out.1 0
  have y01 := blk_cell X0.out.1 1
  have y02 := blk_cell X0.out.1 2
  have y03 := blk_cell X0.out.1 3
  have y10 := blk_cell X1.out.1 0
  have y11 := blk_cell X1.out.1 1
  have y12 := blk_cell X1.out.1 2
  have y13 := blk_cell X1.out.1 3
  have y20 := blk_cell X2.out.1 0
  have y21 := blk_cell X2.out.1 1
  have y22 := blk_cell X2.out.1 2
  have y23 := blk_cell X2.out.1 3
  simp at y00 y01 y02 y03 y10 y11 y12 y13 y20 y21 y22 y23
  have OC := Aside0.mk (open_calls g w1.heap.size aw3 L2 w8 R5.out (by decide))
  go_wp2_with (go_at_call 26; go_loud ((refine OC.out.mono ?_); rintro e w9 ⟨rfl, hb⟩; have B9 := Aside0.mk (B5.out.trans (hb.mono B5.out.size)); rw [aw_o]; clear hb))
  go_ret
  exact ⟨rfl, B9.out⟩
end Go.Proofs.Ythihgiaflbaigaa.ORouter
