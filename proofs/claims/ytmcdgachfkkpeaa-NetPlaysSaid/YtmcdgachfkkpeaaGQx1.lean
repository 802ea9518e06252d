-- written by this session's program gprint.py
import Derived.Test.YtmcdgachfkkpeaaGQx0
import Derived.Test.YtmcdgachfkkpeaaWApart
import Derived.Test.YtmcdgachfkkpeaaWGuard
import Derived.Test.YtmcdgachfkkpeaaWKept
import Derived.Test.YtmcdgachfkkpeaaWMore
import Derived.Test.YtmcdgachfkkpeaaWN
import Derived.Test.YtmcdgachfkkpeaaWWords
namespace Go.Proofs.Ytmcdgachfkkpeaa.GQ
open Go.RowKit Go.Proofs.YtmcdgachfkkpeaaW.PrintWords Go.Proofs.YtmcdgachfkkpeaaW.PrintLast Go.Proofs.YtmcdgachfkkpeaaW.PrintMore
attribute [local go_sem] max2_int min2_int max_two min_two max_three min_three max_four min_four   -- for this text's walks alone
set_option linter.unusedVariables false
set_option linter.unusedSimpArgs false

-- NOT PRINTED: function 9 (net_Net_Send)

/-- A state of type 25 at block g of W; what its slices lead to came in by w0. -/
def IsS25 (w0 W : World) (g : Nat) (f0 : List (S35)) (f1 : Int) : Prop := ∃ A0 c0, W.heap[g]? = some (.cells #[.slice A0 f0.length c0, .int .i64 f1] 25 (0, 0)) ∧ w0.heap.size ≤ g ∧ Kd.C k35 w0 A0 f0.length f0
theorem IsS25.grown {w0 W : World} {g : Nat} {f0 : List (S35)} {f1 : Int} {W1 : World} {row : Option Nat} (h : IsS25 w0 W g f0 f1) (hw : W.grownBy W1 row) (hne : some g ≠ row) : IsS25 w0 W1 g f0 f1 := by
 obtain ⟨A0, c0, hb, hg, hr0⟩ := h
 exact ⟨A0, c0, blk_grown hb hw hne, hg, hr0⟩
theorem IsS25.own_neN {w0 W : World} {g : Nat} {f0 : List (S35)} {f1 : Int} {α : Type} {d : Kd α} {e : Nat} {base : Nat} {ok : Nat → Prop} {v : Value} {xs : List α} (h : IsS25 w0 W g f0 f1) (ho : Kd.N d e W base ok v xs) (ht : e ≠ 25) : some g ≠ v.ownBlock := by
 obtain ⟨A0, c0, hb, hg, hr0⟩ := h
 exact Kd.N_ne ho hb ht
theorem IsS25.fresh {w0 W : World} {g : Nat} {f0 : List (S35)} {f1 : Int} (h : IsS25 w0 W g f0 f1) : ∀ k, W.heap.size ≤ k → k ≠ g := by
 obtain ⟨A0, c0, hb, hg, hr0⟩ := h
 exact Kd.freshB hb
theorem IsS25.kept {w0 W : World} {g : Nat} {f0 : List (S35)} {f1 : Int} {W1 : World} {S : Nat → Prop} (h : IsS25 w0 W g f0 f1) (hk : Kept W W1 S) (hne : ¬ S g) : IsS25 w0 W1 g f0 f1 := by
 obtain ⟨A0, c0, hb, hg, hr0⟩ := h
 exact ⟨A0, c0, blk_kept hb hk hne, hg, hr0⟩
theorem IsS25.below {w0 W : World} {g : Nat} {f0 : List (S35)} {f1 : Int} {W1 : World} (h : IsS25 w0 W g f0 f1) (hw : Below W.heap.size W W1) : IsS25 w0 W1 g f0 f1 := h.grown (grown_of_below hw none) (by simp)
theorem IsS25.alloc {w0 W : World} {g : Nat} {f0 : List (S35)} {f1 : Int} (h : IsS25 w0 W g f0 f1) (o : Obj) : IsS25 w0 (W.alloc o) g f0 f1 := h.below (below_alloc (Below.refl _ _) o)
theorem IsS25.drewN {w0 W : World} {g : Nat} {f0 : List (S35)} {f1 : Int} (h : IsS25 w0 W g f0 f1) (m : Nat) : IsS25 w0 (W.drewN m) g f0 f1 := h
theorem IsS25.drew {w0 W : World} {g : Nat} {f0 : List (S35)} {f1 : Int} (h : IsS25 w0 W g f0 f1) : IsS25 w0 W.drew g f0 f1 := h
theorem IsS25.at_ {w0 W : World} {g : Nat} {f0 : List (S35)} {f1 : Int} {w' : World} {m : Nat} (hq : W.drewN m = w') (h : IsS25 w0 W g f0 f1) : IsS25 w0 w' g f0 f1 := by subst hq; exact IsS25.drewN h m
theorem IsS25.apart {w0 W : World} {g : Nat} {f0 : List (S35)} {f1 : Int} {α : Type} {d : Kd α} {e : Nat} {base : Nat} {ok : Nat → Prop} {v : Value} {xs : List α} (h : IsS25 w0 W g f0 f1) (ho : d.R e W base ok v xs) (ht : ∀ q, q ∈ e :: d.E → q ≠ 25) : d.R e W base (fun k => ok k ∧ k ≠ g) v xs := by
 obtain ⟨A0, c0, hb, hg, hr0⟩ := h
 exact Kd.R_types ho hb ht
theorem IsS25.own_ne {w0 W : World} {g : Nat} {f0 : List (S35)} {f1 : Int} {α : Type} {d : Kd α} {e : Nat} {base : Nat} {ok : Nat → Prop} {v : Value} {xs : List α} (h : IsS25 w0 W g f0 f1) (ho : d.R e W base ok v xs) (ht : e ≠ 25) : some g ≠ v.ownBlock := by
 obtain ⟨A0, c0, hb, hg, hr0⟩ := h
 exact Kd.R_ne ho hb ht
theorem IsS25.apartQ {w0 W : World} {g : Nat} {f0 : List (S35)} {f1 : Int} {α : Type} {d : Kd α} {e : Nat} {base : Nat} {ok : Nat → Prop} {v : Value} {xs : List α} (h : IsS25 w0 W g f0 f1) (ho : d.Q e W base ok v xs) (ht : ∀ q, q ∈ e :: d.E → q ≠ 25) : d.Q e W base (fun k => ok k ∧ k ≠ g) v xs := by
 obtain ⟨A0, c0, hb, hg, hr0⟩ := h
 exact Kd.Q_types ho hb ht
theorem IsS25.own_neQ {w0 W : World} {g : Nat} {f0 : List (S35)} {f1 : Int} {α : Type} {d : Kd α} {e : Nat} {base : Nat} {ok : Nat → Prop} {v : Value} {xs : List α} (h : IsS25 w0 W g f0 f1) (ho : d.Q e W base ok v xs) (ht : e ≠ 25) : some g ≠ v.ownBlock := by
 obtain ⟨A0, c0, hb, hg, hr0⟩ := h
 exact Kd.Q_ne ho hb ht
theorem IsS25.apartS {w0 W : World} {g : Nat} {f0 : List (S35)} {f1 : Int} {α : Type} {d : Kd α} {e : Nat} {base : Nat} {ok : Nat → Prop} {v : Value} {xs : List α} (h : IsS25 w0 W g f0 f1) (ho : d.S e W base ok v xs) (ht : ∀ q, q ∈ e :: d.E → q ≠ 25) : d.S e W base (fun k => ok k ∧ k ≠ g) v xs := by
 obtain ⟨A0, c0, hb, hg, hr0⟩ := h
 exact Kd.S_types ho hb ht
theorem IsS25.own_neS {w0 W : World} {g : Nat} {f0 : List (S35)} {f1 : Int} {α : Type} {d : Kd α} {e : Nat} {base : Nat} {ok : Nat → Prop} {v : Value} {xs : List α} (h : IsS25 w0 W g f0 f1) (ho : d.S e W base ok v xs) (ht : e ≠ 25) : some g ≠ v.ownBlock := by
 obtain ⟨A0, c0, hb, hg, hr0⟩ := h
 exact Kd.S_ne ho hb ht
theorem IsS25.lt {w0 W : World} {g : Nat} {f0 : List (S35)} {f1 : Int} (h : IsS25 w0 W g f0 f1) : g < W.heap.size := by
 obtain ⟨A0, c0, hb, hg, hr0⟩ := h
 exact blk_lt hb
theorem IsS25.ge {w0 W : World} {g : Nat} {f0 : List (S35)} {f1 : Int} (h : IsS25 w0 W g f0 f1) : w0.heap.size ≤ g := by
 obtain ⟨A0, c0, hb, hg, hr0⟩ := h
 exact hg
theorem IsS25.ne_blk {w0 W : World} {g : Nat} {f0 : List (S35)} {f1 : Int} {a : Nat} {cs : Array Value} {t : TypeId} {fr : Nat × Nat} (h : IsS25 w0 W g f0 f1) (hb2 : W.heap[a]? = some (.cells cs t fr)) (ht : t ≠ 25) : g ≠ a := by
 obtain ⟨A0, c0, hb, hg, hr0⟩ := h
 rintro rfl
 rw [hb] at hb2
 injection hb2 with hb2
 injection hb2 with _ ht2
 exact ht ht2.symm
theorem IsS25.far {w0 W : World} {g : Nat} {f0 : List (S35)} {f1 : Int} {p : Addr} (h : IsS25 w0 W g f0 f1) (hne : g ≠ p.block) (u : Value) : IsS25 w0 (W.setCell p u) g f0 f1 := by
 obtain ⟨A0, c0, hb, hg, hr0⟩ := h
 exact ⟨A0, c0, blk_far hb hne u, hg, hr0⟩
theorem cellS25_0 {W : World} {g : Nat} {A0 : Option Addr} {c0 : Nat} {f0 : List (S35)} {f1 : Int} (h : W.heap[g]? = some (.cells #[.slice A0 f0.length c0, .int .i64 f1] 25 (0, 0))) : W.cell? ⟨g, 0, none⟩ = some (.slice A0 f0.length c0) := (blk_cell h 0).trans rfl
theorem cellS25_1 {W : World} {g : Nat} {A0 : Option Addr} {c0 : Nat} {f0 : List (S35)} {f1 : Int} (h : W.heap[g]? = some (.cells #[.slice A0 f0.length c0, .int .i64 f1] 25 (0, 0))) : W.cell? ⟨g, 1, none⟩ = some (.int .i64 f1) := (blk_cell h 1).trans rfl
theorem IsS25.set_1 {w0 W : World} {g : Nat} {f0 : List (S35)} {f1 : Int} (h : IsS25 w0 W g f0 f1) (x : Int) : IsS25 w0 (W.setCell ⟨g, 1, none⟩ (.int .i64 x)) g f0 x := by
 obtain ⟨A0, c0, hb, hg, hr0⟩ := h
 exact ⟨A0, c0, by simpa using blk_set hb 1 (.int .i64 x), hg, hr0⟩
theorem IsS25.new (w0 W : World) (A0 : Option Addr) (c0 : Nat) (f0 : List (S35)) (f1 : Int) (hB : Below w0.heap.size w0 W) (hr0 : Kd.C k35 w0 A0 f0.length f0) : IsS25 w0 (W.alloc (.cells #[.slice A0 f0.length c0, .int .i64 f1] 25)) W.heap.size f0 f1 := ⟨A0, c0, by simpa using heap_alloc_new W _, hB.size, hr0⟩

/-! ### net_Net_Len: function 10 -/
def net_Net_Len.f (s0_0 : List (S35)) (s0_1 : Int) : Option (Int × Int) := some ((s0_0.length : Int), s0_1)
set_option maxHeartbeats 8000000 in
set_option maxRecDepth 100000 in
theorem net_Net_Len.calls (g : Nat) (s0_0 : List (S35)) (s0_1 : Int) (r1 : Int) (r2 : Int) (w0 w : World) (hI : IsS25 w0 w g s0_0 s0_1) (hB : Below w0.heap.size w0 w) (h : net_Net_Len.f s0_0 s0_1 = some (r1, r2)) :
  Calls Try.prog 10 #[.pointer (some ⟨g, 0, none⟩)] w fun e w' => e = .returned (.int .i64 r1) ∧ IsS25 w0 w' g s0_0 r2 ∧ Below w0.heap.size w0 w' ∧ KeepBut w w' g none := by
 have HI0 := Aside0.mk hI
 have HK := Aside0.mk (KeepBut.refl w g none)
 have HL := Aside0.mk hB.size
 clear hI
 have HW0 := Aside0.mk hB.size
 have HB := Aside0.mk hB
 clear hB
 have H : (some ((s0_0.length : Int), s0_1)) = some (r1, r2) := h
 clear h
 simp only [Option.some.injEq, Prod.mk.injEq] at H
 obtain ⟨rfl, rfl⟩ := H
 obtain ⟨ASz2_0, cSz2_0, HGz2, hgz2, HSz2_0⟩ := HI0.out
 have hcz2_0 := cellS25_0 HGz2
 have hcz2_1 := cellS25_1 HGz2
 have hfz2_1 := blk_frozen HGz2 1
 clear HGz2 hgz2
 go_enter Try.func10, Try.ntmps10
 go_wp2
 go_ret
 exact ⟨by first | rfl | (simp [errW_none, errW_some] <;> rfl) | (simp [*, errW_none, errW_some] <;> rfl), by repeat (first | (with_reducible first | exact HI0.out | apply IsS25.alloc | apply IsS25.drewN | apply IsS25.drew | apply IsS25.set_1) | exact HI0.out), by repeat (first | (with_reducible first | exact HB.out | apply bwA | apply bwN | apply bwD | refine below_set ?_ (IsS25.ge HI0.out)) | exact HB.out), by repeat (first | (with_reducible first | exact HK.out | apply KeepBut.set_ | apply keep_drewN | apply keep_drew | apply keep_alloc) | exact HK.out)⟩

/-! ### net_Net_Look: function 15 -/
def net_Net_Look.f (s0_0 : List (S35)) (s0_1 : Int) (a1 : Int) : Option (Int × ByteArray × Bool × Int × Int) := if a1 < 0 then (some (0, (⟨#[]⟩ : ByteArray), false, 8, s0_1)) else (if a1 ≥ (s0_0.length : Int) then (some (0, (⟨#[]⟩ : ByteArray), false, 8, s0_1)) else (if 0 ≤ a1 then (if a1 < (s0_0.length : Int) then (some ((rd_T35 s0_0 a1).f0, (rd_T35 s0_0 a1).f1, (rd_T35 s0_0 a1).f2, 0, s0_1)) else (none)) else (none)))
set_option maxHeartbeats 8000000 in
set_option maxRecDepth 100000 in
theorem net_Net_Look.calls (g : Nat) (s0_0 : List (S35)) (s0_1 : Int) (a1 : Int) (r1 : Int) (r2 : ByteArray) (r3 : Bool) (r4 : Int) (r5 : Int) (w0 w : World) (hI : IsS25 w0 w g s0_0 s0_1) (hB : Below w0.heap.size w0 w) (h : net_Net_Look.f s0_0 s0_1 a1 = some (r1, r2, r3, r4, r5)) :
  Calls Try.prog 15 #[.pointer (some ⟨g, 0, none⟩), .int .i64 a1] w fun e w' => e = .returned (.tuple #[.agg #[.int .i64 r1, .string r2, .bool r3], .int .i64 r4]) ∧ IsS25 w0 w' g s0_0 r5 ∧ Below w0.heap.size w0 w' ∧ KeepBut w w' g none := by
 have hu35 := Try.underlying35
 have HI0 := Aside0.mk hI
 have HK := Aside0.mk (KeepBut.refl w g none)
 have HL := Aside0.mk hB.size
 clear hI
 have HW0 := Aside0.mk hB.size
 have HB := Aside0.mk hB
 clear hB
 have H : (if a1 < 0 then (some (0, (⟨#[]⟩ : ByteArray), false, 8, s0_1)) else (if a1 ≥ (s0_0.length : Int) then (some (0, (⟨#[]⟩ : ByteArray), false, 8, s0_1)) else (if 0 ≤ a1 then (if a1 < (s0_0.length : Int) then (some ((rd_T35 s0_0 a1).f0, (rd_T35 s0_0 a1).f1, (rd_T35 s0_0 a1).f2, 0, s0_1)) else (none)) else (none)))) = some (r1, r2, r3, r4, r5) := h
 clear h
 by_cases c3 : a1 < 0
 ·rw [if_pos c3] at H
  have c3b0 : decide (a1 < 0) = true := decide_eq_true c3
  clear c3
  simp only [Option.some.injEq, Prod.mk.injEq] at H
  obtain ⟨rfl, rfl, rfl, rfl, rfl⟩ := H
  go_enter Try.func15, Try.ntmps15
  go_wp2_with (first | ((with_reducible refine gate_dst (N := 4) rfl ?_); (try (refine gate_guard (by rfl) ?_; dsimp only)); refine box_event ?hg (N := 4) ?hd (cs := #[.int .i64 0, .string (⟨#[]⟩ : ByteArray), .bool false]) (t := 35) ?hr ?_; (case hd => rfl); (case hg => rfl); (case hr => first | (go_simp; done) | (go_simp; rfl)); intro gb101 hg w4 hbox hb; have n0_ := Aside0.mk (IsS25.below (by repeat (first | (with_reducible first | exact HI0.out | apply IsS25.alloc | apply IsS25.drewN | apply IsS25.drew | apply IsS25.set_1) | exact HI0.out)) hb); have n1_ := Aside0.mk (KeepBut.trans (by repeat (first | (with_reducible first | exact HK.out | apply KeepBut.set_ | apply keep_drewN | apply keep_drew | apply keep_alloc) | exact HK.out)) (KeepBut.of_below hb g none) (.inl rfl)); have n2_ := Aside0.mk (below_step (by repeat (first | (with_reducible first | exact HB.out | apply bwA | apply bwN | apply bwD | refine below_set ?_ (IsS25.ge HI0.out)) | exact HB.out)) hb); have n3_ := Aside0.mk (hbox); have n4_ := Aside0.mk ((by rw [hg]; exact (keep_size (w := w) (g := g) (row := none) (by repeat (first | (with_reducible first | exact HK.out | apply KeepBut.set_ | apply keep_drewN | apply keep_drew | apply keep_alloc) | exact HK.out))) : w.heap.size ≤ gb101)); have n5_ := Aside0.mk ((Nat.le_trans HW0.out (by rw [hg]; exact (keep_size (w := w) (g := g) (row := none) (by repeat (first | (with_reducible first | exact HK.out | apply KeepBut.set_ | apply keep_drewN | apply keep_drew | apply keep_alloc) | exact HK.out))) : w.heap.size ≤ gb101) : w0.heap.size ≤ gb101)); have n6_ := Aside0.mk ((by rw [hg]; exact Nat.ne_of_lt (IsS25.lt (show IsS25 w0 _ g s0_0 s0_1 from by repeat (first | (with_reducible first | exact HI0.out | apply IsS25.alloc | apply IsS25.drewN | apply IsS25.drew | apply IsS25.set_1) | exact HI0.out))) : g ≠ gb101)); have n7_ := Aside0.mk ((by rw [hg]; exact Nat.ne_of_gt (IsS25.lt (show IsS25 w0 _ g s0_0 s0_1 from by repeat (first | (with_reducible first | exact HI0.out | apply IsS25.alloc | apply IsS25.drewN | apply IsS25.drew | apply IsS25.set_1) | exact HI0.out))) : gb101 ≠ g)); clear HI0; clear HK; clear HB; have HI0 := n0_; have HK := n1_; have HB := n2_; have BK101 := n3_; have GW101 := n4_; have GE101 := n5_; have NB0_101 := n6_; have NB101_0 := n7_; clear n0_ n1_ n2_ n3_ n4_ n5_ n6_ n7_; clear hb hbox hg; have hnb5 := NB101_0.out; have hnc5 := NB0_101.out; have hcz6_0 : w4.cell? ⟨gb101, 0, none⟩ = some (.int .i64 0) := (blk_cell BK101.out 0).trans rfl; have hcz6_1 : w4.cell? ⟨gb101, 1, none⟩ = some (.string (⟨#[]⟩ : ByteArray)) := (blk_cell BK101.out 1).trans rfl; have hcz6_2 : w4.cell? ⟨gb101, 2, none⟩ = some (.bool false) := (blk_cell BK101.out 2).trans rfl; have hfz6_0 := blk_frozen BK101.out 0; have hfz6_1 := blk_frozen BK101.out 1; have hfz6_2 := blk_frozen BK101.out 2))
  refine bodyPost_ret (results_ct rfl _ _ gb101 35 #[.int .i64 0, .string (⟨#[]⟩ : ByteArray), .bool false] (0, 0) _ rfl (by (with_reducible repeat (first | apply bkN | apply bkD | apply bkA)); refine blk_put (cs := #[.int .i64 0, .string (⟨#[]⟩ : ByteArray), .bool false]) ?_ 2 _ rfl; (with_reducible repeat (first | apply bkN | apply bkD | apply bkA)); refine blk_put (cs := #[.int .i64 0, .string (⟨#[]⟩ : ByteArray), .bool false]) ?_ 1 _ rfl; (with_reducible repeat (first | apply bkN | apply bkD | apply bkA)); refine blk_put (cs := #[.int .i64 0, .string (⟨#[]⟩ : ByteArray), .bool false]) ?_ 0 _ rfl; (with_reducible repeat (first | apply bkN | apply bkD | apply bkA)); exact BK101.out) Try.underlying35 rfl (by kernel_rfl)) rfl ?_
  exact ⟨by first | rfl | (simp [errW_none, errW_some] <;> rfl) | (simp [*, errW_none, errW_some] <;> rfl), by repeat (first | (with_reducible first | exact HI0.out | apply IsS25.alloc | apply IsS25.drewN | apply IsS25.drew | apply IsS25.set_1 | refine IsS25.far ?_ NB0_101.out _) | exact HI0.out), by repeat (first | (with_reducible first | exact HB.out | apply bwA | apply bwN | apply bwD | refine below_set ?_ (IsS25.ge HI0.out) | refine below_set ?_ GE101.out) | exact HB.out), by repeat (first | (with_reducible first | exact HK.out | apply KeepBut.set_ | apply keep_drewN | apply keep_drew | apply keep_alloc | refine keep_far ?_ GW101.out _) | exact HK.out)⟩
 ·rw [if_neg c3] at H
  have c3b0 : decide (a1 < 0) = false := decide_eq_false c3
  clear c3
  by_cases c7 : a1 ≥ (s0_0.length : Int)
  ·rw [if_pos c7] at H
   have c7b0 : decide ((s0_0.length : Int) ≤ a1) = true := decide_eq_true c7
   clear c7
   simp only [Option.some.injEq, Prod.mk.injEq] at H
   obtain ⟨rfl, rfl, rfl, rfl, rfl⟩ := H
   go_enter Try.func15, Try.ntmps15
   go_wp2_with (first | ((with_reducible refine gate_dst (N := 4) rfl ?_); (try (refine gate_guard (by rfl) ?_; dsimp only)); refine box_event ?hg (N := 4) ?hd (cs := #[.int .i64 0, .string (⟨#[]⟩ : ByteArray), .bool false]) (t := 35) ?hr ?_; (case hd => rfl); (case hg => rfl); (case hr => first | (go_simp; done) | (go_simp; rfl)); intro gb101 hg w8 hbox hb; have n0_ := Aside0.mk (IsS25.below (by repeat (first | (with_reducible first | exact HI0.out | apply IsS25.alloc | apply IsS25.drewN | apply IsS25.drew | apply IsS25.set_1) | exact HI0.out)) hb); have n1_ := Aside0.mk (KeepBut.trans (by repeat (first | (with_reducible first | exact HK.out | apply KeepBut.set_ | apply keep_drewN | apply keep_drew | apply keep_alloc) | exact HK.out)) (KeepBut.of_below hb g none) (.inl rfl)); have n2_ := Aside0.mk (below_step (by repeat (first | (with_reducible first | exact HB.out | apply bwA | apply bwN | apply bwD | refine below_set ?_ (IsS25.ge HI0.out)) | exact HB.out)) hb); have n3_ := Aside0.mk (hbox); have n4_ := Aside0.mk ((by rw [hg]; exact (keep_size (w := w) (g := g) (row := none) (by repeat (first | (with_reducible first | exact HK.out | apply KeepBut.set_ | apply keep_drewN | apply keep_drew | apply keep_alloc) | exact HK.out))) : w.heap.size ≤ gb101)); have n5_ := Aside0.mk ((Nat.le_trans HW0.out (by rw [hg]; exact (keep_size (w := w) (g := g) (row := none) (by repeat (first | (with_reducible first | exact HK.out | apply KeepBut.set_ | apply keep_drewN | apply keep_drew | apply keep_alloc) | exact HK.out))) : w.heap.size ≤ gb101) : w0.heap.size ≤ gb101)); have n6_ := Aside0.mk ((by rw [hg]; exact Nat.ne_of_lt (IsS25.lt (show IsS25 w0 _ g s0_0 s0_1 from by repeat (first | (with_reducible first | exact HI0.out | apply IsS25.alloc | apply IsS25.drewN | apply IsS25.drew | apply IsS25.set_1) | exact HI0.out))) : g ≠ gb101)); have n7_ := Aside0.mk ((by rw [hg]; exact Nat.ne_of_gt (IsS25.lt (show IsS25 w0 _ g s0_0 s0_1 from by repeat (first | (with_reducible first | exact HI0.out | apply IsS25.alloc | apply IsS25.drewN | apply IsS25.drew | apply IsS25.set_1) | exact HI0.out))) : gb101 ≠ g)); clear HI0; clear HK; clear HB; have HI0 := n0_; have HK := n1_; have HB := n2_; have BK101 := n3_; have GW101 := n4_; have GE101 := n5_; have NB0_101 := n6_; have NB101_0 := n7_; clear n0_ n1_ n2_ n3_ n4_ n5_ n6_ n7_; clear hb hbox hg; obtain ⟨ASz9_0, cSz9_0, HGz9, hgz9, HSz9_0⟩ := HI0.out; have hcz9_0 := cellS25_0 HGz9; have hcz9_1 := cellS25_1 HGz9; have hfz9_1 := blk_frozen HGz9 1; clear HGz9 hgz9; have hnb10 := NB101_0.out; have hnc10 := NB0_101.out; have hcz11_0 : w8.cell? ⟨gb101, 0, none⟩ = some (.int .i64 0) := (blk_cell BK101.out 0).trans rfl; have hcz11_1 : w8.cell? ⟨gb101, 1, none⟩ = some (.string (⟨#[]⟩ : ByteArray)) := (blk_cell BK101.out 1).trans rfl; have hcz11_2 : w8.cell? ⟨gb101, 2, none⟩ = some (.bool false) := (blk_cell BK101.out 2).trans rfl; have hfz11_0 := blk_frozen BK101.out 0; have hfz11_1 := blk_frozen BK101.out 1; have hfz11_2 := blk_frozen BK101.out 2))
   refine bodyPost_ret (results_ct rfl _ _ gb101 35 #[.int .i64 0, .string (⟨#[]⟩ : ByteArray), .bool false] (0, 0) _ rfl (by (with_reducible repeat (first | apply bkN | apply bkD | apply bkA)); refine blk_put (cs := #[.int .i64 0, .string (⟨#[]⟩ : ByteArray), .bool false]) ?_ 2 _ rfl; (with_reducible repeat (first | apply bkN | apply bkD | apply bkA)); refine blk_put (cs := #[.int .i64 0, .string (⟨#[]⟩ : ByteArray), .bool false]) ?_ 1 _ rfl; (with_reducible repeat (first | apply bkN | apply bkD | apply bkA)); refine blk_put (cs := #[.int .i64 0, .string (⟨#[]⟩ : ByteArray), .bool false]) ?_ 0 _ rfl; (with_reducible repeat (first | apply bkN | apply bkD | apply bkA)); exact BK101.out) Try.underlying35 rfl (by kernel_rfl)) rfl ?_
   exact ⟨by first | rfl | (simp [errW_none, errW_some] <;> rfl) | (simp [*, errW_none, errW_some] <;> rfl), by repeat (first | (with_reducible first | exact HI0.out | apply IsS25.alloc | apply IsS25.drewN | apply IsS25.drew | apply IsS25.set_1 | refine IsS25.far ?_ NB0_101.out _) | exact HI0.out), by repeat (first | (with_reducible first | exact HB.out | apply bwA | apply bwN | apply bwD | refine below_set ?_ (IsS25.ge HI0.out) | refine below_set ?_ GE101.out) | exact HB.out), by repeat (first | (with_reducible first | exact HK.out | apply KeepBut.set_ | apply keep_drewN | apply keep_drew | apply keep_alloc | refine keep_far ?_ GW101.out _) | exact HK.out)⟩
  ·rw [if_neg c7] at H
   have c7b0 : decide ((s0_0.length : Int) ≤ a1) = false := decide_eq_false c7
   clear c7
   by_cases c12 : 0 ≤ a1
   ·rw [if_pos c12] at H
    have c12b0 : decide (0 ≤ a1) = true := decide_eq_true c12
    clear c12
    by_cases c13 : a1 < (s0_0.length : Int)
    ·rw [if_pos c13] at H
     have c13b0 : decide (a1 < (s0_0.length : Int)) = true := decide_eq_true c13
     clear c13
     simp only [Option.some.injEq, Prod.mk.injEq] at H
     obtain ⟨rfl, rfl, rfl, rfl, rfl⟩ := H
     go_enter Try.func15, Try.ntmps15
     go_wp2_with (first | ((with_reducible refine gate_dst (N := 4) rfl ?_); (try (refine gate_guard (by rfl) ?_; dsimp only)); refine box_event ?hg (N := 4) ?hd (cs := #[.int .i64 0, .string (⟨#[]⟩ : ByteArray), .bool false]) (t := 35) ?hr ?_; (case hd => rfl); (case hg => rfl); (case hr => first | (go_simp; done) | (go_simp; rfl)); intro gb101 hg w14 hbox hb; have n0_ := Aside0.mk (IsS25.below (by repeat (first | (with_reducible first | exact HI0.out | apply IsS25.alloc | apply IsS25.drewN | apply IsS25.drew | apply IsS25.set_1) | exact HI0.out)) hb); have n1_ := Aside0.mk (KeepBut.trans (by repeat (first | (with_reducible first | exact HK.out | apply KeepBut.set_ | apply keep_drewN | apply keep_drew | apply keep_alloc) | exact HK.out)) (KeepBut.of_below hb g none) (.inl rfl)); have n2_ := Aside0.mk (below_step (by repeat (first | (with_reducible first | exact HB.out | apply bwA | apply bwN | apply bwD | refine below_set ?_ (IsS25.ge HI0.out)) | exact HB.out)) hb); have n3_ := Aside0.mk (hbox); have n4_ := Aside0.mk ((by rw [hg]; exact (keep_size (w := w) (g := g) (row := none) (by repeat (first | (with_reducible first | exact HK.out | apply KeepBut.set_ | apply keep_drewN | apply keep_drew | apply keep_alloc) | exact HK.out))) : w.heap.size ≤ gb101)); have n5_ := Aside0.mk ((Nat.le_trans HW0.out (by rw [hg]; exact (keep_size (w := w) (g := g) (row := none) (by repeat (first | (with_reducible first | exact HK.out | apply KeepBut.set_ | apply keep_drewN | apply keep_drew | apply keep_alloc) | exact HK.out))) : w.heap.size ≤ gb101) : w0.heap.size ≤ gb101)); have n6_ := Aside0.mk ((by rw [hg]; exact Nat.ne_of_lt (IsS25.lt (show IsS25 w0 _ g s0_0 s0_1 from by repeat (first | (with_reducible first | exact HI0.out | apply IsS25.alloc | apply IsS25.drewN | apply IsS25.drew | apply IsS25.set_1) | exact HI0.out))) : g ≠ gb101)); have n7_ := Aside0.mk ((by rw [hg]; exact Nat.ne_of_gt (IsS25.lt (show IsS25 w0 _ g s0_0 s0_1 from by repeat (first | (with_reducible first | exact HI0.out | apply IsS25.alloc | apply IsS25.drewN | apply IsS25.drew | apply IsS25.set_1) | exact HI0.out))) : gb101 ≠ g)); clear HI0; clear HK; clear HB; have HI0 := n0_; have HK := n1_; have HB := n2_; have BK101 := n3_; have GW101 := n4_; have GE101 := n5_; have NB0_101 := n6_; have NB101_0 := n7_; clear n0_ n1_ n2_ n3_ n4_ n5_ n6_ n7_; clear hb hbox hg; obtain ⟨ASz15_0, cSz15_0, HGz15, hgz15, HSz15_0⟩ := HI0.out; have hcz15_0 := cellS25_0 HGz15; have hcz15_1 := cellS25_1 HGz15; have hfz15_1 := blk_frozen HGz15 1; clear HGz15 hgz15; have p102 : 0 ≤ (a1 : Int) := ofd_; have q102 : a1 < (s0_0.length : Int) := ofd_; obtain ⟨ad102, e102, hx102_0, hx102_1, hx102_2⟩ := at_T35 HSz15_0 a1 p102 q102; cases e102; replace hx102_0 := pw_cell_below HB.out hx102_0; replace hx102_1 := pw_cell_below HB.out hx102_1; replace hx102_2 := pw_cell_below HB.out hx102_2; replace p102 := eq_true p102; replace q102 := eq_true q102; have hnb16 := NB101_0.out; have hnc16 := NB0_101.out; have hcz17_0 : w14.cell? ⟨gb101, 0, none⟩ = some (.int .i64 0) := (blk_cell BK101.out 0).trans rfl; have hcz17_1 : w14.cell? ⟨gb101, 1, none⟩ = some (.string (⟨#[]⟩ : ByteArray)) := (blk_cell BK101.out 1).trans rfl; have hcz17_2 : w14.cell? ⟨gb101, 2, none⟩ = some (.bool false) := (blk_cell BK101.out 2).trans rfl; have hfz17_0 := blk_frozen BK101.out 0; have hfz17_1 := blk_frozen BK101.out 1; have hfz17_2 := blk_frozen BK101.out 2))
     refine bodyPost_ret (results_ct rfl _ _ gb101 35 #[.int .i64 ((rd_T35 s0_0 a1).f0), .string ((rd_T35 s0_0 a1).f1), .bool ((rd_T35 s0_0 a1).f2)] (0, 0) _ rfl (by (with_reducible repeat (first | apply bkN | apply bkD | apply bkA)); refine blk_put (cs := #[.int .i64 ((rd_T35 s0_0 a1).f0), .string ((rd_T35 s0_0 a1).f1), .bool false]) ?_ 2 _ rfl; (with_reducible repeat (first | apply bkN | apply bkD | apply bkA)); refine blk_put (cs := #[.int .i64 ((rd_T35 s0_0 a1).f0), .string (⟨#[]⟩ : ByteArray), .bool false]) ?_ 1 _ rfl; (with_reducible repeat (first | apply bkN | apply bkD | apply bkA)); refine blk_put (cs := #[.int .i64 0, .string (⟨#[]⟩ : ByteArray), .bool false]) ?_ 0 _ rfl; (with_reducible repeat (first | apply bkN | apply bkD | apply bkA)); exact BK101.out) Try.underlying35 rfl (by kernel_rfl)) rfl ?_
     exact ⟨by first | rfl | (simp [errW_none, errW_some] <;> rfl) | (simp [*, errW_none, errW_some] <;> rfl), by repeat (first | (with_reducible first | exact HI0.out | apply IsS25.alloc | apply IsS25.drewN | apply IsS25.drew | apply IsS25.set_1 | refine IsS25.far ?_ NB0_101.out _) | exact HI0.out), by repeat (first | (with_reducible first | exact HB.out | apply bwA | apply bwN | apply bwD | refine below_set ?_ (IsS25.ge HI0.out) | refine below_set ?_ GE101.out) | exact HB.out), by repeat (first | (with_reducible first | exact HK.out | apply KeepBut.set_ | apply keep_drewN | apply keep_drew | apply keep_alloc | refine keep_far ?_ GW101.out _) | exact HK.out)⟩
    ·rw [if_neg c13] at H
     exact absurd H (by simp)
   ·rw [if_neg c12] at H
    exact absurd H (by simp)

-- NOT PRINTED: function 19 (net_Parcel_19)

/-! ### net_Parcel_20: function 20 -/
def net_Parcel_20.f (l0 : List (S35)) : Option ((List (S35))) := (some (([] : List (S35)) : List (S35))).bind fun y103 => (if y103.length + l0.length < 4398046511104 then (some (y103 ++ l0)) else (none))
set_option maxHeartbeats 8000000 in
set_option maxRecDepth 100000 in
theorem net_Parcel_20.calls (A0 : Option Addr) (c0 : Nat) (l0 : List (S35)) (r : List (S35)) (w : World) (hr0 : Kd.C k35 w A0 l0.length l0) (hc0 : l0.length ≤ c0) (h : net_Parcel_20.f l0 = some r) :
  Calls Try.prog 20 #[.slice A0 l0.length c0] w fun e w' => ∃ v0_ : Value, e = .returned (v0_) ∧ Kd.R k35 35 w' w.heap.size (fun _ => True) v0_ r ∧ Below w.heap.size w w' := by
 rcases opt_cases A0 with rfl | ⟨ad0_, rfl⟩
 ·obtain rfl := nil_of_C hr0
  obtain rfl := Option.some.inj (show some ([] : List _) = some r by simpa [net_Parcel_20.f] using h)
  have hnil_ := fun w_ => eql_nil_nil (P := Try.prog) w_ 0 c0 Try.underlying23
  go_enter Try.func20, Try.ntmps20
  go_wp2
  go_ret
  exact ⟨_, rfl, Kd.R_nil _ _ _ _ _, Below.refl _ _⟩
 have hnil_ := fun w_ => eql_some_nil (P := Try.prog) w_ ad0_ l0.length c0 Try.underlying23
 have HR0 := Aside0.mk hr0
 have HC0 := Aside0.mk hc0
 clear hr0 hc0
 have HB := Aside0.mk (Below.refl w.heap.size w)
 have H : ((some (([] : List (S35)) : List (S35))).bind fun y103 => (if y103.length + l0.length < 4398046511104 then (some (y103 ++ l0)) else (none))) = some r := h
 clear h
 obtain ⟨y103, hy103⟩ : ∃ y_ : List (S35), y_ = (([] : List (S35))) := ⟨_, rfl⟩
 replace H : (if y103.length + l0.length < 4398046511104 then (some (y103 ++ l0)) else (none)) = some r := by first | (rw [hy103]; with_reducible exact H) | (have H2_ := (Option.bind_some _ _).symm.trans H; rw [hy103]; with_reducible exact H2_) | (have H2_ := (Option.bind_some _ _).symm.trans H; with_reducible exact H2_) | with_reducible exact H | (rw [hy103]; exact H) | exact H
 have Ny103 := Aside0.mk hy103
 clear hy103
 by_cases c2 : y103.length + l0.length < 4398046511104
 ·rw [if_pos c2] at H
  have LMc2 := Aside0.mk c2
  clear c2
  obtain ⟨y106, hy106⟩ : ∃ y_ : List (S35), y_ = (y103 ++ l0) := ⟨_, rfl⟩
  replace H : (some y106) = some r := by first | (rw [hy106]; with_reducible exact H) | (have H2_ := (Option.bind_some _ _).symm.trans H; rw [hy106]; with_reducible exact H2_) | (have H2_ := (Option.bind_some _ _).symm.trans H; with_reducible exact H2_) | with_reducible exact H | (rw [hy106]; exact H) | exact H
  have Ny106 := Aside0.mk hy106
  clear hy106
  obtain rfl := Option.some.inj H
  go_enter Try.func20, Try.ntmps20
  go_wp2_with (first | ((with_reducible refine gate_dst (N := 5) rfl ?_); refine Kd.R_lit k35 _ 35 ?hg (N := 5) ?hd (xs := ([] : List (S35))) (inner := []) (ok := fun _ => True) (okp := fun _ => True) ?hr ?hp (fun _ hk => hk) trivial (Below.refl _ _) (Nat.le_refl _) (by simp) ?_; (case hd => rfl); (case hg => rfl); (case hr => first | (go_simp; done) | (go_simp; rfl)); (case hp => exact (Reps.none _ _)); intro v104 w3 ho4 hb hg_ hnew_; clear hg_ hnew_; (first | rw [← Ny103.out] at ho4 | (simp only [Int.reduceToNat] at ho4; rw [← Ny103.out] at ho4)); have n0_ := Aside0.mk (Kd.R_lower ho4 (below_size (by repeat (first | (with_reducible first | exact HB.out | apply bwA | apply bwN | apply bwD) | exact HB.out)))); have n1_ := Aside0.mk (below_step (by repeat (first | (with_reducible first | exact HB.out | apply bwA | apply bwN | apply bwD) | exact HB.out)) hb); clear HB; have HO105 := n0_; have HB := n1_; clear n0_ n1_; clear hb ho4) | ((with_reducible refine gate_builtin (b := .append) (xs := #[.tmp 5, .tmp 6]) rfl ?_); at_builtin; refine Kd.R_append_rows k35 (w0 := w) w.heap.size rfl (.tmp 5) (.tmp 6) 23 35 (.agg #[(.int .i64 0), (.string ⟨#[]⟩), (.bool false)]) 32 rfl Try.underlying23 info35 rfl (by decide) (by omega) v104 y103 l0 _ _ _ (fun _ => True) (fun _ => False) rfl rfl ?aO ?aR (fun _ _ h => h) (fun _ h => h.elim) ?aF ?aB ?aS ?aL ?_; (case aR => repeat (first | exact (Kd.C_below HR0.out HB.out) | (with_reducible refine Kd.C_alloc ?_ _) | (with_reducible refine Kd.C_drewN ?_ _) | (with_reducible refine Kd.C_drew ?_))); (case aB => exact (by repeat (first | (with_reducible first | exact HB.out | apply bwA | apply bwN | apply bwD) | exact HB.out))); (case aF => exact (fun _ _ => trivial)); (case aO => exact (by (with_reducible repeat (first | apply rwA | apply rwN | apply rwD)); exact HO105.out)); (case aS => exact (below_size (by repeat (first | (with_reducible first | exact HB.out | apply bwA | apply bwN | apply bwD) | exact HB.out)))); (case aL => have := LMc2.out; omega); intro v107 w5 ho hb hg hat; rw [← Ny106.out] at ho; have n0_ := Aside0.mk (hb); have n1_ := Aside0.mk (ho); clear HB; clear HO105; have HB := n0_; have HO108 := n1_; clear n0_ n1_; clear ho hb hg hat))
  go_ret
  exact ⟨_, by first | rfl | (simp [errW_none, errW_some] <;> rfl) | (simp [*, errW_none, errW_some] <;> rfl), by (with_reducible repeat (first | apply rwA | apply rwN | apply rwD)); exact HO108.out, by repeat (first | (with_reducible first | exact HB.out | apply bwA | apply bwN | apply bwD) | exact HB.out)⟩
 ·rw [if_neg c2] at H
  exact absurd H (by simp)

-- NOT PRINTED: function 13 (net_Net_Take)

-- NOT PRINTED: function 18 (net_Net_Move)

-- NOT PRINTED: function 8 (tillerlaw16_awake)

/-! ### net_Net_Lost: function 11 -/
def net_Net_Lost.f (s0_0 : List (S35)) (s0_1 : Int) : Option (Int × Int) := some (s0_1, s0_1)
set_option maxHeartbeats 8000000 in
set_option maxRecDepth 100000 in
theorem net_Net_Lost.calls (g : Nat) (s0_0 : List (S35)) (s0_1 : Int) (r1 : Int) (r2 : Int) (w0 w : World) (hI : IsS25 w0 w g s0_0 s0_1) (hB : Below w0.heap.size w0 w) (h : net_Net_Lost.f s0_0 s0_1 = some (r1, r2)) :
  Calls Try.prog 11 #[.pointer (some ⟨g, 0, none⟩)] w fun e w' => e = .returned (.int .i64 r1) ∧ IsS25 w0 w' g s0_0 r2 ∧ Below w0.heap.size w0 w' ∧ KeepBut w w' g none := by
 have HI0 := Aside0.mk hI
 have HK := Aside0.mk (KeepBut.refl w g none)
 have HL := Aside0.mk hB.size
 clear hI
 have HW0 := Aside0.mk hB.size
 have HB := Aside0.mk hB
 clear hB
 have H : (some (s0_1, s0_1)) = some (r1, r2) := h
 clear h
 simp only [Option.some.injEq, Prod.mk.injEq] at H
 obtain ⟨rfl, rfl⟩ := H
 obtain ⟨ASz2_0, cSz2_0, HGz2, hgz2, HSz2_0⟩ := HI0.out
 have hcz2_0 := cellS25_0 HGz2
 have hcz2_1 := cellS25_1 HGz2
 have hfz2_1 := blk_frozen HGz2 1
 clear HGz2 hgz2
 go_enter Try.func11, Try.ntmps11
 go_wp2
 go_ret
 exact ⟨by first | rfl | (simp [errW_none, errW_some] <;> rfl) | (simp [*, errW_none, errW_some] <;> rfl), by repeat (first | (with_reducible first | exact HI0.out | apply IsS25.alloc | apply IsS25.drewN | apply IsS25.drew | apply IsS25.set_1) | exact HI0.out), by repeat (first | (with_reducible first | exact HB.out | apply bwA | apply bwN | apply bwD | refine below_set ?_ (IsS25.ge HI0.out)) | exact HB.out), by repeat (first | (with_reducible first | exact HK.out | apply KeepBut.set_ | apply keep_drewN | apply keep_drew | apply keep_alloc) | exact HK.out)⟩

/-! ### tillerlaw14_Cut: function 12 -/
def tillerlaw14_Cut.f (a0 : ByteArray) (a1 : Int) : Option (ByteArray) := if (a0.size : Int) > a1 then (if 0 ≤ a1 then (if a1 ≤ (a0.size : Int) then (some (a0.extract 0 (a1 : Int).toNat)) else (none)) else (none)) else (some a0)
set_option maxHeartbeats 8000000 in
set_option maxRecDepth 100000 in
theorem tillerlaw14_Cut.calls (a0 : ByteArray) (a1 : Int) (r : ByteArray) (w : World) (h : tillerlaw14_Cut.f a0 a1 = some r) :
  Calls Try.prog 12 #[.string a0, .int .i64 a1] w fun e w' => e = .returned (.string r) ∧ Drawn0 w w' := by
 have H : (if (a0.size : Int) > a1 then (if 0 ≤ a1 then (if a1 ≤ (a0.size : Int) then (some (a0.extract 0 (a1 : Int).toNat)) else (none)) else (none)) else (some a0)) = some r := h
 clear h
 by_cases c3 : (a0.size : Int) > a1
 ·rw [if_pos c3] at H
  have c3b0 : decide (a1 < (a0.size : Int)) = true := decide_eq_true c3
  clear c3
  by_cases c4 : 0 ≤ a1
  ·rw [if_pos c4] at H
   have c4b0 := eq_true c4
   have c4b1 : decide (0 ≤ a1) = true := decide_eq_true c4
   clear c4
   by_cases c5 : a1 ≤ (a0.size : Int)
   ·rw [if_pos c5] at H
    have c5b0 := eq_true c5
    have c5b1 : decide (a1 ≤ (a0.size : Int)) = true := decide_eq_true c5
    clear c5
    obtain rfl := Option.some.inj H
    go_enter Try.func12, Try.ntmps12
    go_wp2
    go_ret
    exact ⟨by first | rfl | (simp; done) | (simp [*]; done), by repeat (first | exact Drawn0.refl _ | apply Drawn0.step)⟩
   ·rw [if_neg c5] at H
    exact absurd H (by simp)
  ·rw [if_neg c4] at H
   exact absurd H (by simp)
 ·rw [if_neg c3] at H
  have c3b0 : decide (a1 < (a0.size : Int)) = false := decide_eq_false c3
  clear c3
  obtain rfl := Option.some.inj H
  go_enter Try.func12, Try.ntmps12
  go_wp2
  go_ret
  exact ⟨by first | rfl | (simp; done) | (simp [*]; done), by repeat (first | exact Drawn0.refl _ | apply Drawn0.step)⟩

-- NOT PRINTED: function 14 (net_Net_Turn)

-- NOT PRINTED: function 29 (net_Parcel_29)

-- NOT PRINTED: function 22 (net_Parcel_22)

-- NOT PRINTED: function 16 (net_Net_Cut)

end Go.Proofs.Ytmcdgachfkkpeaa.GQ
