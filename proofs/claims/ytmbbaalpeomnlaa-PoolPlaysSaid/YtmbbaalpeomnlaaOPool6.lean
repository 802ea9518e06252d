/- pool.New, walked by hand. -/
import Derived.Test.YtmbbaalpeomnlaaOPool5
set_option linter.unusedVariables false
set_option linter.unusedSimpArgs false
namespace Go.Proofs.Ytmbbaalpeomnlaa.OPool
open Go.RowKit Go.Proofs.YtmbbaalpeomnlaaW.PrintWords Go.Proofs.YtmbbaalpeomnlaaW.PrintLast Go.Proofs.YtmbbaalpeomnlaaW.PrintMore Go.Proofs.Ytmbbaalpeomnlaa.GQ Go.Proofs.Ytmbbaalpeomnlaa.ODel
def fresh (n : Nat) : PX := ⟨List.replicate n z55, []⟩
set_option maxHeartbeats 2000000 in
theorem new_low (n : Int) (w : World) (h : n < 1) : Calls Try.prog 9 #[.int .i64 n] w fun e w' => e = .returned (.tuple #[.pointer none, .int .i64 1]) ∧ w = w' := by
  have d1 : decide (n < 1) = true := decide_eq_true h
  go_enter Try.func9, Try.ntmps9
  go_wp2
  go_ret2
  exact ⟨rfl, rfl⟩
set_option maxHeartbeats 2000000 in
theorem new_high (n : Int) (w : World) (h : n > 64) : Calls Try.prog 9 #[.int .i64 n] w fun e w' => e = .returned (.tuple #[.pointer none, .int .i64 2]) ∧ w = w' := by
  have d1 : decide (n < 1) = false := decide_eq_false (by omega)
  have d2 : decide (n > 64) = true := decide_eq_true h
  go_enter Try.func9, Try.ntmps9
  go_wp2
  go_ret2
  exact ⟨rfl, rfl⟩
theorem made_cells (n : Nat) : (madeCells (Value.cells (.agg #[.int .i64 0, .bool false, .int .i64 0])) (n * 3)).toList = (pblock (List.replicate n z55)).toList := by
  have hv : Value.cells (.agg #[.int .i64 0, .bool false, .int .i64 0]) = #[.int .i64 0, .bool false, .int .i64 0] := by rfl
  rw [hv]
  apply List.ext_getElem?
  intro j
  rw [Array.getElem?_toList, Array.getElem?_toList]
  by_cases hj : j < n * 3
  · have h := pblock_at (List.replicate n z55) (j / 3) (j % 3) (by rw [List.length_replicate]; omega) (by omega)
    rw [show j / 3 * 3 + j % 3 = j by omega] at h
    rw [h]
    unfold madeCells
    rw [Array.getElem?_map, Array.getElem?_range, if_pos hj, Option.map_some]
    have e : (List.replicate n z55).getD (j / 3) z55 = z55 := by
      rw [List.getD_eq_getElem?_getD, List.getElem?_replicate, if_pos (by omega)]
      rfl
    rw [e]
    have h3 : j % 3 = 0 ∨ j % 3 = 1 ∨ j % 3 = 2 := by omega
    show some ((#[Value.int .i64 0, .bool false, .int .i64 0])[j % 3]!) = _
    rcases h3 with h3 | h3 | h3 <;> rw [h3] <;> rfl
  · rw [Array.getElem?_eq_none (by rw [size_madeCells]; omega), Array.getElem?_eq_none]
    unfold pblock
    have : ∀ m : Nat, ((List.replicate m z55).flatMap pcells).length = m * 3 := by
      intro m
      induction m with
      | zero => rfl
      | succ m ih => rw [List.replicate_succ, List.flatMap_cons, List.length_append, ih]; show 3 + m * 3 = _; omega
    rw [List.size_toArray, this]
    omega
theorem infoP : (Try.prog.info? 55).map (fun i => (i.zero, i.size, i.bytes)) = some (some (.agg #[(.int .i64 0), (.bool false), (.int .i64 0)]), 3, 24) := by kernel_rfl
set_option maxHeartbeats 2000000 in
theorem new_ok (n : Nat) (w : World) (h0 : 1 ≤ n) (h1 : n ≤ 64) : Calls Try.prog 9 #[.int .i64 (n : Int)] w fun e w' => ∃ g, e = .returned (.tuple #[.pointer (some ⟨g, 0, none⟩), .int .i64 0]) ∧ PoolAt w.heap.size (fun k => w.heap.size ≤ k) w' g (fresh n) ∧ Below w.heap.size w w' := by
  have d1 : decide ((n : Int) < 1) = false := decide_eq_false (by omega)
  have d2 : decide ((n : Int) > 64) = false := decide_eq_false (by omega)
  obtain ⟨i0, hi, hzz⟩ := Option.map_eq_some_iff.1 infoP
  simp only [Prod.mk.injEq] at hzz
  obtain ⟨hz0, hz1, hz2⟩ := hzz
  have I1 := Aside0.mk hi
  have I2 := Aside0.mk hz0
  have I3 := Aside0.mk hz1
  have I4 := Aside0.mk hz2
  clear hi hz0 hz1 hz2
  go_enter Try.func9, Try.ntmps9
  go_wp2_with (at_make; go_loud (refine wpList_make_full w rfl (.tmp 8) (.tmp 8) 50 rfl w.heap.size 55 i0 (.agg #[(.int .i64 0), (.bool false), (.int .i64 0)]) 3 Try.underlying50 I1.out I2.out I3.out .i64 .i64 (n : Int) (n : Int) n rfl rfl rfl rfl (by rw [I4.out]; omega) (by unfold maxLen; omega) (Nat.le_refl _) ?_; intro w1 hO hG; have HO := Aside0.mk hO; have HG := Aside0.mk hG; clear hO hG))
  go_ret2
  have hb1 : Below w.heap.size w w1 := (Below.refl _ _).grown HG.out (Nat.le_refl _) (fun k hk => by cases hk)
  rcases HO.out.2 with ⟨e0, _⟩ | ⟨g', cap, cur, e0, hg, hh, hn, hm, hs, ht⟩
  · cases e0
  · injection e0 with e1 _ e3
    injection e1 with e1
    injection e1 with e1
    subst e1 e3
    have hcur : cur = pblock (List.replicate n z55) := by
      apply Array.toList_inj.mp
      rw [← made_cells n, ← ht, List.take_of_length_le (by rw [Array.length_toList]; omega)]
    rw [hcur] at hh
    refine ⟨w1.heap.size, rfl, ⟨w.heap.size, none, 0, ⟨?_, blk_alloc hh _⟩, hb1.size, hb1.size, Nat.le_refl _, Nat.le_refl _, Kd.Q_nil _ _ _ _ _, by show (List.replicate n z55).length ≤ 64; rw [List.length_replicate]; exact h1, Nat.zero_le _⟩, hb1.alloc hb1.size _⟩
    show (w1.alloc _).heap[w1.heap.size]? = some (.cells #[.slice (some ⟨w.heap.size, 0, none⟩) (List.replicate n z55).length (List.replicate n z55).length, .slice none 0 0] 52 (0, 0))
    rw [List.length_replicate]
    exact heap_alloc_new w1 _
end Go.Proofs.Ytmbbaalpeomnlaa.OPool
