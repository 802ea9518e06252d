/- SendEnds: the pure statement. -/
import Derived.Test.YtfonfdpimbnfaaaGQx10
import Derived.Test.YtfonfdpimbnfaaaULeft
set_option linter.unusedVariables false
namespace Go.Proofs.Ytfonfdpimbnfaaa.Pure
open Go.RowKit Go.Proofs.YtfonfdpimbnfaaaW.PrintWords Go.Proofs.YtfonfdpimbnfaaaW.PrintLast Go.Proofs.YtfonfdpimbnfaaaW.PrintMore Go.Proofs.Ytfonfdpimbnfaaa.GQ Go.Proofs.Ytfonfdpimbnfaaa.U Go.Proofs.Ytfonfdpimbnfaaa.GGot Go.Proofs.Ytfonfdpimbnfaaa.GJoin
theorem ends_j1 {k n i : Nat} {pick : Int} {P : List ByteArray} {came : List Bool} {L : List S46} {r : Bool} (hP : P.length ≤ 100000) (hn : came.length = P.length) (hi : (i : Int) + 1 ≤ 100000) (hL : 0 < L.length) (hl : L.length ≤ 100000) (hp : ∀ x ∈ L, ∃ j : Nat, x.f1 = (j : Int) ∧ j ∈ lft came P.length)
    (h : ∀ j : Nat, j ∈ lft came P.length → tillerlaw20_SendEnds.l0 k pick n ((i : Int) + 1) 1 P (came.set j true) = some r) : tillerlaw20_SendEnds.j1 (k + 1) pick n i L false 1 P came = some r := by
  have hm : ∀ z : Int, 0 ≤ z → z < (L.length : Int) → ∃ j : Nat, (rd_T46 L z).f1 = (j : Int) ∧ j ∈ lft came P.length := by
    intro z h0 h1
    have hz : rd_T46 L z = L[z.toNat]'(by omega) := by
      unfold rd_T46
      rw [List.getD_eq_getElem?_getD, List.getElem?_eq_getElem (by omega)]
      rfl
    rw [hz]
    exact hp _ (List.getElem_mem _)
  have hb : -(L.length : Int) < Int.tmod pick (L.length : Int) ∧ Int.tmod pick (L.length : Int) < (L.length : Int) := by
    have h1 := Int.tmod_lt_of_pos pick (show (0 : Int) < (L.length : Int) by omega)
    have h2 := Int.tmod_lt_of_pos (-pick) (show (0 : Int) < (L.length : Int) by omega)
    rw [Int.neg_tmod] at h2
    omega
  simp only [tillerlaw20_SendEnds.j1, Bool.false_eq_true, if_false]
  rw [if_neg (by omega)]
  generalize Int.tmod pick (L.length : Int) = z at hb
  by_cases hz : z < 0
  · obtain ⟨j, e, hj⟩ := hm (z + (L.length : Int)) (by omega) (by omega)
    have hj2 := (lft_mem hj).1
    rw [if_pos hz, w64 (x := z + (L.length : Int)) (by omega) (by omega), if_pos (by omega), if_pos (by omega), e, Got_eq came hP (by omega) (by omega), Option.bind_some]
    simp only [if_true]
    rw [norm_id hn, Int.toNat_natCast, w64 (x := (i : Int) + 1) (by omega) (by omega)]
    exact h j hj
  · obtain ⟨j, e, hj⟩ := hm z (by omega) (by omega)
    have hj2 := (lft_mem hj).1
    rw [if_neg hz, if_pos (by omega), if_pos (by omega), e, Got_eq came hP (by omega) (by omega), Option.bind_some]
    simp only [if_true]
    rw [norm_id hn, Int.toNat_natCast, w64 (x := (i : Int) + 1) (by omega) (by omega)]
    exact h j hj
theorem ends_loop (pick : Int) {P : List ByteArray} (hP : P.length ≤ 1000) : ∀ (d i k : Nat) (came : List Bool), came.length = P.length → (lft came P.length).length = d → P.length - i = d → i ≤ P.length → 3 * d + 2000 ≤ k →
    tillerlaw20_SendEnds.l0 k pick (P.length : Int) (i : Int) 1 P came = some true := by
  intro d
  induction d with
  | zero =>
    intro i k came hc hl hd hi hk
    obtain ⟨k, rfl⟩ := succ_of_lt (show 0 < k by omega)
    have e : lft came P.length = [] := List.eq_nil_of_length_eq_zero hl
    simp only [tillerlaw20_SendEnds.l0]
    rw [if_neg (by omega), awake20 (by omega), Option.bind_some, if_pos rfl, Over_eq 1 came (by omega) (by omega), Option.bind_some, e, Next_eq 1 came 3 (by omega) (by omega), e]
    rfl
  | succ d ih =>
    intro i k came hc hl hd hi hk
    obtain ⟨k, rfl⟩ := succ_of_lt (show 0 < k by omega)
    obtain ⟨k, rfl⟩ := succ_of_lt (show 0 < k by omega)
    simp only [tillerlaw20_SendEnds.l0]
    rw [if_pos (by omega), Next_eq 1 came 3 (by omega) (by omega), Option.bind_some, Over_eq 1 came (by omega) (by omega), Option.bind_some, hl, show (((d + 1 : Nat) : Int) == 0) = false from beq_eq_false_iff_ne.2 (by omega), if_neg (by decide)]
    have hlen : (((lft came P.length).take (3 : Int).toNat).map (prt 1 P)).length = min 3 (d + 1) := by
      rw [List.length_map, List.length_take, hl]
      rfl
    rw [if_neg (by omega), Left_eq 1 came (by omega) (by omega), Option.bind_some, ints_len, hl, w64 (x := (P.length : Int) - (i : Int)) (by omega) (by omega), show (((d + 1 : Nat) : Int) != (P.length : Int) - (i : Int)) = false from bne_eq_false_iff_eq.2 (by omega)]
    refine ends_j1 (by omega) hc (by omega) (by omega) (by omega) ?_ ?_
    · intro x hx
      obtain ⟨j, hj, rfl⟩ := List.mem_map.1 hx
      exact ⟨j, rfl, List.mem_of_mem_take hj⟩
    · intro j hj
      obtain ⟨hj1, hj2⟩ := lft_mem hj
      have hs := lft_set (show j < came.length by omega) hj2 P.length
      rw [if_pos hj1] at hs
      have := ih (i + 1) k (came.set j true) (by rw [List.length_set]; exact hc) (by omega) (by omega) (by omega) (by omega)
      rw [Int.natCast_add, Int.natCast_one] at this
      exact this
theorem SendEnds : ∀ (a0 : ByteArray) (a1 : Int) (a2 : Int), a0.size ≤ 140737488351232 → (Lit.int .i64 a1).wf = true → (Lit.int .i64 a2).wf = true → ∃ k, tillerlaw20_SendEnds.f k a0 a1 a2 = some true := by
  intro t0 a pick h0 ha hp
  refine ⟨10000, ?_⟩
  unfold tillerlaw20_SendEnds.f
  have hc := Cut14_eq t0 300
  have hs := Cut14_size t0 300
  rw [show ((300 : Nat) : Int) = 300 from rfl] at hc
  rw [hc, Option.bind_some]
  generalize (if t0.size ≤ 300 then t0 else t0.extract 0 300) = t at hs
  by_cases h : a < 1 ∨ a > 4096 ∨ (t.size : Int) > 512 * a
  · obtain ⟨e, he, hne, _⟩ := Begin_bad (k := 10000) (by omega) 1 t h
    rw [he, Option.bind_some, if_neg hne, awake20 (by omega)]; rfl
  · obtain ⟨m, rfl⟩ := Int.eq_ofNat_of_zero_le (show 0 ≤ a by omega)
    obtain ⟨f1, f2, f3, f4, f5⟩ := cnt_facts (N := t.size) (m := m) (by omega)
    rw [Begin_eq 1 (by omega) (by omega) (by omega) (by omega) (by omega), Option.bind_some, if_pos rfl]
    refine ends_loop pick (by rw [parts_len]; omega) (cnt t.size m) 0 10000 _ (by rw [List.length_replicate, parts_len]) (by rw [parts_len]; exact lft_all _ _) (by rw [parts_len]; omega) (by omega) (by omega)
end Go.Proofs.Ytfonfdpimbnfaaa.Pure
