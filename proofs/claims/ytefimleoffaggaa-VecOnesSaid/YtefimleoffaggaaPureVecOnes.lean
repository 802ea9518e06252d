/- VecOnes: the pure statement. -/
import Derived.Test.YtefimleoffaggaaGQx4
import Derived.Test.YtefimleoffaggaaURows3
import Derived.Test.YtefimleoffaggaaUAwake3
set_option linter.unusedVariables false
namespace Go.Proofs.Ytefimleoffaggaa.Pure
open Go.RowKit Go.Proofs.YtefimleoffaggaaW.PrintWords Go.Proofs.YtefimleoffaggaaW.PrintLast Go.Proofs.YtefimleoffaggaaW.PrintMore Go.Proofs.Ytefimleoffaggaa.GQ Go.Proofs.Ytefimleoffaggaa.U
theorem ones_loop {a b : List Int} (ha : I32 a) (hb : I32 b) (hl : a.length = b.length) (hn : a.length ≤ 300) : ∀ (d i k : Nat), a.length - i = d → i ≤ a.length → d + 5001 ≤ k →
    tillerlaw03_VecOnes.l0 k (scalev a 65536) (addv a (List.replicate a.length 0)) (addv a b) (addv b a) a (a.length : Int) (i : Int) = some true := by
  intro d
  induction d with
  | zero =>
    intro i k hd hi hk
    obtain ⟨k, rfl⟩ := succ_of_lt (show 0 < k by omega)
    simp only [tillerlaw03_VecOnes.l0]
    rw [if_neg (by omega), awake3 (by omega)]; rfl
  | succ d ih =>
    intro i k hd hi hk
    obtain ⟨k, rfl⟩ := succ_of_lt (show 0 < k by omega)
    have hia : i < a.length := by omega
    have r1 := ha.rd hia
    have hz : a.length = (List.replicate a.length (0 : Int)).length := by simp
    have e0 : rd (List.replicate a.length (0 : Int)) (i : Int) = 0 := by rw [rd_nat (by simpa using hia)]; simp
    simp only [tillerlaw03_VecOnes.l0]
    rw [if_pos (by omega), if_pos (by omega), if_pos (by omega), if_pos (by rw [scalev_len]; omega), scalev_rd _ hia, mulv_one, sat_mx r1.1 r1.2, if_pos rfl, if_pos (by rw [addv_len hz]; omega), addv_rd hz hia, e0, Int.add_zero, if_pos rfl,
      if_pos (by rw [addv_len hl]; omega), if_pos (by rw [addv_len hl.symm]; omega), if_pos (by rw [addv_comm]), w64 (x := (i : Int) + 1) (by omega) (by omega)]
    have := ih (i + 1) k (by omega) (by omega) (by omega)
    rw [Int.natCast_add, Int.natCast_one] at this
    exact this
theorem VecOnes : ∀ (l0 : List Int) (l1 : List Int), (l0.length * 4 ≤ 140737488351232 ∧ l0.length ≤ maxLen ∧ ∀ x0 ∈ l0, (Lit.int .i32 x0).wf = true) → (l1.length * 4 ≤ 140737488351232 ∧ l1.length ≤ maxLen ∧ ∀ x0 ∈ l1, (Lit.int .i32 x0).wf = true) → ∃ k, tillerlaw03_VecOnes.f k l0 l1 = some true := by
  intro l0 l1 h0 h1
  have i0 := I32.wf h0.2.2
  have i1 := I32.wf h1.2.2
  have j0 := i0.take 300
  have j1 := i1.take 300
  refine ⟨10000, ?_⟩
  unfold tillerlaw03_VecOnes.f
  rw [Few_eq (by omega) (by omega), Option.bind_some, Few_eq (by omega) (by omega), Option.bind_some, show (300 : Int).toNat = 300 from rfl]
  have n0 : (l0.take 300).length ≤ 300 := by rw [List.length_take]; omega
  have n1 : (l1.take 300).length ≤ 300 := by rw [List.length_take]; omega
  generalize l0.take 300 = a at *
  generalize l1.take 300 = b at *
  by_cases hl : a.length = b.length
  · have hz : a.length = (List.replicate a.length (0 : Int)).length := by simp
    have iz : I32 (List.replicate a.length (0 : Int)) := fun x hx => by rw [List.eq_of_mem_replicate hx]; omega
    rw [if_pos (by omega), Scale_eq j0 (by omega) (by omega) (by omega) (by omega), Option.bind_some, if_pos (by omega), if_pos (by omega), Int.toNat_natCast, Addv_eq j0 iz (by omega), Option.bind_some, Addv_eq j0 j1 (by omega), Option.bind_some, Addv_eq j1 j0 (by omega), Option.bind_some,
      if_pos (fitv_ok hz (by omega)), if_pos (fitv_ok hl (by omega)), if_pos (fitv_ok hl.symm (by omega)), if_pos rfl, if_pos rfl, if_pos rfl, if_pos (by rw [scalev_len]), if_pos (by rw [addv_len hz]), if_pos (by rw [addv_len hl])]
    obtain ⟨k, hk⟩ : ∃ k, 10000 = k + 1 := ⟨9999, rfl⟩
    rw [hk]
    simp only [tillerlaw03_VecOnes.j0]
    rw [if_neg (by rw [addv_len hl.symm, hl]; simp)]
    have := ones_loop j0 j1 hl n0 a.length 0 k (by omega) (by omega) (by omega)
    rw [Int.natCast_zero] at this
    exact this
  · rw [if_neg (by omega), Addv_eq j0 j1 (by omega), Option.bind_some, awake3 (by omega), Option.bind_some, if_pos rfl]
    have hf : fitv a b = 6 := by unfold fitv; rw [if_neg (by omega), if_neg hl]
    rw [hf]; rfl
end Go.Proofs.Ytefimleoffaggaa.Pure
