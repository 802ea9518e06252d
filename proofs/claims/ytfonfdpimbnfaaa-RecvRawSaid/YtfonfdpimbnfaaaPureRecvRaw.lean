/- RecvRaw: the pure statement. -/
import Derived.Test.YtfonfdpimbnfaaaGQx16
import Derived.Test.YtfonfdpimbnfaaaGQx18
import Derived.Test.YtfonfdpimbnfaaaUMath
set_option linter.unusedVariables false
namespace Go.Proofs.Ytfonfdpimbnfaaa.Pure
open Go.RowKit Go.Proofs.YtfonfdpimbnfaaaW.PrintWords Go.Proofs.YtfonfdpimbnfaaaW.PrintLast Go.Proofs.YtfonfdpimbnfaaaW.PrintMore Go.Proofs.Ytfonfdpimbnfaaa.GQ Go.Proofs.Ytfonfdpimbnfaaa.U Go.Proofs.Ytfonfdpimbnfaaa.GGot Go.Proofs.Ytfonfdpimbnfaaa.GJoin
theorem awake21 {k : Nat} (hk : 60 ≤ k) : tillerlaw21_awake.f k = some true := by
  have h : tillerlaw21_awake.f 30 = some true := by decide +kernel
  exact at_rounds (g := fun k => tillerlaw21_awake.f k) (tillerlaw21_awake.mono) (show 30 ≤ k by omega) h
theorem missing_loop (num : Int) (P : List ByteArray) (came : List Bool) (n : Nat) (hn : n ≤ 140737488355328) : ∀ (d i k : Nat) (x : Int), n - i = d → i ≤ n → d + 1 ≤ k → (d : Int) ≤ x → x ≤ n → ∃ t, recv_Missing.l0 k x (n : Int) (i : Int) num P came = some t ∧ x - d ≤ t ∧ t ≤ x := by
  intro d
  induction d with
  | zero =>
    intro i k x hd hi hk h0 h1
    obtain ⟨k, rfl⟩ := succ_of_lt (show 0 < k by omega)
    refine ⟨x, ?_, by omega, by omega⟩
    simp only [recv_Missing.l0]
    rw [if_neg (by omega)]
  | succ d ih =>
    intro i k x hd hi hk h0 h1
    obtain ⟨k, rfl⟩ := succ_of_lt (show 0 < k by omega)
    simp only [recv_Missing.l0]
    rw [if_pos (by omega), w64 (x := (i : Int) + 1) (by omega) (by omega), w64 (x := x - 1) (by omega) (by omega), if_pos (show 0 ≤ (i : Int) by omega)]
    obtain ⟨t1, e1, a1, b1⟩ := ih (i + 1) k x (by omega) (by omega) (by omega) (by omega) h1
    obtain ⟨t2, e2, a2, b2⟩ := ih (i + 1) k (x - 1) (by omega) (by omega) (by omega) (by omega) (by omega)
    rw [Int.natCast_add, Int.natCast_one] at e1 e2
    by_cases c1 : (i : Int) < (came.length : Int)
    · rw [if_pos c1]
      by_cases c2 : rdOf false came (i : Int) = true
      · rw [if_pos c2]
        exact ⟨t2, e2, by omega, by omega⟩
      · rw [if_neg c2]
        exact ⟨t1, e1, by omega, by omega⟩
    · rw [if_neg c1]
      exact ⟨t1, e1, by omega, by omega⟩
theorem RecvRaw : ∀ (a0_0 : Int) (l0_1 : List ByteArray) (l0_2 : List Bool) (a1_0 : Int) (a1_1 : Int) (a1_2 : Int) (a1_3 : ByteArray), (Lit.int .i64 a0_0).wf = true → (l0_1.length * 16 ≤ 140737488351232 ∧ l0_1.length ≤ maxLen ∧ ∀ x0 ∈ l0_1, x0.size ≤ 140737488351232) → (l0_2.length * 1 ≤ 140737488351232 ∧ l0_2.length ≤ maxLen ∧ ∀ x0 ∈ l0_2, True) → (Lit.int .i64 a1_0).wf = true → (Lit.int .i64 a1_1).wf = true → (Lit.int .i64 a1_2).wf = true → a1_3.size ≤ 140737488351232 → ∃ k, tillerlaw21_RecvRaw.f k a0_0 l0_1 l0_2 a1_0 a1_1 a1_2 a1_3 = some true := by
  intro num P came p0 p1 p2 p3 _ hP _ _ _ _ _
  have hP := hP.1
  obtain ⟨k, hk⟩ : ∃ k, k = P.length + 100 := ⟨_, rfl⟩
  refine ⟨k + 1, ?_⟩
  unfold tillerlaw21_RecvRaw.f
  have key : ∀ b, (b = true ∨ (recv_right.f num P came = some false)) → tillerlaw21_RecvRaw.j0 (k + 1) b num P came p0 p1 p2 p3 = some true := by
    intro b hb
    simp only [tillerlaw21_RecvRaw.j0]
    by_cases h : b = true
    · rw [if_pos h, awake21 (by omega)]; rfl
    · have hr := hb.resolve_left h
      have e1 : recv_Take.f k num P came p0 p1 p2 p3 = some (num, P, came, false, 4) := by
        unfold recv_Take.f
        rw [hr, Option.bind_some, if_neg (by decide)]
      have e2 : recv_Whole.f k num P came = some (⟨#[]⟩, false) := by
        unfold recv_Whole.f
        rw [hr, Option.bind_some, if_neg (by decide)]
      obtain ⟨t, e3, h3, h4⟩ := missing_loop num P came P.length (by omega) P.length 0 k (P.length : Int) (by omega) (by omega) (by omega) (by omega) (by omega)
      have e3 : recv_Missing.f k num P came = some t := e3
      rw [if_neg h, e1, Option.bind_some, e2, Option.bind_some, awake21 (by omega), Option.bind_some, if_pos rfl]
      simp only [e3, Option.bind_some, Bool.false_eq_true, if_false, if_true]
      rw [if_pos (by rw [ByteArray.toList_eq]), if_pos (by omega), decide_eq_true (by omega)]
  by_cases c : (P.length : Int) > 0
  · rw [if_pos c]
    refine key _ ?_
    by_cases c2 : (P.length : Int) = (came.length : Int)
    · exact .inl (beq_iff_eq.2 c2)
    · refine .inr ?_
      unfold recv_right.f
      rw [if_pos c, beq_eq_false_iff_ne.2 c2]
  · rw [if_neg c]
    refine key _ (.inr ?_)
    unfold recv_right.f
    rw [if_neg c]
end Go.Proofs.Ytfonfdpimbnfaaa.Pure
