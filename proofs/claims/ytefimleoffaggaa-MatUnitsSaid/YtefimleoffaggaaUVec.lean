/- What the functions of layer 3 answer, as plain numbers and lists. -/
import Derived.Test.YtefimleoffaggaaGQx1
import Derived.Test.YtefimleoffaggaaGQx2
import Derived.Test.YtefimleoffaggaaUFix
set_option linter.unusedVariables false
namespace Go.Proofs.Ytefimleoffaggaa.U
open Go.RowKit Go.Proofs.YtefimleoffaggaaW.PrintWords Go.Proofs.YtefimleoffaggaaW.PrintMore Go.Proofs.Ytefimleoffaggaa.GQ
theorem Grow_eq {k : Nat} {s x : Int} (hk : 1 ≤ k) (s1 : -9223372036854775807 ≤ s) (s2 : s ≤ 9223372036854775807) (x1 : -9223372036854775807 ≤ x) (x2 : x ≤ 9223372036854775807) : vec_Grow.f k s x = some (cl (s + x)) := by
  obtain ⟨k, rfl⟩ := succ_of_lt hk
  unfold vec_Grow.f cl
  by_cases h : x > 0
  · rw [if_pos h, w64 (x := 9223372036854775807 - x) (by omega) (by omega)]
    by_cases h2 : s > 9223372036854775807 - x
    · simp only [vec_Grow.j0, decide_eq_true h2, if_true]
      rw [if_pos (by omega)]
    · simp only [vec_Grow.j0, decide_eq_false h2, Bool.false_eq_true, if_false]
      rw [if_neg (by omega), w64 (by omega) (by omega), if_neg (by omega), if_neg (by omega)]
      unfold mx; rw [if_neg (by omega)]
  · rw [if_neg h]
    simp only [vec_Grow.j0, Bool.false_eq_true, if_false]
    by_cases h3 : x < 0
    · rw [if_pos h3, w64 (x := -9223372036854775807 - x) (by omega) (by omega)]
      by_cases h4 : s < -9223372036854775807 - x
      · rw [if_pos h4, if_neg (by omega), if_pos (by omega)]
      · rw [if_neg h4, w64 (by omega) (by omega), if_neg (by omega), if_neg (by omega)]
        unfold mx; rw [if_neg (by omega)]
    · rw [if_neg h3, w64 (by omega) (by omega), if_neg (by omega), if_neg (by omega)]
      unfold mx; rw [if_neg (by omega)]
/-- The error of two rows that go together. -/
def fitv (a b : List Int) : Int := if a.length > 4096 ∨ b.length > 4096 then 2 else if a.length = b.length then 0 else 6
theorem fit_eq {k : Nat} (a b : List Int) (hk : 1 ≤ k) : vec_fit.f k a b = some (fitv a b) := by
  obtain ⟨k, rfl⟩ := succ_of_lt hk
  unfold vec_fit.f fitv
  by_cases h : (a.length : Int) > 4096
  · rw [if_pos h, if_pos (by omega)]; simp [vec_fit.j0]
  · rw [if_neg h]
    by_cases h2 : (b.length : Int) > 4096
    · rw [if_pos (by omega)]; simp [vec_fit.j0, h2]
    · rw [if_neg (by omega)]
      simp only [vec_fit.j0, decide_eq_false h2, Bool.false_eq_true, if_false]
      by_cases h3 : a.length = b.length
      · rw [if_pos (by omega), if_pos h3]
      · rw [if_neg (by omega), if_neg h3]
theorem Dot_loop {a b : List Int} (ha : I32 a) (hb : I32 b) (hl : a.length ≤ b.length) (hn : a.length ≤ 1000000) : ∀ (d i k : Nat) (s : Int), a.length - i = d → i ≤ a.length → d + 2 ≤ k → -9223372036854775807 ≤ s → s ≤ 9223372036854775807 →
    vec_Dot.l0 k b s a (a.length : Int) (i : Int) = some (sat (rnd (dots (a.drop i) (b.drop i) s) 65536), 0) := by
  intro d
  induction d with
  | zero =>
    intro i k s hd hi hk s1 s2
    obtain ⟨k, rfl⟩ := succ_of_lt (show 0 < k by omega)
    have : i = a.length := by omega
    subst this
    simp only [vec_Dot.l0]
    rw [if_neg (by omega), Round_eq (by omega) (by omega) (by omega) (by omega) (by omega), List.drop_length]
    simp only [Option.bind_some, Sat_eq, dots]
  | succ d ih =>
    intro i k s hd hi hk s1 s2
    obtain ⟨k, rfl⟩ := succ_of_lt (show 0 < k by omega)
    have hia : i < a.length := by omega
    have hib : i < b.length := by omega
    have r1 := ha.rd hia
    have r2 := hb.rd hib
    have hm := mul32 r1.1 (by omega) r2.1 (by omega)
    simp only [vec_Dot.l0]
    rw [if_pos (by omega), if_pos (by omega), if_pos (by omega), if_pos (by omega), w64 (x := rd a i) (by omega) (by omega), w64 (x := rd b i) (by omega) (by omega), w64 (x := rd a i * rd b i) (by omega) (by omega),
      Grow_eq (by omega) s1 s2 (by omega) (by omega), Option.bind_some, w64 (x := (i : Int) + 1) (by omega) (by omega)]
    have hc := cl_bound (s + rd a i * rd b i)
    have := ih (i + 1) k (cl (s + rd a i * rd b i)) (by omega) (by omega) (by omega) hc.1 hc.2
    rw [Int.natCast_add, Int.natCast_one] at this
    rw [this, drop_rd hia, drop_rd hib, dots]
theorem fitv_len {a b : List Int} (h : fitv a b = 0) : a.length = b.length ∧ a.length ≤ 4096 := by
  unfold fitv at h
  split at h
  · cases h
  · split at h
    · omega
    · cases h
theorem fitv_ok {a b : List Int} (h : a.length = b.length) (h2 : a.length ≤ 4096) : fitv a b = 0 := by
  unfold fitv; rw [if_neg (by omega), if_pos h]
theorem Dot_eq {k : Nat} {a b : List Int} (ha : I32 a) (hb : I32 b) (hk : 5000 ≤ k) : vec_Dot.f k a b = some (if fitv a b = 0 then (dotv a b, 0) else (0, fitv a b)) := by
  unfold vec_Dot.f
  rw [fit_eq a b (by omega), Option.bind_some]
  split
  · rename_i h
    have hl := fitv_len h
    have := Dot_loop ha hb (by omega) (by omega) a.length 0 k 0 (by omega) (by omega) (by omega) (by omega) (by omega)
    rw [Int.natCast_zero] at this
    rw [this]; rfl
  · rfl
theorem Few_eq {l : List Int} {n : Int} (hn : 0 ≤ n) (hl : l.length < 35184372088832) : tillerlaw03_Few.f l n = some (l.take n.toNat) := by
  unfold tillerlaw03_Few.f
  simp only [Option.bind_some, List.nil_append, List.length_nil, Nat.zero_add]
  by_cases h : (l.length : Int) > n
  · rw [if_pos h, if_pos hn, if_pos (by omega), if_pos (by rw [List.length_take]; omega)]
  · rw [if_neg h, if_pos hl, List.take_of_length_le (by omega)]
end Go.Proofs.Ytefimleoffaggaa.U
