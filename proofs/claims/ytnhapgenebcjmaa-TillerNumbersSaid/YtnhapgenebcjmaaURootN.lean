/- Layer 2's roots: Newton's steps and the reference's bits both find the whole root. -/
import Derived.Lib.ItoaNum
import Derived.Test.YtnhapgenebcjmaaUMath
import Derived.Test.YtnhapgenebcjmaaGNx1
import Derived.Test.YtnhapgenebcjmaaGNx4
set_option linter.unusedVariables false
set_option linter.unusedSimpArgs false
namespace Go.Proofs.Ytnhapgenebcjmaa.U
open Go.RowKit Go.Proofs.YtnhapgenebcjmaaW.PrintWords Go.Proofs.YtnhapgenebcjmaaW.PrintLast Go.Proofs.YtnhapgenebcjmaaW.PrintMore Go.Proofs.Ytnhapgenebcjmaa.GN Go.Proofs.Ytnhapgenebcjmaa.GLen
/-- The whole root. -/
def isq (x r : Int) : Prop := 0 ≤ r ∧ r * r ≤ x ∧ x < (r + 1) * (r + 1)
theorem sq_le {a b : Int} (h0 : 0 ≤ a) (h : a ≤ b) : a * a ≤ b * b := Int.mul_le_mul h h h0 (by omega)
theorem sq_lt {a b : Int} (ha : 0 ≤ a) (hb : 0 ≤ b) (h : a * a < b * b) : a < b := by
  refine Int.not_le.mp fun hn => ?_
  have := sq_le hb hn
  omega
theorem isq_unique {x r s : Int} (h : isq x r) (k : isq x s) : r = s := by
  have a := sq_lt h.1 (by have := k.1; omega) (Int.lt_of_le_of_lt h.2.1 k.2.2)
  have b := sq_lt k.1 (by have := h.1; omega) (Int.lt_of_le_of_lt k.2.1 h.2.2)
  omega
theorem isq_bound {x r B : Int} (h : isq x r) (hB : 0 ≤ B) (hx : x < B * B) : r < B := sq_lt h.1 hB (Int.lt_of_le_of_lt h.2.1 hx)
theorem u64n {x : Int} (h0 : 0 ≤ x) (h1 : x ≤ 18446744073709551615) : IntKind.u64.wrap x = x := by rw [IntKind.wrap_u64]; omega
theorem sq_succ (r : Int) : (r + 1) * (r + 1) = r * r + 2 * r + 1 := by rw [Int.add_mul, Int.mul_add]; omega
/-- The mean of two is not below their root: (a - b)² is not negative. -/
theorem amgm (a b : Int) : 4 * (a * b) ≤ (a + b) * (a + b) := by
  have h : 0 ≤ (a - b) * (a - b) := by
    rcases Int.le_total 0 (a - b) with h | h
    · exact Int.mul_nonneg h h
    · have := Int.mul_nonneg (a := -(a - b)) (b := -(a - b)) (by omega) (by omega)
      rwa [Int.neg_mul_neg] at this
  rw [Int.sub_mul, Int.mul_sub, Int.mul_sub] at h
  rw [Int.add_mul, Int.mul_add, Int.mul_add]
  have := Int.mul_comm a b
  omega
/-- A step of Newton's. -/
theorem newton (x r : Int) (hx : 1 ≤ x) (hr : 1 ≤ r) (h : x < (r + 1) * (r + 1)) :
    0 ≤ x / r ∧ x / r ≤ r + 2 ∧ 1 ≤ (r + x / r) / 2 ∧ x < ((r + x / r) / 2 + 1) * ((r + x / r) / 2 + 1) ∧ ((r + x / r) / 2 ≥ r → r * r ≤ x) := by
  obtain ⟨q, hq⟩ : ∃ q, x / r = q := ⟨_, rfl⟩
  have hd := divmod x r (by omega)
  rw [hq] at hd ⊢
  obtain ⟨e, m0, m1⟩ := hd
  have q0 : 0 ≤ q := by rw [← hq]; exact Int.ediv_nonneg (by omega) (by omega)
  have q2 : q ≤ r + 2 := by
    refine Int.not_lt.mp fun hn => ?_
    have h1 : r * (r + 3) ≤ r * q := Int.mul_le_mul_of_nonneg_left (by omega) (by omega)
    rw [Int.mul_add] at h1
    rw [sq_succ] at h
    omega
  obtain ⟨n, hn⟩ : ∃ n, (r + q) / 2 = n := ⟨_, rfl⟩
  rw [hn]
  have n1 : r + q + 1 ≤ 2 * (n + 1) := by omega
  have n0 : 0 ≤ n := by omega
  have key : x < (n + 1) * (n + 1) := by
    have a := amgm r (q + 1)
    rw [Int.mul_add, Int.mul_one] at a
    have b : (r + (q + 1)) * (r + (q + 1)) ≤ (2 * (n + 1)) * (2 * (n + 1)) := sq_le (by omega) (by omega)
    have c : (2 * (n + 1)) * (2 * (n + 1)) = 4 * ((n + 1) * (n + 1)) := by
      rw [Int.mul_assoc, Int.mul_left_comm (n + 1) 2 (n + 1)]; omega
    omega
  refine ⟨q0, q2, ?_, key, fun hge => ?_⟩
  · refine Int.not_lt.mp fun hl => ?_
    have : n = 0 := by omega
    subst this
    omega
  · have : r ≤ q := by omega
    have := Int.mul_le_mul_of_nonneg_left this (show 0 ≤ r by omega)
    omega
theorem Root_loop (x : Int) (hx : 1 ≤ x) : ∀ n : Nat, ∀ r : Int, r.toNat ≤ n → 1 ≤ r → r ≤ 4294967296 → x < (r + 1) * (r + 1) → ∀ k, n < k → ∃ s, curve_Root.l0 k x r = some s ∧ isq x s := by
  intro n
  induction n with
  | zero => intro r h0 h1; omega
  | succ n ih =>
    intro r hn h1 h2 h k hk
    obtain ⟨k, rfl⟩ := succ_of_lt (show 0 < k by omega)
    have N := newton x r hx h1 h
    have e1 : IntKind.u64.wrap (Int.tdiv x r) = x / r := by
      rw [Int.tdiv_eq_ediv_of_nonneg (by omega)]; exact u64n N.1 (by omega)
    have e2 : IntKind.u64.wrap (Int.tdiv (IntKind.u64.wrap (r + x / r)) 2) = (r + x / r) / 2 := by
      rw [u64n (x := r + x / r) (by omega) (by omega), Int.tdiv_eq_ediv_of_nonneg (by omega)]; exact u64n (by omega) (by omega)
    simp only [curve_Root.l0]
    rw [if_neg (by omega), e1, e2]
    by_cases hc : (r + x / r) / 2 ≥ r
    · rw [if_pos hc]
      exact ⟨r, rfl, by omega, N.2.2.2.2 hc, h⟩
    · rw [if_neg hc]
      exact ih _ (by omega) N.2.2.1 (by omega) N.2.2.2.1 k (by omega)
theorem shl_ok : ∀ n : Fin 33, shl .u64 1 ((n.val : Nat) : Int) = 2 ^ n.val := by decide +kernel
theorem pow_le : ∀ n : Fin 33, (1 : Int) ≤ 2 ^ n.val ∧ (2 : Int) ^ n.val ≤ 4294967296 := by decide +kernel
theorem pow_sq : ∀ l : Fin 65, (2 : Int) ^ l.val ≤ 2 ^ ((l.val + 1) / 2) * 2 ^ ((l.val + 1) / 2) := by decide +kernel
/-- The root is the whole root. -/
theorem Root_eq (x : Int) (h0 : 0 ≤ x) (h1 : x ≤ 18446744073709551615) : ∃ s, isq x s ∧ ∀ k : Nat, 4294967297 ≤ k → curve_Root.f k x = some s := by
  by_cases hz : x = 0
  · subst hz
    exact ⟨0, ⟨by omega, by omega, by omega⟩, fun k _ => by unfold curve_Root.f; rw [if_pos rfl]⟩
  · obtain ⟨l, hl⟩ : ∃ l, Lib.bitLen x.toNat = l := ⟨_, rfl⟩
    have b := Lib.bitLenAux_bounds 64 x.toNat (by omega) (by omega)
    change 1 ≤ Lib.bitLen x.toNat ∧ _ ∧ _ < 2 ^ Lib.bitLen x.toNat at b
    have bl := Lib.bitLen_le x.toNat 64 (by omega) (by omega)
    rw [hl] at b bl
    have hp : x < (2 : Int) ^ l := by
      have := b.2.2
      have h2 : ((2 ^ l : Nat) : Int) = (2 : Int) ^ l := by rw [Int.natCast_pow]; rfl
      omega
    have hsq := pow_sq ⟨l, by omega⟩
    have hsh := shl_ok ⟨(l + 1) / 2, by omega⟩
    have hpl := pow_le ⟨(l + 1) / 2, by omega⟩
    simp only at hsq hsh hpl
    have ew : wrap64 (Int.tdiv (wrap64 ((l : Int) + 1)) 2) = (((l + 1) / 2 : Nat) : Int) := by
      rw [w64 (x := (l : Int) + 1) (by omega) (by omega), Int.tdiv_eq_ediv_of_nonneg (by omega)]
      rw [w64 (by omega) (by omega)]; omega
    generalize hR : (2 : Int) ^ ((l + 1) / 2) = R at hsq hsh hpl
    obtain ⟨s, hs, hq⟩ := Root_loop x (by omega) 4294967296 R (by omega) hpl.1 hpl.2 (by rw [sq_succ]; omega) 4294967297 (by omega)
    refine ⟨s, hq, fun k hk => ?_⟩
    obtain ⟨s', hs', hq'⟩ := Root_loop x (by omega) 4294967296 R (by omega) hpl.1 hpl.2 (by rw [sq_succ]; omega) k (by omega)
    unfold curve_Root.f bits_Len64.f
    rw [if_neg hz, if_pos ⟨h0, h1⟩, Option.bind_some, hl, ew, if_pos (by omega), hsh, hs', isq_unique hq' hq]
theorem inv_arg (y : Int) (h0 : 1 ≤ y) (h1 : y ≤ 2147483647) : IntKind.u64.wrap y = y ∧ 0 ≤ (281474976710656 : Int) / y ∧ (281474976710656 : Int) / y ≤ 281474976710656 :=
  ⟨u64n (by omega) (by omega), Int.ediv_nonneg (by omega) (by omega), Int.ediv_le_self _ (by omega)⟩
theorem Inverse_low (y : Int) (h : y ≤ 0) (k : Nat) : curve_Inverse.f k y = some 2147483647 := by unfold curve_Inverse.f; rw [if_pos h]
theorem Inverse_eq (y : Int) (h0 : 1 ≤ y) (h1 : y ≤ 2147483647) : ∃ s, isq ((281474976710656 : Int) / y) s ∧ s ≤ 16777216 ∧ ∀ k : Nat, 4294967297 ≤ k → curve_Inverse.f k y = some s := by
  have a := inv_arg y h0 h1
  obtain ⟨s, hs, hf⟩ := Root_eq _ a.2.1 (by omega)
  have hb := isq_bound hs (B := 16777217) (by omega) (by omega)
  refine ⟨s, hs, by omega, fun k hk => ?_⟩
  unfold curve_Inverse.f
  rw [if_neg (by omega), a.1, if_neg (by omega), hf k hk, Option.bind_some, w32 (by have := hs.1; omega) (by omega)]
end Go.Proofs.Ytnhapgenebcjmaa.U
