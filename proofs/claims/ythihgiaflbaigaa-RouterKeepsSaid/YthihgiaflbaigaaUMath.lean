/- Plain facts on whole numbers and lists, for this session's proofs. -/
import Derived.Test.YthihgiaflbaigaaWExtra
set_option linter.unusedVariables false
namespace Go.Proofs.Ythihgiaflbaigaa.U
open Go.RowKit Go.Proofs.YthihgiaflbaigaaW.PrintWords Go.Proofs.YthihgiaflbaigaaW.PrintMore

theorem w64 {x : Int} (h1 : -9223372036854775808 ≤ x) (h2 : x ≤ 9223372036854775807) : wrap64 x = x := by unfold wrap64; omega
theorem w32 {x : Int} (h1 : -2147483648 ≤ x) (h2 : x ≤ 2147483647) : wrap32 x = x := by unfold wrap32; omega
theorem succ_of_lt {n k : Nat} (h : n < k) : ∃ m, k = m + 1 := ⟨k - 1, by omega⟩
theorem wf_i32 {x : Int} (h : (Lit.int .i32 x).wf = true) : -2147483648 ≤ x ∧ x ≤ 2147483647 := by
  have h1 : IntKind.i32.min = -2147483648 := by decide
  have h2 : IntKind.i32.max = 2147483647 := by decide
  simp only [Lit.wf, Bool.and_eq_true, decide_eq_true_eq, h1, h2] at h
  exact h
theorem wf_i64 {x : Int} (h : (Lit.int .i64 x).wf = true) : -9223372036854775808 ≤ x ∧ x ≤ 9223372036854775807 := by
  have h1 : IntKind.i64.min = -9223372036854775808 := by decide
  have h2 : IntKind.i64.max = 9223372036854775807 := by decide
  simp only [Lit.wf, Bool.and_eq_true, decide_eq_true_eq, h1, h2] at h
  exact h
theorem wf_u64 {x : Int} (h : (Lit.int .u64 x).wf = true) : 0 ≤ x ∧ x ≤ 18446744073709551615 := by
  have h1 : IntKind.u64.min = 0 := by decide
  have h2 : IntKind.u64.max = 18446744073709551615 := by decide
  simp only [Lit.wf, Bool.and_eq_true, decide_eq_true_eq, h1, h2] at h
  exact h
theorem wf_u32 {x : Int} (h : (Lit.int .u32 x).wf = true) : 0 ≤ x ∧ x ≤ 4294967295 := by
  have h1 : IntKind.u32.min = 0 := by decide
  have h2 : IntKind.u32.max = 4294967295 := by decide
  simp only [Lit.wf, Bool.and_eq_true, decide_eq_true_eq, h1, h2] at h
  exact h

/-- A product of two numbers of 32 bits. -/
theorem mul_bound {a b A B : Int} (hA : 0 ≤ A) (h1 : -A ≤ a) (h2 : a ≤ A) (h3 : -B ≤ b) (h4 : b ≤ B) : -(A * B) ≤ a * b ∧ a * b ≤ A * B := by
  have hB : 0 ≤ B := by omega
  have h : (a * b).natAbs ≤ (A * B).natAbs := by
    rw [Int.natAbs_mul, Int.natAbs_mul]
    exact Nat.mul_le_mul (by omega) (by omega)
  have hAB : 0 ≤ A * B := Int.mul_nonneg hA hB
  omega
theorem mul32 {a b : Int} (h1 : -2147483648 ≤ a) (h2 : a ≤ 2147483648) (h3 : -2147483648 ≤ b) (h4 : b ≤ 2147483648) : -4611686018427387904 ≤ a * b ∧ a * b ≤ 4611686018427387904 := by
  have := mul_bound (A := 2147483648) (B := 2147483648) (by omega) h1 h2 h3 h4
  omega

/-- Rounding, halves away from nought: of a size. -/
def rndp (x d : Int) : Int := if x % d ≥ d - x % d then x / d + 1 else x / d
/-- Rounding, halves away from nought. -/
def rnd (x d : Int) : Int := if x < 0 then -(rndp (-x) d) else rndp x d
/-- The nearest number that may be answered. -/
def sat (x : Int) : Int := if x > 2147483647 then 2147483647 else if x < -2147483647 then -2147483647 else x
theorem sat_bound (x : Int) : -2147483647 ≤ sat x ∧ sat x ≤ 2147483647 := by unfold sat; split <;> (try split) <;> omega
theorem sat_id {x : Int} (h1 : -2147483647 ≤ x) (h2 : x ≤ 2147483647) : sat x = x := by unfold sat; split <;> (try split) <;> omega
theorem sat_neg (x : Int) : sat (-x) = -sat x := by unfold sat; (repeat' split) <;> omega
theorem sat_mono {x y : Int} (h : x ≤ y) : sat x ≤ sat y := by unfold sat; (repeat' split) <;> omega

theorem divmod (x d : Int) (hd : 0 < d) : x = d * (x / d) + x % d ∧ 0 ≤ x % d ∧ x % d < d :=
  ⟨(Int.mul_ediv_add_emod x d).symm, Int.emod_nonneg _ (by omega), Int.emod_lt_of_pos _ hd⟩
theorem div_small {x d : Int} (hx : 0 ≤ x) (hd : 0 < d) : 0 ≤ x / d ∧ x / d ≤ x := ⟨Int.ediv_nonneg hx (by omega), Int.ediv_le_self _ hx⟩
theorem div_half {x d : Int} (hx : 0 ≤ x) (hd : 2 ≤ d) : 2 * (x / d) ≤ x := by
  have h1 := divmod x d (by omega)
  have h2 : 2 * (x / d) ≤ d * (x / d) := Int.mul_le_mul_of_nonneg_right hd (Int.ediv_nonneg hx (by omega))
  omega
/-- What is rounded is near to what it was. -/
theorem rndp_near {x d : Int} (hd : 0 < d) : 2 * (d * rndp x d) ≤ 2 * x + d ∧ 2 * x - d < 2 * (d * rndp x d) := by
  have h := divmod x d hd
  unfold rndp
  split
  · rw [Int.mul_add]; omega
  · omega
theorem rndp_nonneg {x d : Int} (hx : 0 ≤ x) (hd : 0 < d) : 0 ≤ rndp x d := by
  have := div_small hx hd
  unfold rndp; split <;> omega
theorem rndp_uniq {x d q : Int} (hd : 0 < d) (h1 : 2 * (d * q) ≤ 2 * x + d) (h2 : 2 * x - d < 2 * (d * q)) : rndp x d = q := by
  have h := rndp_near (x := x) hd
  have h3 : d * (rndp x d) - d * q < d ∧ d * q - d * (rndp x d) < d := by omega
  rcases Int.lt_trichotomy (rndp x d) q with hh | hh | hh
  · have : d * (rndp x d + 1) ≤ d * q := Int.mul_le_mul_of_nonneg_left (by omega) (by omega)
    rw [Int.mul_add] at this; omega
  · exact hh
  · have : d * (q + 1) ≤ d * (rndp x d) := Int.mul_le_mul_of_nonneg_left (by omega) (by omega)
    rw [Int.mul_add] at this; omega
theorem rndp_mono {x y d : Int} (hd : 0 < d) (h : x ≤ y) : rndp x d ≤ rndp y d := by
  have h1 := rndp_near (x := x) hd
  have h2 := rndp_near (x := y) hd
  by_cases hh : rndp x d ≤ rndp y d
  · exact hh
  · exfalso
    have : d * (rndp y d + 1) ≤ d * (rndp x d) := Int.mul_le_mul_of_nonneg_left (by omega) (by omega)
    rw [Int.mul_add] at this; omega
theorem rnd_neg {x d : Int} (hd : 0 < d) : rnd (-x) d = -rnd x d := by
  have h0 : rndp 0 d = 0 := rndp_uniq hd (by simp; omega) (by simp; omega)
  unfold rnd
  rcases Int.lt_trichotomy x 0 with h | h | h
  · rw [if_neg (by omega), if_pos h]; omega
  · subst h; simp [h0]
  · rw [if_pos (by omega), if_neg (by omega), Int.neg_neg]
theorem rnd_near {x d : Int} (hd : 0 < d) : 2 * (d * rnd x d) ≤ 2 * x + d ∧ 2 * x - d ≤ 2 * (d * rnd x d) := by
  unfold rnd
  split
  · have h := rndp_near (x := -x) hd
    rw [Int.mul_neg]; omega
  · have h := rndp_near (x := x) hd
    omega
theorem rnd_mono {x y d : Int} (hd : 0 < d) (h : x ≤ y) : rnd x d ≤ rnd y d := by
  unfold rnd
  split
  · split
    · have := rndp_mono hd (show -y ≤ -x by omega); omega
    · have := rndp_nonneg (show 0 ≤ -x by omega) hd
      have := rndp_nonneg (show 0 ≤ y by omega) hd
      omega
  · rw [if_neg (by omega)]
    exact rndp_mono hd h
theorem rnd_mul {q d : Int} (hd : 0 < d) : rnd (q * d) d = q := by
  have hp : ∀ q : Int, rndp (q * d) d = q := fun q => rndp_uniq hd (by rw [Int.mul_comm q d]; omega) (by rw [Int.mul_comm q d]; omega)
  unfold rnd
  split
  · rw [← Int.neg_mul, hp]; omega
  · exact hp q
theorem rnd_zero {d : Int} (hd : 0 < d) : rnd 0 d = 0 := by have := rnd_mul (q := 0) hd; simpa using this

/-- Sums of 63 bits and a sign. -/
def cl (z : Int) : Int := if z > 9223372036854775807 then 9223372036854775807 else if z < -9223372036854775807 then -9223372036854775807 else z
theorem cl_bound (z : Int) : -9223372036854775807 ≤ cl z ∧ cl z ≤ 9223372036854775807 := by unfold cl; split <;> (try split) <;> omega
theorem cl_id {z : Int} (h1 : -9223372036854775807 ≤ z) (h2 : z ≤ 9223372036854775807) : cl z = z := by unfold cl; split <;> (try split) <;> omega
/-- The sum of products. -/
def dots : List Int → List Int → Int → Int
  | a :: as, b :: bs, s => dots as bs (cl (s + a * b))
  | _, _, s => s
theorem dots_bound : ∀ (a b : List Int) (s : Int), -9223372036854775807 ≤ s → s ≤ 9223372036854775807 → -9223372036854775807 ≤ dots a b s ∧ dots a b s ≤ 9223372036854775807
  | [], _, s, h1, h2 => by simp [dots]; omega
  | _ :: _, [], s, h1, h2 => by simp [dots]; omega
  | a :: as, b :: bs, s, h1, h2 => by
    have := cl_bound (s + a * b)
    exact dots_bound as bs _ this.1 this.2
theorem dots_comm : ∀ (a b : List Int) (s : Int), dots a b s = dots b a s
  | [], [], s => rfl
  | [], _ :: _, s => rfl
  | _ :: _, [], s => rfl
  | a :: as, b :: bs, s => by simp only [dots]; rw [Int.mul_comm a b]; exact dots_comm as bs _
/-- What a dot product answers. -/
def dotv (a b : List Int) : Int := sat (rnd (dots a b 0) 65536)
theorem dotv_comm (a b : List Int) : dotv a b = dotv b a := by unfold dotv; rw [dots_comm]

/-- Numbers of 32 bits. -/
def I32 (l : List Int) : Prop := ∀ x ∈ l, -2147483648 ≤ x ∧ x ≤ 2147483647
theorem I32.wf {l : List Int} (h : ∀ x ∈ l, (Lit.int .i32 x).wf = true) : I32 l := fun x hx => wf_i32 (h x hx)
theorem I32.take {l : List Int} (h : I32 l) (n : Nat) : I32 (l.take n) := fun x hx => h x (List.mem_of_mem_take hx)
theorem I32.drop {l : List Int} (h : I32 l) (n : Nat) : I32 (l.drop n) := fun x hx => h x (List.mem_of_mem_drop hx)
theorem I32.append {l m : List Int} (h : I32 l) (h' : I32 m) : I32 (l ++ m) := fun x hx => (List.mem_append.1 hx).elim (h x) (h' x)
theorem I32.get {l : List Int} (h : I32 l) {i : Nat} (hi : i < l.length) : -2147483648 ≤ l[i] ∧ l[i] ≤ 2147483647 := h _ (List.getElem_mem hi)
theorem rd_nat {l : List Int} {i : Nat} (hi : i < l.length) : rd l (i : Int) = l[i] := by
  unfold rd; rw [Int.toNat_natCast, List.getD_eq_getElem?_getD, List.getElem?_eq_getElem hi]; rfl
theorem I32.rd {l : List Int} (h : I32 l) {i : Nat} (hi : i < l.length) : -2147483648 ≤ rd l (i : Int) ∧ rd l (i : Int) ≤ 2147483647 := by rw [rd_nat hi]; exact h.get hi
theorem drop_rd {l : List Int} {i : Nat} (hi : i < l.length) : l.drop i = rd l (i : Int) :: l.drop (i + 1) := by rw [rd_nat hi]; exact List.drop_eq_getElem_cons hi
end Go.Proofs.Ythihgiaflbaigaa.U
