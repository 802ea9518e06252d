/- TillerNumbers: the pure statement. -/
import Derived.Test.YtnhapgenebcjmaaUBack
import Derived.Test.YtnhapgenebcjmaaUPowSum
import Derived.Test.YtnhapgenebcjmaaURootN
import Derived.Test.YtnhapgenebcjmaaGNx5
set_option linter.unusedVariables false
set_option linter.unusedSimpArgs false
namespace Go.Proofs.Ytnhapgenebcjmaa.Pure
open Go.RowKit Go.Proofs.YtnhapgenebcjmaaW.PrintWords Go.Proofs.YtnhapgenebcjmaaW.PrintLast Go.Proofs.YtnhapgenebcjmaaW.PrintMore Go.Proofs.Ytnhapgenebcjmaa.GN Go.Proofs.Ytnhapgenebcjmaa.GText Go.Proofs.Ytnhapgenebcjmaa.GParse Go.Proofs.Ytnhapgenebcjmaa.GLen Go.Proofs.Ytnhapgenebcjmaa.GCurve Go.Proofs.Ytnhapgenebcjmaa.U Go.Proofs.Ytnhapgenebcjmaa.UBack
theorem Mul_small (a b : Int) (ha : 0 ≤ a ∧ a ≤ 65536) (hb : 0 ≤ b ∧ b ≤ 65536) (k : Nat) : fix_Mul.f (k + 1) a b = some ((a * b + 32768) / 65536) := by
  have h0 : 0 ≤ a * b := Int.mul_nonneg ha.1 hb.1
  have h1 : a * b ≤ 65536 * 65536 := Int.mul_le_mul ha.2 hb.2 hb.1 (by omega)
  unfold fix_Mul.f fix_Round.f fix_Sat.f
  rw [w64 (x := a) (by omega) (by omega), w64 (x := b) (by omega) (by omega)]
  generalize a * b = p at h0 h1 ⊢
  rw [w64 (x := p) (by omega) (by omega), if_neg (by omega), Int.tmod_eq_emod_of_nonneg h0, Int.tdiv_eq_ediv_of_nonneg h0, w64 (x := 65536 - p % 65536) (by omega) (by omega), w64 (x := p / 65536) (by omega) (by omega)]
  have fin : ∀ q : Int, 0 ≤ q → q ≤ 65536 → (some q).bind (fun t101 => (some (mx (-2147483647) (mn t101 2147483647))).bind fun t102 => some t102) = some q := by
    intro q q0 q1
    rw [Option.bind_some, Option.bind_some]
    congr 1
    unfold mx mn
    split <;> split <;> omega
  by_cases hc : p % 65536 ≥ 65536 - p % 65536
  · rw [if_pos hc]
    simp only [fix_Round.j0]
    rw [if_pos (by rw [decide_eq_true_eq]; omega), w64 (x := p / 65536 + 1) (by omega) (by omega), fin _ (by omega) (by omega)]
    congr 1
    omega
  · rw [if_neg hc]
    simp only [fix_Round.j0]
    rw [if_neg (by decide), if_neg (by omega), fin _ (by omega) (by omega)]
    congr 1
    omega
theorem text_back {a : Int} (h1 : -2147483648 ≤ a) (h2 : a ≤ 2147483647) : ∃ t p, fix_Text.f a = some t ∧ fix_Parse.f t = some p ∧ (a ≥ -2147483647 → p.2 = 0 ∧ p.1 = a) := by
  obtain ⟨D, E, w1, f1, e, _⟩ := Text_is (a := a) rfl h1 h2
  obtain ⟨b1, b2⟩ := read_back h1 h2 e
  refine ⟨_, _, e, by unfold fix_Parse.f; rw [if_pos (by omega)], fun h => ?_⟩
  rw [b2, if_neg (by omega)]
  exact ⟨rfl, rfl⟩
theorem numbers_j2 (x y : Int) (hx : -524288 ≤ x ∧ x ≤ 0) (hy : -524288 ≤ y ∧ y ≤ 0) (k : Nat) : tillertop_TillerNumbers.j2 (k + 1 + 1) x y false = some true := by
  have hs := pow2_sum x y hx hy
  have bx := pow2_bound x
  have by_ := pow2_bound y
  have bs := pow2_bound (x + y)
  simp only [tillertop_TillerNumbers.j2]
  rw [if_neg (by decide), w32 (x := x + y) (by omega) (by omega), Pow_eq _ ⟨by omega, by omega⟩, Option.bind_some, Pow_eq _ ⟨by omega, by omega⟩, Option.bind_some, Pow_eq _ ⟨by omega, by omega⟩, Option.bind_some, Mul_small _ _ bx by_ k, Option.bind_some]
  generalize pow2 x * pow2 y = p at hs
  rw [w64 (x := pow2 (x + y)) (by omega) (by omega), w64 (x := (p + 32768) / 65536) (by omega) (by omega), w64 (by omega) (by omega), if_pos (by omega), decide_eq_true (by omega)]
theorem numbers_l0 (x y : Int) (hx : -2147483648 ≤ x ∧ x ≤ 2147483647) (hy : -2147483648 ≤ y ∧ y ≤ 2147483647) (l : List Int) (hl : ∀ z ∈ l, -2147483648 ≤ z ∧ z ≤ 2147483647) (h4 : l.length ≤ 10) : ∀ (d i : Nat) (k : Nat), l.length - i = d → i ≤ l.length → d + 10 ≤ k →
    tillertop_TillerNumbers.l0 k x y l (l.length : Int) (i : Int) = some true := by
  intro d
  induction d with
  | zero =>
    intro i k hd hi hk
    obtain ⟨k, rfl⟩ := succ_of_lt (show 0 < k by omega)
    obtain ⟨k, rfl⟩ := succ_of_lt (show 0 < k by omega)
    obtain ⟨k, rfl⟩ := succ_of_lt (show 0 < k by omega)
    have ht : tillertop_TillerNumbers.j2 (k + 1 + 1) x y true = some true := by
      simp only [tillertop_TillerNumbers.j2]
      rw [if_pos trivial]
    simp only [tillertop_TillerNumbers.l0]
    rw [if_neg (by omega)]
    by_cases c1 : x > 0
    · rw [if_pos c1]; exact ht
    by_cases c2 : y > 0
    · rw [if_neg c1, if_pos c2]; exact ht
    by_cases c3 : x < -524288
    · rw [if_neg c1, if_neg c2, if_pos c3]; exact ht
    rw [if_neg c1, if_neg c2, if_neg c3]
    by_cases c4 : y < -524288
    · rw [decide_eq_true c4]; exact ht
    · rw [decide_eq_false c4]
      exact numbers_j2 x y ⟨by omega, by omega⟩ ⟨by omega, by omega⟩ k
  | succ d ih =>
    intro i k hd hi hk
    obtain ⟨k, rfl⟩ := succ_of_lt (show 0 < k by omega)
    have next := ih (i + 1) k (by omega) (by omega) (by omega)
    have hlt : i < l.length := by omega
    simp only [tillertop_TillerNumbers.l0]
    have hr : rd l (i : Int) = l[i] := by
      unfold rd
      rw [Int.toNat_natCast, List.getD_eq_getElem?_getD, List.getElem?_eq_getElem hlt]
      rfl
    have hz := hl _ (List.getElem_mem hlt)
    rw [if_pos (by omega), if_pos (by omega), if_pos (by omega), hr]
    generalize l[i] = z at hz ⊢
    obtain ⟨t, p, ht, hp, hb⟩ := text_back hz.1 hz.2
    rw [ht, Option.bind_some, hp, Option.bind_some, w64 (x := (i : Int) + 1) (by omega) (by omega)]
    rw [Int.natCast_add, Int.natCast_one] at next
    by_cases hc : z ≥ -2147483647
    · rw [if_pos hc, if_pos (hb hc).1, if_pos (hb hc).2]; exact next
    · rw [if_neg hc]; exact next
theorem TillerNumbers : ∀ (a0 : Int) (a1 : Int), (Lit.int .i32 a0).wf = true → (Lit.int .i32 a1).wf = true → ∃ k, tillertop_TillerNumbers.f k a0 a1 = some true := by
  intro x y hx hy
  have hx := wf_i32 hx
  have hy := wf_i32 hy
  obtain ⟨K, hK⟩ : ∃ K : Nat, K = 4294967297 := ⟨_, rfl⟩
  refine ⟨K + 100, ?_⟩
  have hI : ∃ s, -2147483648 ≤ s ∧ s ≤ 2147483647 ∧ ∀ k : Nat, K ≤ k → curve_Inverse.f k y = some s := by
    by_cases h : y ≤ 0
    · exact ⟨2147483647, by omega, by omega, fun k _ => Inverse_low y h k⟩
    · obtain ⟨s, hs, hb, hf⟩ := Inverse_eq y (by omega) hy.2
      exact ⟨s, by have := hs.1; omega, by omega, fun k hk => hf k (by omega)⟩
  obtain ⟨s, s0, s1, hs⟩ := hI
  have b := pow2_bound x
  have t0 : fix_Text.f 98304 = some (⟨#[49, 46, 53]⟩ : ByteArray) := by decide +kernel
  have e0 : (⟨#[49, 46, 53]⟩ : ByteArray).toList = ([49, 46, 53] : List UInt8) := by decide +kernel
  have p0 : curve_Pow.f (-65536) = some 32768 := by decide +kernel
  unfold tillertop_TillerNumbers.f
  rw [t0, Option.bind_some, if_pos e0, p0, Option.bind_some]
  obtain ⟨k, hk⟩ := succ_of_lt (show 0 < K + 100 by omega)
  rw [hk]
  simp only [tillertop_TillerNumbers.j0]
  rw [if_neg (by decide), Pow_eq x hx, Option.bind_some, hs k (by omega), Option.bind_some, Option.bind_some]
  refine numbers_l0 x y hx hy [pow2 x, s, x, y] ?_ (by simp) 4 0 k rfl (by simp) (by omega)
  intro z hz
  simp only [List.mem_cons, List.not_mem_nil, or_false] at hz
  rcases hz with rfl | rfl | rfl | rfl <;> omega
end Go.Proofs.Ytnhapgenebcjmaa.Pure
