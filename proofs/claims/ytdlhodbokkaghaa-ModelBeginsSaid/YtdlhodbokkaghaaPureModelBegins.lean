/- ModelBegins: the pure statement. -/
import Derived.Test.YtdlhodbokkaghaaGQx3
import Derived.Test.YtdlhodbokkaghaaGQx7
import Derived.Test.YtdlhodbokkaghaaUMaker
set_option linter.unusedVariables false
namespace Go.Proofs.Ytdlhodbokkaghaa.U
open Go.RowKit Go.Proofs.YtdlhodbokkaghaaW.PrintWords Go.Proofs.YtdlhodbokkaghaaW.PrintLast Go.Proofs.YtdlhodbokkaghaaW.PrintMore Go.Proofs.Ytdlhodbokkaghaa.GQ
theorem awake06 (k : Nat) (hk : 50 ≤ k) : tillerlaw06_awake.f k = some true :=
  at_rounds (g := tillerlaw06_awake.f) tillerlaw06_awake.mono hk (by decide +kernel)
theorem begins_run (seed : Int) (h0 : 0 ≤ seed) (h1 : seed < 18446744073709551616) (n1 n2 N : Nat) (c1 : N ≤ n1) (c2 : N ≤ n2) (hN : N ≤ 100000) (hN2 : 2 ≤ N) (a b : Int) (B : List BK) (g : List Int) (c d : Int) (o : List Int) (a' b' : Int) (B' : List BK) (g' : List Int) (c' d' : Int) (o' : List Int) : ∀ (m i k : Nat), i + m = N → m + 50 < k →
    tillerlaw06_ModelBegins.l0 k seed (N : Int) (i : Int) a b (rowL seed 131072 n1) B g c d o a' b' (rowL seed 131072 n2) B' g' c' d' o' = some true := by
  have hs := at_zero seed h0 h1
  intro m
  induction m with
  | zero =>
    intro i k hi hk
    obtain ⟨k, rfl⟩ := succ_of_lt (show 0 < k by omega)
    simp only [tillerlaw06_ModelBegins.l0]
    rw [if_neg (by omega), awake06 k (by omega), Option.bind_some, if_pos rfl, decide_eq_true (by omega)]
  | succ m ih =>
    intro i k hi hk
    obtain ⟨k, rfl⟩ := succ_of_lt (show 0 < k by omega)
    have e1 : rd (rowL seed 131072 n1) (i : Int) = rv (at_ seed (i + 1)) 131072 := by
      have h := rowL_get seed 131072 n1 i 0 (by omega)
      rwa [hs, Nat.zero_add] at h
    have e2 : rd (rowL seed 131072 n2) (i : Int) = rv (at_ seed (i + 1)) 131072 := by
      have h := rowL_get seed 131072 n2 i 0 (by omega)
      rwa [hs, Nat.zero_add] at h
    simp only [tillerlaw06_ModelBegins.l0]
    rw [if_pos (by omega), if_pos (by omega), if_pos (by rw [rowL_length]; omega), if_pos (by rw [rowL_length]; omega), e1, e2, if_pos rfl, rand_eq seed i 131072 (by omega) (.inl rfl), Option.bind_some, if_pos rfl, w64 (by omega) (by omega), ← Int.natCast_one, ← Int.natCast_add]
    exact ih (i + 1) k (by omega) (by omega)
end Go.Proofs.Ytdlhodbokkaghaa.U
namespace Go.Proofs.Ytdlhodbokkaghaa.Pure
open Go.RowKit Go.Proofs.YtdlhodbokkaghaaW.PrintWords Go.Proofs.YtdlhodbokkaghaaW.PrintLast Go.Proofs.YtdlhodbokkaghaaW.PrintMore Go.Proofs.Ytdlhodbokkaghaa.GQ Go.Proofs.Ytdlhodbokkaghaa.U
theorem ModelBegins : ∀ (a0_0 : Int) (a0_1 : Int) (a0_2 : Int) (a0_3 : Int) (a0_4 : Int) (a1_0 : Int) (a1_1 : Int) (a1_2 : Int) (a1_3 : Int) (a1_4 : Int) (a2 : Int), (Lit.int .i64 a0_0).wf = true → (Lit.int .i64 a0_1).wf = true → (Lit.int .i64 a0_2).wf = true → (Lit.int .i64 a0_3).wf = true → (Lit.int .i64 a0_4).wf = true → (Lit.int .i64 a1_0).wf = true → (Lit.int .i64 a1_1).wf = true → (Lit.int .i64 a1_2).wf = true → (Lit.int .i64 a1_3).wf = true → (Lit.int .i64 a1_4).wf = true → (Lit.int .u64 a2).wf = true → ∃ k, tillerlaw06_ModelBegins.f k a0_0 a0_1 a0_2 a0_3 a0_4 a1_0 a1_1 a1_2 a1_3 a1_4 a2 = some true := by
  intro v d hs hid ly v' d' hs' hid' ly' seed _ _ _ _ _ _ _ _ _ _ hseed
  have hr := wf_u64 hseed
  refine ⟨10000 + 2, ?_⟩
  have stop : ∀ x2 x3 x4 (l1 : List Int) (B1 : List BK) (l2 : List Int) x5 x6 (l3 : List Int) x7 x8 (l4 : List Int) (B2 : List BK) (l5 : List Int) x9 x10 (l6 : List Int), tillerlaw06_ModelBegins.j0 (10000 + 2) x2 true x3 x4 l1 B1 l2 x5 x6 l3 x7 x8 l4 B2 l5 x9 x10 l6 = some true := by
    intros
    simp only [tillerlaw06_ModelBegins.j0]
    rw [if_pos trivial, awake06 _ (by omega)]
    rfl
  unfold tillerlaw06_ModelBegins.f
  by_cases c1 : shp v d hs hid ly = 0
  · obtain ⟨⟨v0, v1⟩, ⟨d0, d1⟩, _, ⟨i0, i1⟩, ⟨l0, l1⟩⟩ := shp_ok c1
    obtain ⟨v, rfl⟩ : ∃ n : Nat, v = (n : Int) := ⟨v.toNat, (Int.toNat_of_nonneg (by omega)).symm⟩
    obtain ⟨d, rfl⟩ : ∃ n : Nat, d = (n : Int) := ⟨d.toNat, (Int.toNat_of_nonneg (by omega)).symm⟩
    obtain ⟨hid, rfl⟩ : ∃ n : Nat, hid = (n : Int) := ⟨hid.toNat, (Int.toNat_of_nonneg (by omega)).symm⟩
    obtain ⟨ly, rfl⟩ : ∃ n : Nat, ly = (n : Int) := ⟨ly.toNat, (Int.toNat_of_nonneg (by omega)).symm⟩
    rw [make_ok _ v d hid ly hs seed (by omega) c1, Option.bind_some]
    by_cases c2 : shp v' d' hs' hid' ly' = 0
    · obtain ⟨⟨v0', v1'⟩, ⟨d0', d1'⟩, _, ⟨i0', i1'⟩, ⟨l0', l1'⟩⟩ := shp_ok c2
      obtain ⟨v', rfl⟩ : ∃ n : Nat, v' = (n : Int) := ⟨v'.toNat, (Int.toNat_of_nonneg (by omega)).symm⟩
      obtain ⟨d', rfl⟩ : ∃ n : Nat, d' = (n : Int) := ⟨d'.toNat, (Int.toNat_of_nonneg (by omega)).symm⟩
      obtain ⟨hid', rfl⟩ : ∃ n : Nat, hid' = (n : Int) := ⟨hid'.toNat, (Int.toNat_of_nonneg (by omega)).symm⟩
      obtain ⟨ly', rfl⟩ : ∃ n : Nat, ly' = (n : Int) := ⟨ly'.toNat, (Int.toNat_of_nonneg (by omega)).symm⟩
      rw [make_ok _ v' d' hid' ly' hs' seed (by omega) c2, Option.bind_some, if_pos rfl]
      simp only [tillerlaw06_ModelBegins.j0]
      rw [if_neg (by decide), rowL_length, rowL_length]
      have m1 : v * d ≤ 64 * 32 := Nat.mul_le_mul (show v ≤ 64 by omega) (show d ≤ 32 by omega)
      have m2 : v' * d' ≤ 64 * 32 := Nat.mul_le_mul (show v' ≤ 64 by omega) (show d' ≤ 32 by omega)
      have k1 : 2 * 1 ≤ v * d := Nat.mul_le_mul (show 2 ≤ v by omega) (show 1 ≤ d by omega)
      have k2 : 2 * 1 ≤ v' * d' := Nat.mul_le_mul (show 2 ≤ v' by omega) (show 1 ≤ d' by omega)
      obtain ⟨N, hN1, hN2, hN3⟩ : ∃ N : Nat, mn ((v * d : Nat) : Int) ((v' * d' : Nat) : Int) = (N : Int) ∧ N ≤ v * d ∧ N ≤ v' * d' ∧ 2 ≤ N := by
        by_cases c : v * d ≤ v' * d'
        · exact ⟨v * d, by unfold mn; split <;> omega, Nat.le_refl _, c, by omega⟩
        · exact ⟨v' * d', by unfold mn; split <;> omega, by omega, Nat.le_refl _, by omega⟩
      rw [hN1]
      exact begins_run seed hr.1 (by omega) (v * d) (v' * d') N hN2 hN3.1 (by omega) hN3.2 _ _ _ _ _ _ _ _ _ _ _ _ _ _ N 0 _ (by omega) (by omega)
    · rw [make_bad _ _ _ _ _ _ _ c2, Option.bind_some, if_pos rfl, show (shp v' d' hs' hid' ly' != 0) = true from bne_iff_ne.mpr c2]
      exact stop _ _ _ _ _ _ _ _ _ _ _ _ _ _ _ _ _
  · rw [make_bad _ _ _ _ _ _ _ c1, Option.bind_some]
    by_cases c2 : shp v' d' hs' hid' ly' = 0
    · obtain ⟨⟨v0', v1'⟩, ⟨d0', d1'⟩, _, ⟨i0', i1'⟩, ⟨l0', l1'⟩⟩ := shp_ok c2
      obtain ⟨v', rfl⟩ : ∃ n : Nat, v' = (n : Int) := ⟨v'.toNat, (Int.toNat_of_nonneg (by omega)).symm⟩
      obtain ⟨d', rfl⟩ : ∃ n : Nat, d' = (n : Int) := ⟨d'.toNat, (Int.toNat_of_nonneg (by omega)).symm⟩
      obtain ⟨hid', rfl⟩ : ∃ n : Nat, hid' = (n : Int) := ⟨hid'.toNat, (Int.toNat_of_nonneg (by omega)).symm⟩
      obtain ⟨ly', rfl⟩ : ∃ n : Nat, ly' = (n : Int) := ⟨ly'.toNat, (Int.toNat_of_nonneg (by omega)).symm⟩
      rw [make_ok _ v' d' hid' ly' hs' seed (by omega) c2, Option.bind_some, if_neg c1]
      exact stop _ _ _ _ _ _ _ _ _ _ _ _ _ _ _ _ _
    · rw [make_bad _ _ _ _ _ _ _ c2, Option.bind_some, if_neg c1]
      exact stop _ _ _ _ _ _ _ _ _ _ _ _ _ _ _ _ _
end Go.Proofs.Ytdlhodbokkaghaa.Pure
