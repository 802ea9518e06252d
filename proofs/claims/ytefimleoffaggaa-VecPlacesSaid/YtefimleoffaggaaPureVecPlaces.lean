/- VecPlaces: the pure statement. -/
import Derived.Test.YtefimleoffaggaaGQx6
import Derived.Test.YtefimleoffaggaaURows3
import Derived.Test.YtefimleoffaggaaURef3
import Derived.Test.YtefimleoffaggaaUArg
import Derived.Test.YtefimleoffaggaaUAwake3
set_option linter.unusedVariables false
namespace Go.Proofs.Ytefimleoffaggaa.Pure
open Go.RowKit Go.Proofs.YtefimleoffaggaaW.PrintWords Go.Proofs.YtefimleoffaggaaW.PrintLast Go.Proofs.YtefimleoffaggaaW.PrintMore Go.Proofs.Ytefimleoffaggaa.GQ Go.Proofs.Ytefimleoffaggaa.U
theorem places_loop {a b s : List Int} {c f : Int} (ha : I32 a) (hb : I32 b) (c1 : -2147483648 ≤ c) (c2 : c ≤ 2147483647) (hn : a.length ≤ 5000) (hf : f = 0 → a.length = b.length ∧ s = addv a b) : ∀ (d i k : Nat), a.length - i = d → i ≤ a.length → d + 100 ≤ k →
    tillerlaw03_VecPlaces.l0 k b c s (scalev a c) (risev a) f a (a.length : Int) (i : Int) = some true := by
  intro d
  induction d with
  | zero =>
    intro i k hd hi hk
    obtain ⟨k, rfl⟩ := succ_of_lt (show 0 < k by omega)
    simp only [tillerlaw03_VecPlaces.l0]
    rw [if_neg (by omega)]
  | succ d ih =>
    intro i k hd hi hk
    obtain ⟨k, rfl⟩ := succ_of_lt (show 0 < k by omega)
    have hia : i < a.length := by omega
    have r1 := ha.rd hia
    have step := ih (i + 1) k (by omega) (by omega) (by omega)
    rw [Int.natCast_add, Int.natCast_one] at step
    have hmx : ∀ x : Int, 0 ≤ x → x ≤ 2147483647 → mx (sat x) 0 = x := fun x h1 h2 => by unfold sat mx; (repeat' split) <;> omega
    have hm0 : ∀ x : Int, x < 0 → mx (sat x) 0 = 0 := fun x h1 => by unfold sat mx; (repeat' split) <;> omega
    have tail : (if (rd a i) ≥ 0 then (if (i : Int) < ((risev a).length : Int) then (if (rd (risev a) i) = (rd a i) then (if (rd a i) < 0 then (if (rd (risev a) i) = 0 then (tillerlaw03_VecPlaces.l0 k b c s (scalev a c) (risev a) f a (a.length : Int) (wrap64 ((i : Int) + 1))) else (some false)) else (tillerlaw03_VecPlaces.l0 k b c s (scalev a c) (risev a) f a (a.length : Int) (wrap64 ((i : Int) + 1)))) else (some false)) else (none)) else (if (rd a i) < 0 then (if (i : Int) < ((risev a).length : Int) then (if (rd (risev a) i) = 0 then (tillerlaw03_VecPlaces.l0 k b c s (scalev a c) (risev a) f a (a.length : Int) (wrap64 ((i : Int) + 1))) else (some false)) else (none)) else (tillerlaw03_VecPlaces.l0 k b c s (scalev a c) (risev a) f a (a.length : Int) (wrap64 ((i : Int) + 1))))) = some true := by
      rw [w64 (x := (i : Int) + 1) (by omega) (by omega)]
      by_cases h : rd a i ≥ 0
      · rw [if_pos h, if_pos (by rw [risev_len]; omega), if_pos (by rw [risev_rd hia]; exact hmx _ h r1.2), if_neg (by omega)]; exact step
      · rw [if_neg h, if_pos (by omega), if_pos (by rw [risev_len]; omega), if_pos (by rw [risev_rd hia]; exact hm0 _ (by omega))]; exact step
    simp only [tillerlaw03_VecPlaces.l0]
    rw [if_pos (by omega), if_pos (by omega), if_pos (by omega)]
    by_cases h0 : f = 0
    · obtain ⟨hl, rfl⟩ := hf h0
      have hib : i < b.length := by omega
      have r2 := hb.rd hib
      rw [if_pos h0, if_pos (by rw [addv_len hl]; omega), if_pos (by omega), w64 (x := rd a i) (by omega) (by omega), w64 (x := rd b i) (by omega) (by omega), w64 (by omega) (by omega), rSat_eq, Option.bind_some, if_pos (addv_rd hl hia),
        if_pos (by rw [scalev_len]; omega), rMul_eq (by omega) r1.1 r1.2 c1 c2, Option.bind_some, if_pos (show rd (scalev a c) (i : Int) = sat (rnd (rd a i * c) 65536) from scalev_rd c hia)]
      exact tail
    · rw [if_neg h0, if_pos (by rw [scalev_len]; omega), rMul_eq (by omega) r1.1 r1.2 c1 c2, Option.bind_some, if_pos (show rd (scalev a c) (i : Int) = sat (rnd (rd a i * c) 65536) from scalev_rd c hia)]
      exact tail
theorem VecPlaces : ∀ (l0 : List Int) (l1 : List Int) (a2 : Int), (l0.length * 4 ≤ 140737488351232 ∧ l0.length ≤ maxLen ∧ ∀ x0 ∈ l0, (Lit.int .i32 x0).wf = true) → (l1.length * 4 ≤ 140737488351232 ∧ l1.length ≤ maxLen ∧ ∀ x0 ∈ l1, (Lit.int .i32 x0).wf = true) → (Lit.int .i32 a2).wf = true → ∃ k, tillerlaw03_VecPlaces.f k l0 l1 a2 = some true := by
  intro l0 l1 c h0 h1 hc
  have i0 := I32.wf h0.2.2
  have i1 := I32.wf h1.2.2
  have hc := wf_i32 hc
  have j0 := i0.take 5000
  have j1 := i1.take 5000
  refine ⟨10000, ?_⟩
  unfold tillerlaw03_VecPlaces.f
  rw [Few_eq (by omega) (by omega), Option.bind_some, Few_eq (by omega) (by omega), Option.bind_some, show (5000 : Int).toNat = 5000 from rfl]
  have n0 : (l0.take 5000).length ≤ 5000 := by rw [List.length_take]; omega
  generalize l0.take 5000 = a at *
  generalize l1.take 5000 = b at *
  obtain ⟨r, hr, hr1⟩ := Argmax_eq (k := 10000) a (by omega) (by omega)
  obtain ⟨r', hr', hr2⟩ := rArgmax_eq (k := 10000) a (by omega) (by omega)
  have e := hr1.uniq hr2
  subst e
  rw [Addv_eq j0 j1 (by omega), Option.bind_some, Scale_eq j0 hc.1 hc.2 (by omega) (by omega), Option.bind_some, Rise_eq j0 (by omega) (by omega), Option.bind_some, rFit_eq _ _ (by omega), Option.bind_some, awake3 (by omega), Option.bind_some, if_pos rfl, hr, hr', Option.bind_some, Option.bind_some]
  obtain ⟨k, hk⟩ : ∃ k, 10000 = k + 1 := ⟨9999, rfl⟩
  have fin : ∀ s : List Int, (fitv a b = 0 → a.length = b.length ∧ s = addv a b) → tillerlaw03_VecPlaces.j0 10000 a b c s (scalev a c) (risev a) (fitv a b) (r != r) = some true := by
    intro s hs
    rw [hk]
    simp only [tillerlaw03_VecPlaces.j0]
    rw [if_neg (by simp)]
    have := places_loop j0 j1 hc.1 hc.2 n0 hs a.length 0 k (by omega) (by omega) (by omega)
    rw [Int.natCast_zero] at this
    exact this
  by_cases hf : fitv a b = 0
  · have hl := fitv_len hf
    simp only [if_pos hf]
    rw [if_pos hf.symm, if_pos (by rw [addv_len hl.1]), if_pos (by rw [scalev_len]), if_pos (by rw [risev_len])]
    exact fin _ (fun _ => ⟨hl.1, rfl⟩)
  · simp only [if_neg hf]
    rw [if_pos trivial, if_pos (show (([] : List Int).length : Int) = 0 from rfl), if_pos (by rw [scalev_len]), if_pos (by rw [risev_len])]
    exact fin _ (fun h => absurd h hf)
end Go.Proofs.Ytefimleoffaggaa.Pure
