/- What fix.Text tells is read back by fix.Parse. -/
import Derived.Test.YtnhapgenebcjmaaUTexts
import Derived.Test.YtnhapgenebcjmaaUMath
set_option linter.unusedVariables false
set_option linter.unusedSimpArgs false
namespace Go.Proofs.Ytnhapgenebcjmaa.UBack
open Go.RowKit Go.Proofs.YtnhapgenebcjmaaW.PrintWords Go.Proofs.YtnhapgenebcjmaaW.PrintLast Go.Proofs.YtnhapgenebcjmaaW.PrintMore Go.Proofs.Ytnhapgenebcjmaa.GText Go.Proofs.Ytnhapgenebcjmaa.GParse Go.Proofs.Ytnhapgenebcjmaa.GForm Go.Proofs.Ytnhapgenebcjmaa.GCut Go.Proofs.Ytnhapgenebcjmaa.U Go.Proofs.Ytnhapgenebcjmaa.USpell Go.Proofs.Ytnhapgenebcjmaa.UTexts
open Go.Proofs.Ytnhapgenebcjmaa.GDigits (bts bts_len dgt)
/-- What fix.Text tells. -/
theorem Text_is {a N : Int} (hN : N = if a < 0 then -a else a) (h1 : -2147483648 ≤ a) (h2 : a ≤ 2147483647) : ∃ D E : List Int, wd 30 (N / 65536) [] = some D.reverse ∧ fd 30 (N % 65536) [] = some E ∧ fix_Text.f a = some (mk ((if a < 0 then [45] else []) ++ D ++ (if 0 < N % 65536 then [46] else []) ++ E)) ∧ Dig D ∧ D ≠ [] ∧ D.length ≤ 5 ∧ val D 0 = N / 65536 ∧ Dig E ∧ E.length ≤ 16 ∧ val E 0 * 65536 = N % 65536 * 10 ^ E.length ∧ (0 < N % 65536 → E ≠ []) ∧ (N % 65536 = 0 → E = []) := by
  have hN0 : 0 ≤ N ∧ N ≤ 2147483648 := by rw [hN]; split <;> omega
  obtain ⟨r, e1, l1⟩ := wd_len 5 30 (N / 65536) [] (by omega) (by omega) (by rw [show (10 : Int) ^ 5 = 100000 by decide]; omega)
  obtain ⟨r', e2, v1, g1, ne1⟩ := wd_val _ _ _ _ e1 (by omega)
  obtain ⟨E, e3, l2, v2, g2, ne2, z2⟩ := fd_val 16 30 (N % 65536) [] (by omega) (by omega) (by omega) ⟨N % 65536, by rw [show (2 : Int) ^ 16 = 65536 by decide]⟩
  rw [List.nil_append] at e2 e3
  subst e2
  refine ⟨r.reverse, E, by rw [List.reverse_reverse]; exact e1, e3, ?_, fun c hc => g1 c (List.mem_reverse.1 hc), fun h => ne1 rfl (by simpa using h), by simpa using l1, v1, g2, l2, v2, ne2, z2⟩
  unfold fix_Text.f
  rw [if_pos ⟨h1, h2⟩, ← hN, e1, Option.bind_some, e3, Option.bind_some]
  unfold txt mk
  rw [← hN]
/-- Read back. -/
theorem read_back {a : Int} (h1 : -2147483648 ≤ a) (h2 : a ≤ 2147483647) {t : ByteArray} (ht : fix_Text.f a = some t) : t.size ≤ 30 ∧ parsed t = if a < -2147483647 then (0, 2) else (a, 0) := by
  obtain ⟨N, hN⟩ : ∃ N, N = if a < 0 then -a else a := ⟨_, rfl⟩
  obtain ⟨D, E, w1, f1, e, g1, n1, l1, v1, g2, l2, v2, ne2, z2⟩ := Text_is hN h1 h2
  rw [e] at ht
  have ht := Option.some.inj ht
  subst ht
  have hN0 : 0 ≤ N ∧ N ≤ 2147483648 := by rw [hN]; split <;> omega
  constructor
  · rw [mk_size]
    have qq : ∀ (p : Prop) [Decidable p] (c : Int), (if p then [c] else ([] : List Int)).length ≤ 1 := by
      intro p _ c
      split <;> simp
    have q1 := qq (a < 0) 45
    have q2 := qq (0 < N % 65536) 46
    simp only [List.length_append]
    omega
  · have hcut : ∃ f : Bool, cutAt (mk (D ++ (if 0 < N % 65536 then [46] else []) ++ E)) = (mk D, mk E, f) ∧ (f = true → E ≠ []) := by
      by_cases h : 0 < N % 65536
      · refine ⟨true, ?_, fun _ => ne2 h⟩
        rw [if_pos h, List.append_assoc]
        exact cutAt_mk g1
      · refine ⟨false, ?_, fun h => by cases h⟩
        rw [if_neg h, z2 (by omega), List.append_nil, List.append_nil, cutAt_pidx]
        have hp : ∀ {l : List Int}, Dig l → pidx l = l.length := by
          intro l
          induction l with
          | nil => intro _; rfl
          | cons c l ih =>
            intro h
            have := h c (by simp)
            simp only [pidx]
            rw [if_neg (by omega), ih fun c hc => h c (by simp [hc])]
            rfl
        rw [bts_mk g1.bound, hp g1, mk_size, if_neg (by omega)]
        rfl
    obtain ⟨f, hc, hf⟩ := hcut
    have hsg : signed (mk ((if a < 0 then [45] else []) ++ D ++ (if 0 < N % 65536 then [46] else []) ++ E)) = (mk (D ++ (if 0 < N % 65536 then [46] else []) ++ E), decide (a < 0)) := by
      by_cases h : a < 0
      · rw [if_pos h, decide_eq_true h]
        exact signed_yes _
      · rw [if_neg h, decide_eq_false h, List.nil_append]
        cases D with
        | nil => exact absurd rfl n1
        | cons c D => exact signed_no (g1 c (by simp))
    have hp : parsed (mk ((if a < 0 then [45] else []) ++ D ++ (if 0 < N % 65536 then [46] else []) ++ E)) = told (mk D) (mk E) (decide (a < 0)) := by
      unfold parsed
      rw [hsg]
      simp only []
      rw [hc]
      refine if_pos ⟨?_, fun h => ?_⟩
      · refine (isDig_iff _ 6).2 ⟨?_, ?_, ?_⟩
        · rw [bts_mk g1.bound]; exact List.all_eq_true.2 fun c hc => GParse.dgt_iff.2 (g1 c hc)
        · rw [mk_size]; cases D with
          | nil => exact absurd rfl n1
          | cons c D => simp
        · rw [mk_size]; omega
      · have := hf h
        refine (isDig_iff _ 16).2 ⟨?_, ?_, ?_⟩
        · rw [bts_mk g2.bound]; exact List.all_eq_true.2 fun c hc => GParse.dgt_iff.2 (g2 c hc)
        · rw [mk_size]; cases E with
          | nil => exact absurd rfl this
          | cons c E => simp
        · rw [mk_size]; omega
    rw [hp]
    by_cases hlow : a < -2147483647
    · have ha : a = -2147483648 := by omega
      have hNv : N = 2147483648 := by rw [hN, if_pos (by omega)]; omega
      rw [if_pos hlow, decide_eq_true (show a < 0 by omega)]
      have hd : Dig (bts (mk D)) := by rw [bts_mk g1.bound]; exact g1
      have he : Dig (bts (mk E)) := by rw [bts_mk g2.bound]; exact g2
      have hE : E = [] := z2 (by omega)
      subst hE
      rw [told_is hd he (c := 0) (R := 0) (by rw [mk_size]; decide) (by rw [mk_size]; rfl) false (by rw [mk_size]; decide), bts_mk g1.bound, v1, hNv]
      rfl
    · rw [if_neg hlow, told_mk g1 g2 (by omega) (F := N % 65536) (by omega) (by omega) v2 (by rw [v1]; rw [hN]; split <;> omega), v1]
      congr 1
      by_cases h : a < 0
      · rw [if_pos h] at hN
        rw [decide_eq_true h, if_pos rfl]
        omega
      · rw [if_neg h] at hN
        rw [decide_eq_false h, if_neg (by decide)]
        omega
end Go.Proofs.Ytnhapgenebcjmaa.UBack
