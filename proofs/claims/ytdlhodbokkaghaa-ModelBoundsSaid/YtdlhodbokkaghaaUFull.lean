/- full and List: plain. -/
import Derived.Test.YtdlhodbokkaghaaGQx4
import Derived.Test.YtdlhodbokkaghaaGQx5
import Derived.Test.YtdlhodbokkaghaaUMaker
set_option linter.unusedVariables false
set_option linter.unusedSimpArgs false
namespace Go.Proofs.Ytdlhodbokkaghaa.U
open Go.RowKit Go.Proofs.YtdlhodbokkaghaaW.PrintWords Go.Proofs.YtdlhodbokkaghaaW.PrintLast Go.Proofs.YtdlhodbokkaghaaW.PrintMore Go.Proofs.Ytdlhodbokkaghaa.GQ
/-- A block as the document's. -/
def cvB (b : S37) : S74 := ⟨b.f0, b.f1, b.f2, b.f3, b.f4, b.f5, b.f6, b.f7⟩
theorem rdB (l : List S37) (i : Nat) (h : i < l.length) : rd_T37 l (i : Int) = l[i] := by
  unfold rd_T37; rw [Int.toNat_natCast, List.getD_eq_getElem?_getD, List.getElem?_eq_getElem h]; rfl
theorem rdR (l : List S74) (i : Nat) (h : i < l.length) : rd_T74 l (i : Int) = l[i] := by
  unfold rd_T74; rw [Int.toNat_natCast, List.getD_eq_getElem?_getD, List.getElem?_eq_getElem h]; rfl
theorem rdM (l : List S27) (i : Nat) (h : i < l.length) : rd_T27 l (i : Int) = l[i] := by
  unfold rd_T27; rw [Int.toNat_natCast, List.getD_eq_getElem?_getD, List.getElem?_eq_getElem h]; rfl
theorem full_run (r c : Int) (l2 : List Int) (l3 : List S37) (l4 : List Int) (r' c' : Int) (l7 : List Int) (hl : l3.length ≤ 1000) : ∀ (n i k : Nat) (acc : List S74), i + n = l3.length → n < k → acc.length ≤ i →
    tillerlaw06_full.l0 k l3 (l3.length : Int) (i : Int) r c l2 acc l4 r' c' l7 = some (r, c, l2, acc ++ (l3.drop i).map cvB, l4, r', c', l7) := by
  intro n
  induction n with
  | zero =>
    intro i k acc hi hk ha
    obtain ⟨k, rfl⟩ := succ_of_lt (show 0 < k by omega)
    simp only [tillerlaw06_full.l0]
    rw [if_neg (by omega), List.drop_eq_nil_of_le (by omega)]
    simp
  | succ n ih =>
    intro i k acc hi hk ha
    obtain ⟨k, rfl⟩ := succ_of_lt (show 0 < k by omega)
    have hil : i < l3.length := by omega
    simp only [tillerlaw06_full.l0]
    rw [if_pos (by omega), if_pos (by omega), if_pos (by omega), if_pos (by omega), w64 (by omega) (by omega), rdB l3 i hil, ← Int.natCast_one, ← Int.natCast_add, ih (i + 1) k _ (by omega) (by omega) (by rw [List.length_append, List.length_singleton]; omega), List.drop_eq_getElem_cons hil, List.map_cons, List.append_assoc]
    rfl
theorem full_eq (k : Nat) (r c : Int) (l2 : List Int) (l3 : List S37) (l4 : List Int) (r' c' : Int) (l7 : List Int) (hl : l3.length ≤ 1000) (hk : l3.length < k) : tillerlaw06_full.f k r c l2 l3 l4 r' c' l7 = some (r, c, l2, l3.map cvB, l4, r', c', l7) := by
  unfold tillerlaw06_full.f
  have h := full_run r c l2 l3 l4 r' c' l7 hl l3.length 0 k [] (by omega) hk (Nat.le_refl _)
  rwa [List.nil_append, List.drop_zero] at h
def mlen (ms : List S27) : Nat := (ms.map (·.f2.length)).sum
def blen (b : S74) : Nat := b.f0.length + b.f5.length + mlen [b.f1, b.f2, b.f3, b.f4, b.f6, b.f7]
theorem l1_run (x17 : List S74) (x18 x19 : Int) (ms : List S27) (r c : Int) (l2 : List Int) (l3 : List S74) (l4 : List Int) (r' c' : Int) (l7 : List Int) (hm : ms.length ≤ 1000) : ∀ (n j k : Nat) (acc : List Int), j + n = ms.length → n < k → acc.length + mlen (ms.drop j) ≤ 1000000000 →
    ∃ acc', acc'.length = acc.length + mlen (ms.drop j) ∧ tillerref06_List.l1 k acc x17 x18 x19 ms (ms.length : Int) (j : Int) r c l2 l3 l4 r' c' l7 = tillerref06_List.l0 (k - n - 1) acc' x17 x18 (wrap64 (x19 + 1)) r c l2 l3 l4 r' c' l7 := by
  intro n
  induction n with
  | zero =>
    intro j k acc hj hk ha
    obtain ⟨k, rfl⟩ := succ_of_lt (show 0 < k by omega)
    refine ⟨acc, by rw [List.drop_eq_nil_of_le (by omega)]; simp [mlen], ?_⟩
    simp only [tillerref06_List.l1]
    rw [if_neg (by omega)]
    rfl
  | succ n ih =>
    intro j k acc hj hk ha
    obtain ⟨k, rfl⟩ := succ_of_lt (show 0 < k by omega)
    have hjl : j < ms.length := by omega
    have hd : mlen (ms.drop j) = ms[j].f2.length + mlen (ms.drop (j + 1)) := by
      unfold mlen
      rw [List.drop_eq_getElem_cons hjl, List.map_cons, List.sum_cons]
    obtain ⟨acc', h1, h2⟩ := ih (j + 1) k (acc ++ ms[j].f2) (by omega) (by omega) (by rw [List.length_append]; omega)
    refine ⟨acc', by rw [h1, List.length_append]; omega, ?_⟩
    simp only [tillerref06_List.l1]
    rw [if_pos (by omega), if_pos (by omega), if_pos (by omega), rdM ms j hjl, if_pos (by omega), w64 (by omega) (by omega), ← Int.natCast_one, ← Int.natCast_add, h2]
    congr 1
    omega
theorem l0_run (r c : Int) (l2 : List Int) (l3 : List S74) (l4 : List Int) (r' c' : Int) (l7 : List Int) (hl : l3.length ≤ 1000) (hb : ∀ b ∈ l3, blen b ≤ 100000) (h7 : l7.length ≤ 100000) : ∀ (n i k : Nat) (acc : List Int), i + n = l3.length → 10 * n + 10 ≤ k → acc.length + 100000 * n ≤ 200000000 →
    ∃ L, tillerref06_List.l0 k acc l3 (l3.length : Int) (i : Int) r c l2 l3 l4 r' c' l7 = some L ∧ L.length = acc.length + ((l3.drop i).map blen).sum + l7.length := by
  intro n
  induction n with
  | zero =>
    intro i k acc hi hk ha
    obtain ⟨k, rfl⟩ := succ_of_lt (show 0 < k by omega)
    refine ⟨acc ++ l7, ?_, by rw [List.drop_eq_nil_of_le (by omega), List.length_append]; simp⟩
    simp only [tillerref06_List.l0]
    rw [if_neg (by omega), if_pos (by omega)]
  | succ n ih =>
    intro i k acc hi hk ha
    obtain ⟨k, rfl⟩ := succ_of_lt (show 0 < k by omega)
    have hil : i < l3.length := by omega
    have hbl := hb l3[i] (List.getElem_mem hil)
    obtain ⟨b, hbe⟩ : ∃ b, l3[i] = b := ⟨_, rfl⟩
    rw [hbe] at hbl
    have hbd : blen b = b.f0.length + b.f5.length + mlen [b.f1, b.f2, b.f3, b.f4, b.f6, b.f7] := rfl
    obtain ⟨acc', h1, h2⟩ := l1_run l3 (l3.length : Int) (i : Int) [b.f1, b.f2, b.f3, b.f4, b.f6, b.f7] r c l2 l3 l4 r' c' l7 (by simp) 6 0 k ((acc ++ b.f0) ++ b.f5) rfl (by omega) (by rw [List.drop_zero, List.length_append, List.length_append]; omega)
    rw [List.drop_zero, List.length_append, List.length_append] at h1
    obtain ⟨L, h3, h4⟩ := ih (i + 1) (k - 6 - 1) acc' (by omega) (by omega) (by omega)
    refine ⟨L, ?_, ?_⟩
    · simp only [tillerref06_List.l0]
      rw [if_pos (by omega), if_pos (by omega), if_pos (by omega), rdR l3 i hil, hbe, if_pos (by omega), Option.bind_some, if_pos (by rw [List.length_append]; omega), Option.bind_some]
      refine Eq.trans h2 ?_
      rw [w64 (by omega) (by omega), ← Int.natCast_one, ← Int.natCast_add]
      exact h3
    · rw [h4, h1, List.drop_eq_getElem_cons hil, List.map_cons, List.sum_cons, hbe]
      omega
theorem list_eq (k : Nat) (r c : Int) (l2 : List Int) (l3 : List S74) (l4 : List Int) (r' c' : Int) (l7 : List Int) (hl : l3.length ≤ 1000) (hb : ∀ b ∈ l3, blen b ≤ 100000) (h2 : l2.length ≤ 100000) (h4 : l4.length ≤ 100000) (h7 : l7.length ≤ 100000) (hk : 10 * l3.length + 10 ≤ k) :
    ∃ L, tillerref06_List.f k r c l2 l3 l4 r' c' l7 = some L ∧ L.length = l2.length + l4.length + (l3.map blen).sum + l7.length := by
  unfold tillerref06_List.f
  obtain ⟨L, h1, h3⟩ := l0_run r c l2 l3 l4 r' c' l7 hl hb h7 l3.length 0 k (l2 ++ l4) (by omega) hk (by rw [List.length_append]; omega)
  refine ⟨L, ?_, by rw [h3, List.length_append, List.drop_zero]⟩
  rw [Option.bind_some, if_pos (by simp; omega), Option.bind_some, if_pos (by simp; omega)]
  exact h1
end Go.Proofs.Ytdlhodbokkaghaa.U
