/- What tillerref16's printed functions answer: plain. -/
import Derived.Test.YtmcdgachfkkpeaaGQx2
import Derived.Test.YtmcdgachfkkpeaaGQx4
import Derived.Test.YtmcdgachfkkpeaaGQx5
import Derived.Test.YtmcdgachfkkpeaaONBits
import Derived.Test.YtmcdgachfkkpeaaONCut2
import Derived.Test.YtmcdgachfkkpeaaUMath
set_option linter.unusedVariables false
set_option linter.unusedSimpArgs false
namespace Go.Proofs.Ytmcdgachfkkpeaa.ONet
open Go.RowKit Go.Proofs.YtmcdgachfkkpeaaW.PrintWords Go.Proofs.YtmcdgachfkkpeaaW.PrintLast Go.Proofs.YtmcdgachfkkpeaaW.PrintMore Go.Proofs.Ytmcdgachfkkpeaa.GQ Go.Proofs.Ytmcdgachfkkpeaa.U
abbrev PR := S53
def cv (p : PC) : PR := ⟨p.f0, p.f1, p.f2⟩
theorem ref_at (l : List PC) (i : Nat) (h : i < l.length) : rd_T53 (l.map cv) (i : Int) = cv (pcl l i) := by
  unfold rd_T53 pcl
  rw [Int.toNat_natCast, List.getD_eq_getElem?_getD, List.getD_eq_getElem?_getD, List.getElem?_map, List.getElem?_eq_getElem h]
  rfl
theorem ref_send (k : Nat) (l : List PC) (c tg : Int) (f : ByteArray) (hl : l.length ≤ 256) (hc : 0 ≤ c ∧ c ≤ 1000000000) :
    tillerref16_Send.f (k + 1) (l.map cv) c tg f = some ((nSend ⟨l, c⟩ tg f).1.way.map cv, (nSend ⟨l, c⟩ tg f).1.lost, (nSend ⟨l, c⟩ tg f).2) := by
  unfold tillerref16_Send.f nSend
  by_cases h0 : tg < 0
  · rw [if_pos h0, if_pos (.inl h0)]
    simp only [tillerref16_Send.j0]
    rfl
  · rw [if_neg h0]
    by_cases h8 : tg ≥ 8
    · rw [if_pos (.inr h8), decide_eq_true (by omega)]
      simp only [tillerref16_Send.j0]
      rfl
    · rw [if_neg (by omega), decide_eq_false (by omega)]
      simp only [tillerref16_Send.j0]
      rw [if_neg (by decide)]
      by_cases h1 : (f.size : Int) > 65536
      · rw [if_pos h1, if_pos h1]
      · rw [if_neg h1, if_neg h1]
        by_cases h2 : l.length ≥ 256
        · rw [if_pos (by rw [List.length_map]; omega), if_pos h2, w64 (by omega) (by omega)]
        · rw [if_neg (by rw [List.length_map]; omega), if_neg h2, Option.bind_some, if_pos (by rw [List.length_map, List.length_nil]; omega), Option.bind_some, if_pos (by rw [List.nil_append, List.length_map]; omega)]
          simp [cv]
theorem without_from (l : List PC) (i : Nat) (hl : l.length ≤ 1000) : ∀ (n j k : Nat) (acc : List PR), j + n = l.length → n < k → acc.length ≤ j →
    tillerref16_without.l0 k (i : Int) acc (l.map cv) (l.length : Int) (j : Int) = some (acc ++ (if i < j then l.drop j else (l.drop j).eraseIdx (i - j)).map cv) := by
  intro n
  induction n with
  | zero =>
    intro j k acc hj hk ha
    obtain ⟨k, rfl⟩ := succ_of_lt (show 0 < k by omega)
    simp only [tillerref16_without.l0]
    rw [if_neg (by omega)]
    have e : l.drop j = [] := List.drop_eq_nil_of_le (by omega)
    rw [e]
    split <;> simp
  | succ n ih =>
    intro j k acc hj hk ha
    obtain ⟨k, rfl⟩ := succ_of_lt (show 0 < k by omega)
    have hjl : j < l.length := by omega
    simp only [tillerref16_without.l0]
    rw [if_pos (by omega), if_pos (by omega), if_pos (by rw [List.length_map]; omega), w64 (by omega) (by omega), ref_at l j hjl]
    have ed : l.drop j = pcl l j :: l.drop (j + 1) := by
      rw [List.drop_eq_getElem_cons hjl]
      unfold pcl
      rw [Int.toNat_natCast, List.getD_eq_getElem?_getD, List.getElem?_eq_getElem hjl]
      rfl
    by_cases e : j = i
    · subst e
      rw [if_pos rfl, ← Int.natCast_one, ← Int.natCast_add, ih (j + 1) k acc (by omega) (by omega) (by omega), if_pos (by omega), if_neg (by omega), ed, Nat.sub_self]
      rfl
    · rw [if_neg (by omega), if_pos (by omega), ← Int.natCast_one, ← Int.natCast_add, ih (j + 1) k _ (by omega) (by omega) (by rw [List.length_append, List.length_singleton]; omega), ed]
      by_cases e2 : i < j
      · rw [if_pos (by omega), if_pos e2, List.append_assoc]
        rfl
      · rw [if_neg (by omega), if_neg e2]
        obtain ⟨d, hd⟩ : ∃ d, i - j = d + 1 := ⟨i - j - 1, by omega⟩
        rw [hd, show i - (j + 1) = d by omega, List.eraseIdx_cons_succ, List.append_assoc]
        rfl
theorem ref_without (k : Nat) (l : List PC) (i : Nat) (hl : l.length ≤ 1000) (hk : l.length < k) : tillerref16_without.f k (l.map cv) (i : Int) = some ((l.eraseIdx i).map cv) := by
  unfold tillerref16_without.f
  rw [List.length_map]
  have h := without_from l i hl l.length 0 k [] (by omega) hk (Nat.le_refl _)
  rw [if_neg (by omega)] at h
  simpa using h
theorem cut_from (l : List PC) (nd c : Int) (hl : l.length ≤ 1000) (hc : 0 ≤ c ∧ c ≤ 1000000000) : ∀ (n j k : Nat) (acc : List PC), j + n = l.length → n < k → acc = (l.take j).filter (keeps nd) →
    tillerref16_Cut.l0 k nd (acc.map cv) (l.map cv) (l.length : Int) (j : Int) (l.map cv) c = some ((l.filter (keeps nd)).map cv, c + ((l.length : Int) - ((l.filter (keeps nd)).length : Int)), (l.length : Int) - ((l.filter (keeps nd)).length : Int)) := by
  intro n
  induction n with
  | zero =>
    intro j k acc hj hk ha
    obtain ⟨k, rfl⟩ := succ_of_lt (show 0 < k by omega)
    have e : l.take j = l := List.take_of_length_le (by omega)
    rw [e] at ha
    have hle : acc.length ≤ l.length := by rw [ha]; exact List.length_filter_le _ _
    simp only [tillerref16_Cut.l0]
    rw [if_neg (by omega), List.length_map, List.length_map, w64 (x := (l.length : Int) - (acc.length : Int)) (by omega) (by omega), w64 (x := c + ((l.length : Int) - (acc.length : Int))) (by omega) (by omega), ← ha]
  | succ n ih =>
    intro j k acc hj hk ha
    obtain ⟨k, rfl⟩ := succ_of_lt (show 0 < k by omega)
    have hjl : j < l.length := by omega
    have hle : acc.length ≤ j := by
      rw [ha]
      refine Nat.le_trans (List.length_filter_le _ _) ?_
      rw [List.length_take]
      omega
    have hf := filter_next l j hjl nd
    simp only [tillerref16_Cut.l0]
    rw [if_pos (by omega), if_pos (by omega), if_pos (by rw [List.length_map]; omega), w64 (by omega) (by omega), ref_at l j hjl, ← Int.natCast_one, ← Int.natCast_add]
    by_cases e : (pcl l j).f0 = nd
    · rw [if_pos e, List.append_nil, ← ha] at hf
      rw [if_pos (show (cv (pcl l j)).f0 = nd from e)]
      exact ih (j + 1) k acc (by omega) (by omega) hf.symm
    · rw [if_neg e, ← ha] at hf
      rw [if_neg (show ¬ (cv (pcl l j)).f0 = nd from e), if_pos (by rw [List.length_map]; omega)]
      have := ih (j + 1) k (acc ++ [pcl l j]) (by omega) (by omega) hf.symm
      rw [List.map_append] at this
      exact this
theorem ref_cut (k : Nat) (l : List PC) (nd c : Int) (hl : l.length ≤ 256) (hc : 0 ≤ c ∧ c ≤ 1000000000) (hk : l.length < k) :
    tillerref16_Cut.f k (l.map cv) c nd = some ((nCut ⟨l, c⟩ nd).1.way.map cv, (nCut ⟨l, c⟩ nd).1.lost, (nCut ⟨l, c⟩ nd).2) := by
  unfold tillerref16_Cut.f
  rw [List.length_map]
  exact cut_from l nd c (by omega) hc l.length 0 k [] (by omega) hk rfl
end Go.Proofs.Ytmcdgachfkkpeaa.ONet
