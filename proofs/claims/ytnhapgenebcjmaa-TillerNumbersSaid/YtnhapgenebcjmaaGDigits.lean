/- fix.digits, walked by hand: a loop over a string's bytes. -/
import Derived.Test.YtnhapgenebcjmaaGText
import Derived.Laws.IdiomStrings
set_option linter.unusedVariables false
set_option linter.unusedSimpArgs false
namespace Go.Proofs.Ytnhapgenebcjmaa.GDigits
open Go.Proofs Go.RowKit Go.Proofs.YtnhapgenebcjmaaW.PrintWords Go.Proofs.YtnhapgenebcjmaaW.PrintLast Go.Proofs.YtnhapgenebcjmaaW.PrintMore
/-- A string's bytes, as numbers. -/
def bts (s : ByteArray) : List Int := s.data.toList.map fun b => (b.toNat : Int)
theorem bts_len (s : ByteArray) : (bts s).length = s.size := by simp [bts]
/-- What '[]byte(s)' lays: its cells. -/
theorem conv_cells (w : World) (s : ByteArray) (c : Nat) (fr : Nat × Nat) (j : Nat) (hj : j < s.size) : ((w.alloc (.cells (bytesRow s c) 5 fr)).drew).cell? ⟨w.heap.size, j, none⟩ = some (.int .u8 ((bts s).getD j 0)) := by
  have h : ((w.alloc (.cells (bytesRow s c) 5 fr)).drew).heap[w.heap.size]? = some (.cells (bytesRow s c) 5 fr) := by
    show (w.heap.push (.cells (bytesRow s c) 5 fr))[w.heap.size]? = _
    simp
  unfold World.cell?
  rw [h]
  have hl : j < s.data.size := hj
  have h2 : (bytesRow s c)[j]? = some (.int .u8 ((s.data[j]'hl).toNat : Int)) := by
    unfold bytesRow
    rw [Array.getElem?_append_left (by simpa using hl), Array.getElem?_map, Array.getElem?_eq_getElem hl]
    rfl
  have h3 : (bts s).getD j 0 = ((s.data[j]'hl).toNat : Int) := by
    unfold bts
    rw [List.getD_eq_getElem?_getD, List.getElem?_map, Array.getElem?_toList, Array.getElem?_eq_getElem hl]
    rfl
  rw [h3]
  simpa using h2
def dgt (c : Int) : Bool := decide (48 ≤ c) && decide (c ≤ 57)
def fix_digits.f (s : ByteArray) (most : Int) : Option Bool := if s.size ≤ 1000000 then some ((bts s).all dgt && (decide (s.size ≠ 0) && decide ((s.size : Int) ≤ most))) else none
set_option maxHeartbeats 1000000 in
set_option maxRecDepth 100000 in
theorem digits.walk (s : ByteArray) (hs : s.size ≤ 1000000) (most : Int) (w : World) : Calls Try.prog 34 #[.string s, .int .i64 most] w fun e w' => e = .returned (.bool ((bts s).all dgt && (decide (s.size ≠ 0) && decide ((s.size : Int) ≤ most)))) ∧ Below w.heap.size w w' := by
  have hcv := fun w_ => run_bytes_of_string (P := Try.prog) w_ 9 48 5 s Try.underlying9 Try.underlying48 Try.underlying5
  obtain ⟨R, hR⟩ : ∃ R, ((bts s).all dgt && (decide (s.size ≠ 0) && decide ((s.size : Int) ≤ most))) = R := ⟨_, rfl⟩
  rw [hR]
  have HR := Aside0.mk hR
  clear hR
  go_enter Try.func34, Try.ntmps34
  go_wp2
  have hcell := fun j hj => conv_cells w s (grownCap w s.size 0 5) ((bytesRow s (grownCap w s.size 0 5)).size, (bytesRow s (grownCap w s.size 0 5)).size + 1) j hj
  have hB0 : Below w.heap.size w ((w.alloc (.cells (bytesRow s (grownCap w s.size 0 5)) 5 ((bytesRow s (grownCap w s.size 0 5)).size, (bytesRow s (grownCap w s.size 0 5)).size + 1))).drew) := (below_alloc (Below.refl _ _) _).drew
  clear hcv
  go_loopg [10] s.size (fun kq v10 w' => ∃ (i : Nat), v10 = .int .i64 (i : Int) ∧ Aside0 (i + kq = s.size) ∧ Aside0 (((bts s).drop i).all dgt = (bts s).all dgt) ∧ Aside0 (∀ j, j < s.size → w'.cell? ⟨w.heap.size, j, none⟩ = some (.int .u8 ((bts s).getD j 0))) ∧ Aside0 (Below w.heap.size w w'))
  case atStart => exact ⟨0, rfl, ⟨Nat.zero_add _⟩, ⟨rfl⟩, ⟨hcell⟩, ⟨hB0⟩⟩
  case round =>
    clear hcell hB0
    obtain ⟨i, rfl, HI, HA, HC, HB⟩ := hrel
    have hi := HI.out
    cases gk with
    | zero =>
      have b1 : decide ((i : Int) < (s.size : Int)) = false := decide_eq_false (by omega)
      have ha := HA.out
      rw [List.drop_eq_nil_of_le (by rw [bts_len]; omega), List.all_nil] at ha
      have HA2 := Aside0.mk ha
      clear ha
      have hz1 : s.toList.length = s.size := by rw [ByteArray.toList_eq]; simp
      by_cases hz : s.toList = []
      · rw [hz, List.length_nil] at hz1
        have hz2 := Aside0.mk hz1
        clear hz1
        go_wp2
        go_ret
        refine ⟨?_, HB.out⟩
        show Ending.returned (.bool false) = _
        rw [← HR.out, decide_eq_false (show ¬ s.size ≠ 0 by have := hz2.out; omega), Bool.false_and, Bool.and_false]
      · have hz3 : s.size ≠ 0 := fun h0 => hz (List.eq_nil_of_length_eq_zero (by omega))
        have hz2 := Aside0.mk hz3
        have hz4 := Aside0.mk hz
        clear hz1 hz3
        go_wp2
        go_ret
        refine ⟨?_, HB.out⟩
        show Ending.returned (.bool (!s.toList.isEmpty && decide ((s.size : Int) ≤ most))) = _
        have hE : s.toList.isEmpty = false := by
          cases hq : s.toList with
          | nil => exact absurd hq hz4.out
          | cons a b => rfl
        rw [← HR.out, ← HA2.out, decide_eq_true hz2.out, hE]
        rfl
    | succ k =>
      have hil : i < s.size := by omega
      have b1 : decide ((i : Int) < (s.size : Int)) = true := decide_eq_true (by omega)
      have hd : (bts s).drop i = (bts s).getD i 0 :: (bts s).drop (i + 1) := by
        rw [List.drop_eq_getElem_cons (by rw [bts_len]; exact hil), List.getD_eq_getElem?_getD, List.getElem?_eq_getElem (by rw [bts_len]; exact hil)]
        rfl
      have ha := HA.out
      rw [hd, List.all_cons] at ha
      have hc := HC.out i hil
      have hr : 0 ≤ (bts s).getD i 0 ∧ (bts s).getD i 0 < 256 := by
        rw [List.getD_eq_getElem?_getD, List.getElem?_eq_getElem (by rw [bts_len]; exact hil)]
        simp [bts]
        have := (s.data[i]'hil).toNat_lt
        omega
      have HA2 := Aside0.mk ha
      clear ha hd
      generalize (bts s).getD i 0 = c at hc hr HA2
      by_cases c1 : c < 48
      · have b2 : decide (c < 48) = true := decide_eq_true c1
        go_wp2
        go_ret
        refine ⟨?_, HB.out⟩
        show Ending.returned (.bool false) = _
        rw [← HR.out, ← HA2.out, show dgt c = false by unfold dgt; rw [decide_eq_false (by omega)]; rfl]
        rfl
      · have b2 : decide (c < 48) = false := decide_eq_false c1
        by_cases c2 : c > 57
        · have b3 : decide (57 < c) = true := decide_eq_true c2
          go_wp2
          go_ret
          refine ⟨?_, HB.out⟩
          show Ending.returned (.bool false) = _
          rw [← HR.out, ← HA2.out, show dgt c = false by unfold dgt; rw [decide_eq_false (show ¬ c ≤ 57 by omega), Bool.and_false]]
          rfl
        · have b3 : decide (57 < c) = false := decide_eq_false c2
          go_wp2
          go_roundg k
          case measure => omega
          case rel =>
            refine ⟨i + 1, rfl, ⟨by omega⟩, ⟨?_⟩, HC, HB⟩
            have := HA2.out
            rw [show dgt c = true by unfold dgt; rw [decide_eq_true (by omega), decide_eq_true (by omega)]; rfl, Bool.true_and] at this
            exact this
theorem fix_digits.calls (a0 : ByteArray) (a1 : Int) (r : Bool) (w : World) (h : fix_digits.f a0 a1 = some r) : Calls Try.prog 34 #[.string a0, .int .i64 a1] w fun e w' => e = .returned (.bool r) ∧ Below w.heap.size w w' := by
  unfold fix_digits.f at h
  split at h
  · rename_i hs
    cases h
    exact digits.walk a0 hs a1 w
  · cases h
end Go.Proofs.Ytnhapgenebcjmaa.GDigits
