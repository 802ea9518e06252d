/- strings.Cut at a separator of one byte, walked by hand. -/
import Derived.Test.YtnhapgenebcjmaaLCut
import Derived.Test.YtnhapgenebcjmaaWExtra
import Derived.Deep.RegionWith
set_option linter.unusedVariables false
set_option linter.unusedSimpArgs false
namespace Go.Proofs.Ytnhapgenebcjmaa.GCut
open Go.Proofs Go.RowKit Go.Proofs.YtnhapgenebcjmaaW.PrintWords Go.Proofs.YtnhapgenebcjmaaW.PrintLast Go.Proofs.YtnhapgenebcjmaaW.PrintMore
set_option maxHeartbeats 1000000 in
set_option maxRecDepth 100000 in
theorem Index1 (s : ByteArray) (hs : s.size ≤ 281474976710656) (w : World) : Calls Try.prog 44 #[.string s, .string ⟨#[46]⟩] w fun e w' => e = .returned (.int .i64 (Lib.indexByte s.data.toList 46)) ∧ Drawn0 w w' := by
  go_enter Try.func44, Try.ntmps44
  by_cases hc : [46] = s.toList
  · have b1 : ([46] == s.toList) = true := beq_iff_eq.2 hc
    have hc := Aside0.mk hc
    go_wp2
    all_goals
      go_ret
      refine ⟨?_, Drawn0.refl _⟩
      rw [← ByteArray.toList_eq, ← hc.out]
      rfl
  · have b1 : ([46] == s.toList) = false := beq_eq_false_iff_ne.2 hc
    have hc := Aside0.mk hc
    go_wp2_with (go_at_call 45; refine (GLib.stringslite_IndexByte s _ _).mono ?_; rintro e w1 ⟨rfl, rfl⟩)
    go_ret
    exact ⟨rfl, Drawn0.refl _⟩
/-- The text around its first point. -/
def cutAt (s : ByteArray) : ByteArray × ByteArray × Bool := if 0 ≤ Lib.indexByte s.data.toList 46 then (s.extract 0 (Lib.indexByte s.data.toList 46).toNat, s.extract ((Lib.indexByte s.data.toList 46).toNat + 1) s.size, true) else (s, ⟨#[]⟩, false)
set_option maxHeartbeats 1000000 in
set_option maxRecDepth 100000 in
theorem Cut1 (s : ByteArray) (hs : s.size ≤ 281474976710656) (w : World) : Calls Try.prog 40 #[.string s, .string ⟨#[46]⟩] w fun e w' => e = .returned (.tuple #[.string (cutAt s).1, .string (cutAt s).2.1, .bool (cutAt s).2.2]) ∧ Drawn0 w w' := by
  unfold cutAt
  obtain ⟨i, hi⟩ : ∃ i, Lib.indexByte s.data.toList 46 = i := ⟨_, rfl⟩
  have hI := Index1 s hs
  rw [hi] at hI
  rw [hi]
  have hi := Aside0.mk hi
  by_cases h0 : 0 ≤ i
  · have b1 : decide (i ≥ 0) = true := decide_eq_true h0
    obtain ⟨o, rfl⟩ := Int.eq_ofNat_of_zero_le h0
    have hlt : o < s.size := by
      have := (Lib.indexByte_some hi.out).1
      have := (List.getElem?_eq_some_iff.1 this).1
      simpa using this
    have l1 : (o : Int) ≤ (s.size : Int) := by omega
    have l2 : (o : Int) + 1 ≤ (s.size : Int) := by omega
    have l3 : wrap64 ((o : Int) + 1) = (o : Int) + 1 := by unfold wrap64; omega
    rw [if_pos h0]
    go_enter Try.func40, Try.ntmps40
    go_wp2_with (go_at_call 44; refine (hI _).mono ?_; rintro e w1 ⟨rfl, hd⟩)
    obtain ⟨n, rfl⟩ := hd.out
    go_quiet (fail)
    go_wp2
    go_ret3
    exact ⟨rfl, (hd.step nq)⟩
  · have b1 : decide (i ≥ 0) = false := decide_eq_false h0
    rw [if_neg h0]
    go_enter Try.func40, Try.ntmps40
    go_wp2_with (go_at_call 44; refine (hI _).mono ?_; rintro e w1 ⟨rfl, hd⟩)
    go_ret3
    exact ⟨rfl, hd⟩
set_option maxHeartbeats 1000000 in
set_option maxRecDepth 100000 in
theorem strings_Cut1 (s : ByteArray) (hs : s.size ≤ 281474976710656) (w : World) : Calls Try.prog 33 #[.string s, .string ⟨#[46]⟩] w fun e w' => e = .returned (.tuple #[.string (cutAt s).1, .string (cutAt s).2.1, .bool (cutAt s).2.2]) ∧ Drawn0 w w' := by
  go_enter Try.func33, Try.ntmps33
  go_wp2_with (go_at_call 40; refine (Cut1 s hs _).mono ?_; rintro e w1 ⟨rfl, hd⟩)
  go_ret3
  exact ⟨rfl, hd⟩
def strings_Cut.f (s sep : ByteArray) : Option (ByteArray × ByteArray × Bool) := if sep.data = #[46] then if s.size ≤ 281474976710656 then some (cutAt s) else none else none
theorem strings_Cut.calls (a0 a1 : ByteArray) (r1 r2 : ByteArray) (r3 : Bool) (w : World) (h : strings_Cut.f a0 a1 = some (r1, r2, r3)) : Calls Try.prog 33 #[.string a0, .string a1] w fun e w' => e = .returned (.tuple #[.string r1, .string r2, .bool r3]) ∧ Drawn0 w w' := by
  obtain ⟨d⟩ := a1
  unfold strings_Cut.f at h
  split at h
  · rename_i h1
    subst h1
    split at h
    · rename_i h2
      have h := Option.some.inj h
      have := strings_Cut1 a0 h2 w
      rw [h] at this
      exact this
    · cases h
  · cases h
def strings_CutPrefix.f (s p : ByteArray) : Option (ByteArray × Bool) := some (⟨(Lib.trimPrefix s.data.toList p.data.toList).toArray⟩, Lib.hasPrefix s.data.toList p.data.toList)
theorem strings_CutPrefix.calls (a0 a1 : ByteArray) (r1 : ByteArray) (r2 : Bool) (w : World) (h : strings_CutPrefix.f a0 a1 = some (r1, r2)) : Calls Try.prog 32 #[.string a0, .string a1] w fun e w' => e = .returned (.tuple #[.string r1, .bool r2]) ∧ Drawn0 w w' := by
  unfold strings_CutPrefix.f at h
  simp only [Option.some.injEq, Prod.mk.injEq] at h
  obtain ⟨rfl, rfl⟩ := h
  refine (GLib.strings_CutPrefix a0 a1 w).mono ?_
  rintro e w' ⟨rfl, rfl⟩
  exact ⟨rfl, Drawn0.refl _⟩
end Go.Proofs.Ytnhapgenebcjmaa.GCut
