/- (*Router).Open, (*Router).Count, walked by hand. -/
import Derived.Test.YthihgiaflbaigaaORNext
set_option linter.unusedVariables false
set_option linter.unusedSimpArgs false
namespace Go.Proofs.Ythihgiaflbaigaa.ORouter
open Go.RowKit Go.Proofs.YthihgiaflbaigaaW.PrintWords Go.Proofs.YthihgiaflbaigaaW.PrintLast Go.Proofs.YthihgiaflbaigaaW.PrintMore Go.Proofs.Ythihgiaflbaigaa.GQ Go.Proofs.Ythihgiaflbaigaa.OMap Go.Proofs.Ythihgiaflbaigaa.UTrie Go.Proofs.Ythihgiaflbaigaa.OTrie
/-- How many are open. -/
def opn (es : List PE) : Nat := es.countP (fun e => e.en == 0)
theorem opn_take (es : List PE) (i : Nat) (hi : i < es.length) : opn (es.take (i + 1)) = opn (es.take i) + (if (es.getD i zP).en = 0 then 1 else 0) := by
  unfold opn
  rw [List.take_succ_eq_append_getElem hi, List.countP_append, List.getD_eq_getElem?_getD, List.getElem?_eq_getElem hi, Option.getD_some]
  by_cases h : es[i].en = 0
  · rw [if_pos h, List.countP_cons_of_pos (by simpa using h)]; rfl
  · rw [if_neg h, List.countP_cons_of_neg (by simpa using h)]; rfl
theorem RT.entC {W : World} {g lo : Nat} {S : RX} {L : Lo} (h : RT W g lo S L) : Kd.C kE W L.AE L.ms.length L.ms := (Kd.R_reads' h.ent).2.2
theorem rdE_nat (xs : List ME) (i : Nat) : rdE xs (i : Int) = xs.getD i zM := by unfold rdE; rw [Int.toNat_natCast]
set_option maxHeartbeats 4000000 in
set_option maxRecDepth 100000 in
theorem open_calls (g lo : Nat) (S : RX) (L : Lo) (w : World) (h : RT w g lo S L) (hn : S.es.length ≤ 1048576) :
    Calls Try.prog 26 #[.pointer (some ⟨g, 0, none⟩)] w fun e w' => e = .returned (.int .i64 (opn S.es)) ∧ Below w.heap.size w w' := by
  obtain ⟨n, hnn⟩ : ∃ n, L.ms.length = n := ⟨_, rfl⟩
  have HN := Aside0.mk (And.intro hnn (show S.es.length = n from by rw [← h.len]; exact hnn))
  have H := Aside0.mk h
  have LN := Aside0.mk (show n ≤ 1048576 from by rw [← hnn, h.len]; exact hn)
  have x17 := (h.box.cell 17 rfl).1
  rw [hnn] at x17
  obtain ⟨AE, hAE⟩ : ∃ AE, L.AE = AE := ⟨_, rfl⟩
  rw [hAE] at x17
  have HA := Aside0.mk hAE
  clear h hn hnn hAE
  go_enter Try.func26, Try.ntmps26
  go_upto_region 3 with (fail)
  go_loopg [3, 11] n (fun kq v3 v11 W => ∃ (j : Nat), v11 = .int .i64 (j : Int) ∧ v3 = .int .i64 (opn (S.es.take j)) ∧ Aside0 (j + kq = n) ∧ Aside0 (Below w.heap.size w W))
  case atStart => exact ⟨0, rfl, rfl, ⟨Nat.zero_add _⟩, ⟨Below.refl _ _⟩⟩
  case round =>
    obtain ⟨j, rfl, rfl, HJ, BJ⟩ := hrel
    have hj := HJ.out
    have ln := LN.out
    cases gk with
    | succ k =>
      have e1 : decide ((j : Int) < (n : Int)) = true := decide_eq_true (by omega)
      have e3 : j < n := by omega
      have e4 : decide (j < n) = true := decide_eq_true e3
      have e5 : (j : Int) < (n : Int) := by omega
      obtain ⟨ad, hA, y0, y1, y2, y3, y4, y5, y6, y7, y8⟩ := at_E (show Kd.C kE wr AE n L.ms from by have := Kd.C_below H.out.entC BJ.out; rwa [HN.out.1, HA.out] at this) (j : Int) (by omega) e5
      subst hA
      rw [Int.toNat_natCast, rdE_nat] at y0 y1 y2 y3 y4 y5 y6 y7 y8
      have OT := opn_take S.es j (by rw [HN.out.2]; exact e3)
      have EN := (H.out.inn j (by rw [HN.out.2]; exact e3)).en
      obtain ⟨m, hm⟩ : ∃ m, L.ms.getD j zM = m := ⟨_, rfl⟩
      rw [hm] at y0 y1 y2 y3 y4 y5 y6 y7 y8 EN
      rw [EN] at y7
      obtain ⟨en, hen⟩ : ∃ en, (S.es.getD j zP).en = en := ⟨_, rfl⟩
      rw [hen] at y7 OT
      obtain ⟨oc, hoc⟩ : ∃ oc, opn (S.es.take j) = oc := ⟨_, rfl⟩
      have OL := Aside0.mk (show oc ≤ 1048576 from by rw [← hoc]; unfold opn; have := List.countP_le_length (p := fun e : PE => e.en == 0) (l := S.es.take j); rw [List.length_take] at this; omega)
      rw [hoc] at OT ⊢
      have OT := Aside0.mk OT
      unfold SL.v at y4 y8
      clear hj ln hm EN hen hoc
      by_cases he : en = 0
      · have f1 : (en == 0) = true := beq_iff_eq.mpr he
        have OU := Aside0.mk (OT.out.trans (by rw [if_pos he]))
        subst he
        go_wp2
        go_roundg k
        case measure => omega
        case rel => exact ⟨j + 1, by rw [show wrap64 ((j : Int) + 1) = (j : Int) + 1 from by have h9 := LN.out; unfold wrap64; omega]; rfl, by rw [OU.out]; have h8 := OL.out; rw [show wrap64 ((oc : Int) + 1) = (oc : Int) + 1 from by unfold wrap64; omega]; rfl, ⟨by have := HJ.out; omega⟩, ⟨below_alloc BJ.out _⟩⟩
      · have f1 : (en == 0) = false := beq_eq_false_iff_ne.mpr he
        have OU := Aside0.mk (OT.out.trans (by rw [if_neg he]))
        clear he
        go_wp2
        go_roundg k
        case measure => omega
        case rel => exact ⟨j + 1, by rw [show wrap64 ((j : Int) + 1) = (j : Int) + 1 from by have h9 := LN.out; unfold wrap64; omega]; rfl, by rw [OU.out]; rfl, ⟨by have := HJ.out; omega⟩, ⟨below_alloc BJ.out _⟩⟩
    | zero =>
      have e1 : decide ((j : Int) < (n : Int)) = false := decide_eq_false (by omega)
      have e3 : ¬ j < n := by omega
      have e4 : decide (j < n) = false := decide_eq_false e3
      have OF := Aside0.mk (show S.es.take j = S.es from List.take_of_length_le (by rw [HN.out.2]; omega))
      clear hj ln
      go_wp2
      go_ret
      rw [OF.out]
      exact ⟨rfl, BJ.out⟩
theorem count_calls (g lo : Nat) (S : RX) (L : Lo) (w : World) (h : RT w g lo S L) :
    Calls Try.prog 27 #[.pointer (some ⟨g, 0, none⟩)] w fun e w' => e = .returned (.int .i64 S.es.length) ∧ w = w' := by
  have x17 := (h.box.cell 17 rfl).1
  have HL := Aside0.mk h.len
  clear h
  go_enter Try.func27, Try.ntmps27
  go_wp2
  go_ret
  rw [← HL.out]
  exact ⟨rfl, rfl⟩
end Go.Proofs.Ythihgiaflbaigaa.ORouter
