/- (*Router).Done, walked by hand. -/
import Derived.Test.YthihgiaflbaigaaGQx2
import Derived.Test.YthihgiaflbaigaaORSet
set_option linter.unusedVariables false
set_option linter.unusedSimpArgs false
namespace Go.Proofs.Ythihgiaflbaigaa.ORouter
open Go.RowKit Go.Proofs.YthihgiaflbaigaaW.PrintWords Go.Proofs.YthihgiaflbaigaaW.PrintLast Go.Proofs.YthihgiaflbaigaaW.PrintMore Go.Proofs.Ythihgiaflbaigaa.GQ Go.Proofs.Ythihgiaflbaigaa.OMap Go.Proofs.Ythihgiaflbaigaa.UTrie Go.Proofs.Ythihgiaflbaigaa.OTrie
/-- What Done does. -/
def doneR (S : RX) (req tr : Int) (toks : List Int) : RX × Int :=
  if req < 0 ∨ (S.es.length : Int) ≤ req then (S, 8)
  else if (S.es.getD req.toNat zP).en ≠ 0 then (S, 9)
  else if tr < 0 ∨ (S.es.getD req.toNat zP).tr < tr then (S, 1)
  else ({ S with es := S.es.set req.toNat { S.es.getD req.toNat zP with en := 1, ans := toks } }, 0)
set_option maxHeartbeats 8000000 in
set_option maxRecDepth 100000 in
theorem done_calls (g lo : Nat) (S : RX) (L : Lo) (req tr : Int) (A : Option Addr) (c : Nat) (l : List Int) (w : World) (h : RT w g lo S L) (hF : Kd.F kI w (fun k => ¬ mine L k) A l.length l) (hc : l.length ≤ c) (hl : l.length ≤ 1000) (hes : S.es.length ≤ 1048576) :
    Calls Try.prog 12 #[.pointer (some ⟨g, 0, none⟩), .int .i64 req, .int .i64 tr, .slice A l.length c] w fun e w' => e = .returned (.int .i64 (doneR S req tr l).2) ∧ ∃ L', L'.N = L.N ∧ RT w' g lo (doneR S req tr l).1 L' ∧ RPost lo w w' L L' := by
  obtain ⟨n, hnn⟩ : ∃ n, L.ms.length = n := ⟨_, rfl⟩
  have HN := Aside0.mk (show S.es.length = n ∧ L.ms.length = n from ⟨by rw [← h.len]; exact hnn, hnn⟩)
  have H := Aside0.mk h
  have LN := Aside0.mk (show n ≤ 1048576 from by rw [← hnn, h.len]; exact hes)
  by_cases hr : req < 0 ∨ (n : Int) ≤ req
  · have x17 := (h.box.cell 17 rfl).1
    rw [hnn] at x17
    have SR := Aside0.mk (show doneR S req tr l = (S, 8) from by unfold doneR; rw [if_pos (by rw [HN.out.1]; exact hr)])
    have e12 : decide (req < 0) = true ∨ (decide (req < 0) = false ∧ decide ((n : Int) ≤ req) = true) := by
      by_cases q : req < 0
      · exact .inl (decide_eq_true q)
      · exact .inr ⟨decide_eq_false q, decide_eq_true (by omega)⟩
    clear h hF hc hl hes hnn hr
    go_enter Try.func12, Try.ntmps12
    rcases e12 with e1 | ⟨e1, e2⟩
    all_goals (
      go_wp2
      go_ret
      rw [SR.out]
      exact ⟨rfl, L, rfl, H.out, RPost.refl⟩)
  · obtain ⟨i, rfl⟩ : ∃ i : Nat, req = (i : Int) := ⟨req.toNat, by omega⟩
    have hi : i < n := by omega
    have hil : i < L.ms.length := by omega
    obtain ⟨hAE, hb1, hb2⟩ := h.entForm (by omega)
    have x17 := (h.box.cell 17 rfl).1
    rw [hnn, hAE] at x17
    obtain ⟨b, hb⟩ : ∃ b, L.b = b := ⟨_, rfl⟩
    obtain ⟨m, hm⟩ : ∃ m, L.ms.getD i zM = m := ⟨_, rfl⟩
    obtain ⟨e, he⟩ : ∃ e, S.es.getD i zP = e := ⟨_, rfl⟩
    have EN := h.inn i (by rw [HN.out.1]; exact hi)
    rw [hm, he] at EN
    have EC := h.entCell i hil
    rw [hm, hb] at EC
    rw [hb] at x17
    have y1 : w.cell? ⟨b, i * 9 + 1, none⟩ = some (.int .i64 e.tr) := by rw [← EN.tr]; exact EC 1 _ rfl
    have y7 : w.cell? ⟨b, i * 9 + 7, none⟩ = some (.int .i64 e.en) := by rw [← EN.en]; exact EC 7 _ rfl
    have y8 : w.cell? ⟨b, i * 9 + 8, none⟩ = some (.slice m.an.1 m.an.2.1 m.an.2.2) := EC 8 _ rfl
    have SRU := Aside0.mk (show doneR S (i : Int) tr l = if e.en ≠ 0 then (S, 9) else if tr < 0 ∨ e.tr < tr then (S, 1) else ({ S with es := S.es.set i { e with en := 1, ans := l } }, 0) from by unfold doneR; rw [if_neg (by rw [HN.out.1]; exact hr), Int.toNat_natCast, he])
    have HM := Aside0.mk (And.intro hm (And.intro he hb))
    have HI := Aside0.mk hi
    have HF := Aside0.mk hF
    have HX := Aside0.mk (And.intro hc hl)
    have e1 : decide ((i : Int) < 0) = false := decide_eq_false (by omega)
    have e2 : decide ((n : Int) ≤ (i : Int)) = false := decide_eq_false (by omega)
    have e3 : decide (n ≤ i) = false := decide_eq_false (by omega)
    have e4 : ¬ n ≤ i := by omega
    have e5 : (i : Int) < (n : Int) := by omega
    clear h hF hc hl hes hnn hr hil hAE hb1 hb2 hm he hb EN EC
    go_enter Try.func12, Try.ntmps12
    go_upto_if 27 with (fail)
    by_cases hen : e.en = 0
    · have f1 : (e.en == 0) = true := beq_iff_eq.mpr hen
      have f2 : (e.en != 0) = false := bne_eq_false_iff_eq.mpr hen
      have HEN := Aside0.mk hen
      clear e1 e2 e3 e4
      by_cases ht : tr < 0 ∨ e.tr < tr
      · have SR := Aside0.mk (SRU.out.trans (by rw [if_neg (fun q => q HEN.out), if_pos ht]))
        have e12 : decide (tr < 0) = true ∨ (decide (tr < 0) = false ∧ decide (e.tr < tr) = true) := by
          by_cases q : tr < 0
          · exact .inl (decide_eq_true q)
          · exact .inr ⟨decide_eq_false q, decide_eq_true (by omega)⟩
        clear ht hen
        rcases e12 with e1 | ⟨e1, e2⟩
        all_goals (
          go_wp2
          go_ret
          rw [SR.out]
          exact ⟨rfl, L, rfl, H.out, RPost.refl⟩)
      · have SR := Aside0.mk (SRU.out.trans (by rw [if_neg (fun q => q HEN.out), if_neg ht]))
        have g1 : decide (tr < 0) = false := decide_eq_false (by omega)
        have g2 : decide (e.tr < tr) = false := decide_eq_false (by omega)
        have g3 : ¬ tr < 0 := by omega
        have g4 : ¬ e.tr < tr := by omega
        clear ht hen
        have CL := Aside0.mk (slices_Clone_int_int.calls A c l l w (Kd.F_now HF.out) HX.out.1 (clone_eq l (by have := HX.out.2; omega)))
        have nz : 0 < L.ms.length := by have := HN.out.2; have := HI.out; omega
        go_upto_region 9 with (go_at_call 30; go_loud ((with_reducible refine CL.out.mono ?_); rintro e2 w2 ⟨v0, rfl, hR, hb⟩; obtain ⟨A0, c0, rfl⟩ := Kd.R_slice hR; have RC := Aside0.mk (show Kd.R kI 3 w2 w.heap.size (fun _ => True) (.slice A0 l.length c0) l from hR); have R2 := Aside0.mk (H.out.below hb); have P2 := Aside0.mk (RPost.of_below (L := L) H.out.size hb); have z7 := R2.out.entFrozen nz (i * 9 + 7); have z8 := R2.out.entFrozen nz (i * 9 + 8); rw [HM.out.2.2] at z7 z8; replace y7 := pw_cell_below hb y7; replace y8 := pw_cell_below hb y8; clear hR hb))
        have EN2 := R2.out.inn i (by rw [HN.out.1]; exact HI.out)
        rw [HM.out.1, HM.out.2.1] at EN2
        have D1 := Aside0.mk (R2.out.entSet P2.out i (by rw [HN.out.1]; exact HI.out) 7 (by omega) (.int .i64 1) { m with en := 1 } { e with en := 1 } (fun _ => False) (by rw [HM.out.1]; rfl) { EN2.mono (ok' := fun k => L.I k ∨ False) (fun k hk => .inl hk) with en := rfl } (fun k hk => hk.elim) (fun k hk => hk.elim))
        have hln : (S.es.set i { e with en := 1 }).length = n := by rw [List.length_set, HN.out.1]
        have EN3 := D1.out.1.inn i (by show i < (S.es.set i _).length; rw [hln]; exact HI.out)
        simp only at EN3
        rw [getD_set_at _ _ _ _ _ (by rw [HN.out.2]; exact HI.out), if_pos rfl, getD_set_at _ _ _ _ _ (by rw [HN.out.1]; exact HI.out), if_pos rfl] at EN3
        have szb : L.b < w.heap.size := H.out.hi L.b (.inr (.inr ⟨nz, rfl⟩))
        have D2 := Aside0.mk (D1.out.1.entSet D1.out.2 i (by show i < (S.es.set i _).length; rw [hln]; exact HI.out) 8 (by omega) (.slice A0 l.length c0) { m with en := 1, an := (A0, l.length, c0) } { e with en := 1, ans := l } (fun k => w.heap.size ≤ k ∧ k < w2.heap.size) (by show _ = ((L.ms.set i _).getD i zM).cells.set 8 _; rw [getD_set_at _ _ _ _ _ (by rw [HN.out.2]; exact HI.out), if_pos rfl]; rfl)
          { EN3.mono (ok' := fun k => (L.I k ∨ False) ∨ (w.heap.size ≤ k ∧ k < w2.heap.size)) (fun k hk => .inl hk) with an := ⟨rfl, (Kd.R_reads' RC.out).2.1, Kd.F_mono (Kd.F_far (p := ⟨L.b, i * 9 + 7, none⟩) (Kd.R_F (Kd.R_bound RC.out)) (fun k hk => by have h3 := hk.2.1; show k ≠ L.b; omega) (.int .i64 1)) (fun k hk => .inr ⟨hk.2.1, hk.2.2.1⟩)⟩ }
          (fun k hk => ⟨Nat.lt_of_lt_of_le hk.2 ((Below.refl 0 w2).setCell (p := ⟨L.b, i * 9 + 7, none⟩) (Nat.zero_le _) _).size, fun hm => by
            have hm2 : mine L k := by
              rcases hm with q | q | q
              · exact .inl q
              · exact .inr (.inl q)
              · exact .inr (.inr ⟨nz, q.2⟩)
            have := H.out.hi k hm2
            omega⟩) (fun k hk => hk.1))
        clear EN2 EN3 y1 y7 y8 z7 z8 x17 g1 g2 g3 g4 f1 f2
        go_wp2
        go_ret
        rw [SR.out]
        obtain ⟨r, p⟩ := D2.out
        have e0 : (S.es.set i { e with en := 1 }).set i { e with en := 1, ans := l } = S.es.set i { e with en := 1, ans := l } := List.set_set ..
        simp only [e0] at r
        simp only [HM.out.2.2] at r p
        exact ⟨rfl, _, by rfl, r, p⟩
    · have f1 : (e.en == 0) = false := beq_eq_false_iff_ne.mpr hen
      have f2 : (e.en != 0) = true := bne_iff_ne.mpr hen
      have SR := Aside0.mk (SRU.out.trans (if_pos hen))
      clear hen
      go_wp2
      go_ret
      rw [SR.out]
      exact ⟨rfl, L, rfl, H.out, RPost.refl⟩
end Go.Proofs.Ythihgiaflbaigaa.ORouter
