/- shows, walked by hand: the program's pool shows what the document's has. -/
import Derived.Test.YtmbbaalpeomnlaaODoesR
set_option linter.unusedVariables false
set_option linter.unusedSimpArgs false
namespace Go.Proofs.Ytmbbaalpeomnlaa.OTwo
open Go.RowKit Go.Proofs.YtmbbaalpeomnlaaW.PrintWords Go.Proofs.YtmbbaalpeomnlaaW.PrintLast Go.Proofs.YtmbbaalpeomnlaaW.PrintMore Go.Proofs.Ytmbbaalpeomnlaa.GQ Go.Proofs.Ytmbbaalpeomnlaa.OPool Go.Proofs.Ytmbbaalpeomnlaa.OInv Go.Proofs.Ytmbbaalpeomnlaa.UPoolR
theorem kidx_bound (key : Int) : ∀ (ps : List PG) (i : Nat), kidx key ps i = -1 ∨ ((i : Int) ≤ kidx key ps i ∧ kidx key ps i < (i : Int) + ps.length) := by
  intro ps
  induction ps with
  | nil => intro i; exact .inl rfl
  | cons p ps ih =>
    intro i
    simp only [kidx]
    split
    · right; simp; omega
    · rcases ih (i + 1) with h | ⟨h1, h2⟩
      · exact .inl h
      · right; simp; omega
set_option maxHeartbeats 16000000 in
set_option maxRecDepth 100000 in
theorem shows_calls (lo g : Nat) (S R : Nat → Prop) (A0 A1 : Option Addr) (c0 c1 : Nat) (X : PX) (hI : Inv X) (key : Int) (w0 w : World) (h : Two lo S R w0 w g X X (.slice A0 (rows X.pages).length c0) (.slice A1 X.idle.length c1)) :
    Calls Try.prog 20 #[.pointer (some ⟨g, 0, none⟩), .agg #[.slice A0 (rows X.pages).length c0, .slice A1 X.idle.length c1], .int .i64 key] w fun e w' => e = .returned (.bool true) ∧ Below w.heap.size w w' := by
  obtain ⟨_, _, r0, r1, hC0, hC1⟩ := h.ref.read
  have H := Aside0.mk (fun W (hb : Below w.heap.size w W) => h.more hb)
  have HI := Aside0.mk hI
  have HC := Aside0.mk (And.intro hC0 hC1)
  have PC := Aside0.mk (fun W (hb : Below w.heap.size w W) => counts_at lo _ g X W (h.more hb).pool)
  rw [needed_eq hI] at PC
  have DC := Aside0.mk (fun W (hb : Below w.heap.size w W) => tillerref12_Counts.calls 200 A0 c0 (rows X.pages) A1 c1 X.idle _ _ _ W (Kd.C_below hC0 hb) r0 (Kd.C_below hC1 hb) r1 (counts_eq hI 200 (by omega)))
  have DF := Aside0.mk (fun W (hb : Below w.heap.size w W) => tillerref12_Find.calls 200 A0 c0 (rows X.pages) A1 c1 X.idle key _ W (Kd.C_below hC0 hb) r0 (Kd.C_below hC1 hb) r1 (find_eq key X.pages X.idle hI.len 200 (by have := hI.len; omega)))
  have PF := Aside0.mk (fun W (hb : Below w.heap.size w W) => find_at lo _ g X key W (h.more hb).pool)
  have PR := Aside0.mk (fun W (hb : Below w.heap.size w W) (i : Int) => refs_at lo _ g X i W (h.more hb).pool)
  have PO := Aside0.mk (fun W (hb : Below w.heap.size w W) (i : Int) => open_at lo _ g X i W (h.more hb).pool)
  obtain ⟨j, hj⟩ : ∃ j, kidx key X.pages 0 = j := ⟨_, rfl⟩
  have KF : (findI key X.pages = 0 ∧ findB key X.pages = false ∧ j = -1) ∨ (findI key X.pages = j ∧ findB key X.pages = true ∧ 0 ≤ j) := by
    rcases kidx_bound key X.pages 0 with q | ⟨q1, q2⟩
    · exact .inl ⟨(find_no q).1, (find_no q).2, hj ▸ q⟩
    · obtain ⟨m, hm⟩ : ∃ m : Nat, kidx key X.pages 0 = (m : Int) := ⟨(kidx key X.pages 0).toNat, by omega⟩
      exact .inr ⟨by rw [(find_yes hm).1, ← hj, hm], (find_yes hm).2, by omega⟩
  rw [hj] at DF
  obtain ⟨F, hF⟩ : ∃ n, cfre X.pages = n := ⟨_, rfl⟩
  obtain ⟨N, hN⟩ : ∃ n, cneed X.pages = n := ⟨_, rfl⟩
  obtain ⟨n0, hn0⟩ : ∃ n, (rows X.pages).length = n := ⟨_, rfl⟩
  obtain ⟨n1, hn1⟩ : ∃ n, X.idle.length = n := ⟨_, rfl⟩
  have HN0 := Aside0.mk (show X.pages.length = n0 by rw [← rows_len]; exact hn0)
  simp only [hF, hN, hn1] at PC
  simp only [hF, hN, hn0, hn1] at DC
  simp only [hn0, hn1] at DF
  have b1 := below_alloc (Below.refl w.heap.size w) (.cells #[.slice A0 n0 c0, .slice A1 n1 c1] 43 (0, 0))
  have e1 := blk_new w (.cells #[.slice A0 n0 c0, .slice A1 n1 c1] 43 (0, 0))
  rw [hn0, hn1]
  have hl := hI.len
  have hn64 : n0 ≤ 64 := by rw [← hn0, rows_len]; exact hl
  have B1 := Aside0.mk b1
  have E1 := Aside0.mk e1
  have R0 := Aside0.mk hn0
  clear h hI hC0 hC1 r0 r1 hj hF hN hn0 hn1 b1 e1 hl
  rcases KF with ⟨k1, k2, k3⟩ | ⟨k1, k2, k3⟩
  all_goals
    simp only [k1, k2] at PF
    first | subst k3 | skip
    try have j1 : decide (j ≥ 0) = true := decide_eq_true k3
    try have j2 : decide (0 ≤ j) = true := decide_eq_true k3
    clear k1 k2
    go_enter Try.func20, Try.ntmps20
    go_upto_region 1 with (fail)
    generalize w.alloc (.cells #[.slice A0 n0 c0, .slice A1 n1 c1] 43 (0, 0)) = w1 at B1 E1 ⊢
    obtain ⟨E, hE⟩ : ∃ E, w.heap.size = E := ⟨_, rfl⟩
    simp only [hE] at E1 ⊢
    have x0 := blk_cell E1.out 0
    have x1 := blk_cell E1.out 1
    simp at x0 x1
    clear hE
    go_upto_region 7 with (first
      | (go_at_call 14; go_loud ((refine (PC.out w1 B1.out).mono ?_); rintro e w2 ⟨rfl, _, hb⟩; have B2 := Aside0.mk (below_step B1.out hb); have E2 := Aside0.mk (blk_below E1.out hb); clear x0 x1; have x0 := blk_cell E2.out 0; have x1 := blk_cell E2.out 1; simp at x0 x1; clear hb))
      | (go_at_call 31; go_loud ((refine (DC.out w2 B2.out).mono ?_); rintro e w3 ⟨rfl, hb⟩; have B3 := Aside0.mk (below_step B2.out hb); have E3 := Aside0.mk (blk_below E2.out hb); clear x0 x1; have x0 := blk_cell E3.out 0; have x1 := blk_cell E3.out 1; simp at x0 x1; clear hb))
      | (go_at_call 17; go_loud ((refine (PF.out w3 B3.out).mono ?_); rintro e w4 ⟨rfl, _, hb⟩; have B4 := Aside0.mk (below_step B3.out hb); have E4 := Aside0.mk (blk_below E3.out hb); clear x0 x1; have x0 := blk_cell E4.out 0; have x1 := blk_cell E4.out 1; simp at x0 x1; clear hb))
      | (go_at_call 32; go_loud ((refine (DF.out w4 B4.out).mono ?_); rintro e w5 ⟨rfl, hb⟩; have B5 := Aside0.mk (below_step B4.out hb); have E5 := Aside0.mk (blk_below E4.out hb); clear hb x0 x1)))
    clear PC DC DF PF B1 E1 B2 E2 B3 E3 B4 E4
    go_wp2
    go_loopg [16] (n0 + 2) (fun kq v16 w' => ∃ (i : Nat), v16 = .int .i64 ((i : Int) - 1) ∧ Aside0 (i + kq = n0 + 2) ∧ Aside0 (Below w.heap.size w w') ∧ Aside0 (w'.heap[E]? = some (.cells #[.slice A0 n0 c0, .slice A1 n1 c1] 43 (0, 0))))
    case atStart => exact ⟨0, by rfl, ⟨Nat.zero_add _⟩, B5, E5⟩
    case round =>
      clear B5 E5
      obtain ⟨i, rfl, HJ, BW, EW⟩ := hrel
      have hj := HJ.out
      have x0 := blk_cell EW.out 0
      have x1 := blk_cell EW.out 1
      simp at x0 x1
      cases gk with
      | zero =>
        have d1 : decide ((i : Int) - 1 ≤ (n0 : Int)) = false := decide_eq_false (by omega)
        clear hj
        go_wp2
        go_ret
        exact ⟨rfl, BW.out⟩
      | succ k =>
        have d1 : decide ((i : Int) - 1 ≤ (n0 : Int)) = true := decide_eq_true (by omega)
        have bnd : (i : Int) ≤ 66 := by omega
        by_cases q : 0 ≤ (i : Int) - 1 ∧ (i : Int) - 1 < (n0 : Int)
        · have d2 : decide ((i : Int) - 1 ≥ 0) = true := decide_eq_true q.1
          have d3 : decide ((i : Int) - 1 < (n0 : Int)) = true := decide_eq_true q.2
          have q1 := q.1
          have q2 := q.2
          obtain ⟨ad, eA, y0, y1, y2⟩ := at_T70 (Kd.C_below HC.out.1 BW.out) ((i : Int) - 1) q1 (by rw [R0.out]; exact q2)
          subst eA
          rw [rdR] at y0 y1 y2
          rw [show ((i : Int) - 1).toNat = i - 1 by omega] at y0 y1 y2
          have hr := refs_eq HI.out ((i : Int) - 1)
          have ho := open_eq HI.out ((i : Int) - 1)
          rw [HN0.out, if_pos ⟨q1, q2⟩] at hr ho
          have RC := PR.out wr BW.out ((i : Int) - 1)
          have OC := PO.out wr BW.out ((i : Int) - 1)
          rw [hr] at RC
          rw [ho] at OC
          have hp := HI.out.low _ (pg_in q1 (by rw [HN0.out]; exact q2))
          generalize pg X.pages ((i : Int) - 1) = p at y0 y1 y2 RC OC hp
          rw [show (toR p).f0 = p.f0 from rfl] at y0
          rw [show (toR p).f1 = p.f1 from rfl] at y1
          have RC := Aside0.mk RC
          have OC := Aside0.mk OC
          clear hr ho hj q y2
          by_cases hz : p.f0 = 0
          · rw [hz] at y0 RC OC
            clear hz hp
            go_wp2_with (first
              | (go_at_call 12; go_loud ((refine RC.out.mono ?_); rintro e w7 ⟨rfl, rfl⟩))
              | (go_at_call 18; go_loud ((refine OC.out.mono ?_); rintro e w8 ⟨rfl, rfl⟩)))
            go_roundg k
            case measure => omega
            case rel => exact ⟨i + 1, by go_num, ⟨by have := HJ.out; omega⟩, BW, EW⟩
          · have hz2 : decide (p.f0 > 0) = true := decide_eq_true (by omega)
            have hz3 : decide (0 < p.f0) = true := hz2
            rw [hz2, Bool.true_and] at OC
            have hp1 := hp.1
            have hp2 := hp.2
            clear hz hp
            go_wp2_with (first
              | (go_at_call 12; go_loud ((refine RC.out.mono ?_); rintro e w7 ⟨rfl, rfl⟩))
              | (go_at_call 18; go_loud ((refine OC.out.mono ?_); rintro e w8 ⟨rfl, rfl⟩)))
            go_roundg k
            case measure => omega
            case rel => exact ⟨i + 1, by go_num, ⟨by have := HJ.out; omega⟩, BW, EW⟩
        · have hr := refs_eq HI.out ((i : Int) - 1)
          have ho := open_eq HI.out ((i : Int) - 1)
          rw [HN0.out, if_neg q] at hr ho
          have RC := PR.out wr BW.out ((i : Int) - 1)
          have OC := PO.out wr BW.out ((i : Int) - 1)
          rw [hr] at RC
          rw [ho] at OC
          have RC := Aside0.mk RC
          have OC := Aside0.mk OC
          have dd : (decide ((i : Int) - 1 ≥ 0) = false ∧ (i : Int) - 1 < 0) ∨ (decide ((i : Int) - 1 ≥ 0) = true ∧ decide ((i : Int) - 1 < (n0 : Int)) = false ∧ (n0 : Int) ≤ (i : Int) - 1) := by
            by_cases h1 : (i : Int) - 1 ≥ 0
            · exact .inr ⟨decide_eq_true h1, decide_eq_false (fun h2 => q ⟨h1, h2⟩), Int.not_lt.1 (fun h2 => q ⟨h1, h2⟩)⟩
            · exact .inl ⟨decide_eq_false h1, by omega⟩
          clear hr ho hj q
          rcases dd with ⟨d2, q1⟩ | ⟨d2, d3, q1⟩
          all_goals (
            go_wp2_with (first
              | (go_at_call 12; go_loud ((refine RC.out.mono ?_); rintro e w7 ⟨rfl, rfl⟩))
              | (go_at_call 18; go_loud ((refine OC.out.mono ?_); rintro e w8 ⟨rfl, rfl⟩)))
            go_roundg k
            case measure => omega
            case rel => exact ⟨i + 1, by go_num, ⟨by have := HJ.out; omega⟩, BW, EW⟩)
end Go.Proofs.Ytmbbaalpeomnlaa.OTwo
