/- VecTurns, walked by hand. -/
import Derived.Test.YtefimleoffaggaaGQx1
import Derived.Test.YtefimleoffaggaaGQx2
import Derived.Test.YtefimleoffaggaaGQx3
import Derived.Test.YtefimleoffaggaaGQx4
import Derived.Test.YtefimleoffaggaaGQx5
import Derived.Test.YtefimleoffaggaaURows3
import Derived.Test.YtefimleoffaggaaUAwake3
import Derived.LoopN
set_option linter.unusedVariables false
set_option linter.unusedSimpArgs false
namespace Go.Proofs.Ytefimleoffaggaa.OTurns
open Go.RowKit Go.Proofs.YtefimleoffaggaaW.PrintWords Go.Proofs.YtefimleoffaggaaW.PrintLast Go.Proofs.YtefimleoffaggaaW.PrintMore Go.Proofs.Ytefimleoffaggaa.GQ Go.Proofs.Ytefimleoffaggaa.U
attribute [local go_sem] max2_int max_two
abbrev kI := Kd.int .i32
open Classical in
/-- The law's answer within the row's bounds. -/
noncomputable def tillerlaw03_VecTurns.f (l0 l1 : List Int) (a2 : Int) : Option Bool := if (I32 l0 ∧ l0.length < 35184372088832) ∧ (I32 l1 ∧ l1.length < 35184372088832) then some true else none
/-- Rows and a literal that stay, whatever is written between the blocks lo and hi. -/
structure Keep (w : World) (lo hi : Nat) (L : List (Value × List Int)) (gl : Nat) (cl : Array Value) (W : World) : Prop where
  rows : ∀ p ∈ L, kI.R 24 W w.heap.size (fun k => some k = p.1.ownBlock) p.1 p.2
  out : ∀ p ∈ L, ∀ k, p.1.ownBlock = some k → k < lo ∨ hi ≤ k
  lit : W.heap[gl]? = some (.cells cl 22 (0, 0))
  away : gl < lo ∨ hi ≤ gl
  bel : Below w.heap.size w W
  low : w.heap.size ≤ lo
theorem Keep.put {w W : World} {lo hi gl : Nat} {L : List (Value × List Int)} {cl : Array Value} (h : Keep w lo hi L gl cl W) (g j : Nat) (u : Value) (h1 : lo ≤ g) (h2 : g < hi) : Keep w lo hi L gl cl (W.setCell ⟨g, j, none⟩ u) :=
  ⟨fun p hp => Kd.R_far (p := ⟨g, j, none⟩) (h.rows p hp) (fun k hk => by have := h.out p hp k hk.symm; show k ≠ g; omega) u, h.out, blk_far (p := ⟨g, j, none⟩) h.lit (show gl ≠ g by have := h.away; omega) u, h.away, h.bel.setCell (p := ⟨g, j, none⟩) (show w.heap.size ≤ g by have := h.low; omega) u, h.low⟩
/-- Other bounds, fewer rows, a later world. -/
theorem Keep.turn {w W W' : World} {lo hi lo' hi' gl : Nat} {L L' : List (Value × List Int)} {cl : Array Value} (h : Keep w lo hi L gl cl W) (hb : Below W.heap.size W W') (hL : ∀ p ∈ L', p ∈ L) (ho : ∀ p ∈ L', ∀ k, p.1.ownBlock = some k → k < lo' ∨ hi' ≤ k) (ha : gl < lo' ∨ hi' ≤ gl) (hl : w.heap.size ≤ lo') : Keep w lo' hi' L' gl cl W' :=
  ⟨fun p hp => Kd.R_below (h.rows p (hL p hp)) hb, ho, blk_below h.lit hb, ha, h.bel.trans (hb.mono h.bel.size), hl⟩
theorem own_tight {W : World} {b b' : Nat} {ok : Nat → Prop} {v : Value} {l : List Int} (h : kI.R 24 W b ok v l) (hb : b' ≤ b) : kI.R 24 W b' (fun k => some k = v.ownBlock) v l := Kd.R_lower (Kd.R_tight rfl h) hb
/-- A row under way of being written over. -/
def Mine (b lo hi : Nat) (W : World) (v : Value) (u : List Int) : Prop := kI.R 24 W b (fun k => lo ≤ k ∧ k < hi) v u
theorem Mine.of {W W' : World} {lo hi : Nat} {v : Value} {l : List Int} (h : kI.R 24 W lo (fun _ => True) v l) (hh : hi = W.heap.size) (hb : Below W.heap.size W W') : Mine lo lo hi W' v l := by
  subst hh
  exact Kd.R_below (Kd.R_mono (Kd.R_bound h) (fun k hk => ⟨hk.2.1, hk.2.2.1⟩)) hb
theorem Mine.get {b lo hi : Nat} {W : World} {A : Option Addr} {n c : Nat} {u : List Int} (h : Mine b lo hi W (.slice A n c) u) (i : Nat) (hi2 : i < u.length) : ∃ g x, n = u.length ∧ A = some ⟨g, 0, none⟩ ∧ lo ≤ g ∧ g < hi ∧ W.cell? ⟨g, i, none⟩ = some x ∧ W.frozen? ⟨g, i, none⟩ = false ∧ ∀ y : Int, Mine b lo hi (W.setCell ⟨g, i, none⟩ (.int .i32 y)) (.slice A n c) (u.set i y) := by
  obtain ⟨hn, _, _⟩ := Kd.R_reads' h
  obtain ⟨g, cap, e, hb, hl, cells, hh⟩ := Kd.R_form h (by omega)
  injection e with e1 e2 e3
  subst e1 e3 hn
  have hok := h.1 g (by simp [Value.ownBlock])
  obtain ⟨hc, hf⟩ := Kd.R_celln 0 h (i : Int) (by omega) (by omega)
  rw [Int.toNat_natCast] at hc hf
  refine ⟨g, _, rfl, rfl, hok.1, hok.2, hc, hf, fun y => ?_⟩
  have hp := Kd.R_putn h (i : Int) y
  rw [Int.toNat_natCast] at hp
  exact hp
theorem row_C {W : World} {b : Nat} {ok : Nat → Prop} {A : Option Addr} {n c : Nat} {l : List Int} (h : kI.R 24 W b ok (.slice A n c) l) : Kd.C kI W A l.length l ∧ l.length ≤ c := by
  obtain ⟨hn, hc, hC⟩ := Kd.R_reads' h
  subst hn
  exact ⟨hC, hc⟩
theorem dots_zeros : ∀ (a : List Int) (m : Nat) (s : Int), -9223372036854775807 ≤ s → s ≤ 9223372036854775807 → dots a (List.replicate m 0) s = s := by
  intro a
  induction a with
  | nil => intro m s _ _; rfl
  | cons x a ih =>
    intro m s h1 h2
    cases m with
    | zero => rfl
    | succ m =>
      show dots a (List.replicate m 0) (cl (s + x * 0)) = s
      rw [Int.mul_zero, Int.add_zero, cl_id h1 h2]
      exact ih m s h1 h2
theorem dots_unit : ∀ (a : List Int) (n i : Nat) (s : Int), I32 a → a.length = n → i < n → -1000000000000000000 ≤ s → s ≤ 1000000000000000000 → dots a ((List.replicate n (0 : Int)).set i 65536) s = s + rd a (i : Int) * 65536 := by
  intro a
  induction a with
  | nil => intro n i s _ hn hi _ _; simp at hn; omega
  | cons x a ih =>
    intro n i s ha hn hi h1 h2
    obtain ⟨n, rfl⟩ : ∃ m, n = m + 1 := ⟨n - 1, by simp at hn; omega⟩
    have hx := ha x (by simp)
    have ha2 : I32 a := fun y hy => ha y (by simp [hy])
    cases i with
    | zero =>
      show dots a (List.replicate n 0) (cl (s + x * 65536)) = s + rd (x :: a) ((0 : Nat) : Int) * 65536
      rw [rd_nat (by simp), List.getElem_cons_zero, cl_id (by omega) (by omega), dots_zeros a n _ (by omega) (by omega)]
    | succ i =>
      show dots a ((List.replicate n (0 : Int)).set i 65536) (cl (s + x * 0)) = s + rd (x :: a) ((i + 1 : Nat) : Int) * 65536
      have hl : a.length = n := by simpa using hn
      rw [Int.mul_zero, Int.add_zero, cl_id (by omega) (by omega), ih n i s ha2 hl (by omega) h1 h2, rd_nat (l := a) (by omega), rd_nat (by simp; omega), List.getElem_cons_succ]
theorem dot_one {a : List Int} (ha : I32 a) (i : Nat) (hi : i < a.length) (hl : a.length ≤ 300) : vec_Dot.f 10000 a ((List.replicate a.length (0 : Int)).set i 65536) = some (mx (rd a (i : Int)) (-2147483647), 0) := by
  have hr := ha.rd hi
  have ho : I32 ((List.replicate a.length (0 : Int)).set i 65536) := fun x hx => by
    rcases List.mem_or_eq_of_mem_set hx with h | h
    · rw [List.eq_of_mem_replicate h]; omega
    · omega
  have hf : fitv a ((List.replicate a.length (0 : Int)).set i 65536) = 0 := fitv_ok (by simp) (by omega)
  rw [Dot_eq ha ho (by omega), if_pos hf, sat_mx hr.1 hr.2]
  unfold dotv
  rw [dots_unit a a.length i 0 ha rfl hi (by omega) (by omega), Int.zero_add, rnd_mul (by omega)]
theorem fit_comm (a b : List Int) : fitv a b = fitv b a := by
  unfold fitv
  (repeat' split) <;> omega
theorem add_any {a O : List Int} (ha : I32 a) (ho : I32 O) (h : O.length = a.length) (hn : a.length ≤ 300) : ∃ S, vec_Add.f 10000 a O = some (S, 0) ∧ S.length ≤ 300 :=
  ⟨addv a O, by rw [Addv_eq ha ho (by omega), if_pos (fitv_ok h.symm (by omega))], by rw [addv_len h.symm]; exact hn⟩
theorem one_ok (n i : Nat) : I32 ((List.replicate n (0 : Int)).set i 65536) := fun x hx => by
  rcases List.mem_or_eq_of_mem_set hx with h | h
  · rw [List.eq_of_mem_replicate h]; omega
  · omega
theorem same_self (l : List Int) (hl : l.length ≤ 5000) : tillerref03_Same.f 10000 l l = some true := by
  have run : ∀ (n i k : Nat), i + n = l.length → n < k → tillerref03_Same.l0 k l l (l.length : Int) (i : Int) = some true := by
    intro n
    induction n with
    | zero =>
      intro i k hi hk
      obtain ⟨k, rfl⟩ := succ_of_lt (show 0 < k by omega)
      simp only [tillerref03_Same.l0]
      rw [if_neg (by omega)]
    | succ n ih =>
      intro i k hi hk
      obtain ⟨k, rfl⟩ := succ_of_lt (show 0 < k by omega)
      simp only [tillerref03_Same.l0]
      rw [if_pos (by omega), if_pos (by omega), if_pos (by omega), if_pos (by omega), if_pos trivial, w64 (by omega) (by omega), ← Int.natCast_one, ← Int.natCast_add]
      exact ih (i + 1) k (by omega) (by omega)
  unfold tillerref03_Same.f
  rw [if_pos rfl]
  exact run l.length 0 10000 (by omega) (by omega)
set_option maxHeartbeats 16000000 in
set_option maxRecDepth 100000 in
theorem tillerlaw03_VecTurns.calls (A0 : Option Addr) (c0 : Nat) (l0 : List Int) (A1 : Option Addr) (c1 : Nat) (l1 : List Int) (a2 : Int) (r : Bool) (w : World) (hr0 : Kd.C kI w A0 l0.length l0) (hc0 : l0.length ≤ c0) (hr1 : Kd.C kI w A1 l1.length l1) (hc1 : l1.length ≤ c1) (hr_ : Aside0 (r = true)) (h : tillerlaw03_VecTurns.f l0 l1 a2 = some r) : Calls Try.prog 7 #[.slice A0 l0.length c0, .slice A1 l1.length c1, .int .i64 a2] w fun e w' => e = .returned (.bool r) ∧ Below w.heap.size w w' := by
  obtain ⟨r_⟩ := hr_
  subst r_
  have hI : (I32 l0 ∧ l0.length < 35184372088832) ∧ (I32 l1 ∧ l1.length < 35184372088832) := by
    unfold tillerlaw03_VecTurns.f at h
    by_cases e : (I32 l0 ∧ l0.length < 35184372088832) ∧ (I32 l1 ∧ l1.length < 35184372088832)
    · exact e
    · rw [if_neg e] at h; cases h
  obtain ⟨a, ha⟩ : ∃ a, l0.take 300 = a := ⟨_, rfl⟩
  obtain ⟨b, hb⟩ : ∃ b, l1.take 300 = b := ⟨_, rfl⟩
  have ia : I32 a := by rw [← ha]; exact hI.1.1.take 300
  have ib : I32 b := by rw [← hb]; exact hI.2.1.take 300
  have na : a.length ≤ 300 := by rw [← ha, List.length_take]; omega
  have F0 := Aside0.mk (show tillerlaw03_Few.f l0 300 = some a by rw [Few_eq (by omega) hI.1.2, ← ha]; rfl)
  have F1 := Aside0.mk (show tillerlaw03_Few.f l1 300 = some b by rw [Few_eq (by omega) hI.2.2, ← hb]; rfl)
  have F2 := Aside0.mk (show tillerlaw03_Few.f a 300 = some a by rw [Few_eq (by omega) (by omega), show (300 : Int).toNat = 300 from rfl, List.take_of_length_le na])
  obtain ⟨x, hx⟩ : ∃ x : Int × Int, (if fitv a b = 0 then (dotv a b, 0) else (0, fitv a b)) = x := ⟨_, rfl⟩
  have F3 := Aside0.mk (show vec_Dot.f 10000 a b = some (x.1, x.2) by rw [Dot_eq ia ib (by omega), hx])
  have F4 := Aside0.mk (show vec_Dot.f 10000 b a = some (x.1, x.2) by rw [Dot_eq ib ia (by omega), fit_comm b a, dotv_comm b a, hx])
  have F5 := Aside0.mk (show vec_Scale.f 10000 a 7 = some (scalev a 7) from Scale_eq ia (by omega) (by omega) (by omega) (by omega))
  have F6 := Aside0.mk (show vec_Rise.f 10000 a = some (risev a) from Rise_eq ia (by omega) (by omega))
  have F7 := Aside0.mk (same_self a (by omega))
  have F8 := Aside0.mk (awake3 (k := 10000) (by omega))
  have IA := Aside0.mk (And.intro ia na)
  have R0 := Aside0.mk hr0
  have R1 := Aside0.mk hr1
  have na3 : (a.length : Int) ≤ 300 := by omega
  obtain ⟨P, hP⟩ : ∃ P, scalev a 7 = P := ⟨_, rfl⟩
  obtain ⟨Q, hQ⟩ : ∃ Q, risev a = Q := ⟨_, rfl⟩
  have LP := Aside0.mk (show P.length ≤ 300 by rw [← hP, scalev_len]; exact na)
  have LQ := Aside0.mk (show Q.length ≤ 300 by rw [← hQ]; unfold risev; rw [List.length_map]; exact na)
  rw [hP] at F5
  rw [hQ] at F6
  clear hr0 hr1 h hI ha hb ia ib na hx hP hQ
  by_cases hat : 0 ≤ a2 ∧ a2 < (a.length : Int)
  · obtain ⟨i, rfl⟩ : ∃ i : Nat, a2 = (i : Int) := ⟨a2.toNat, (Int.toNat_of_nonneg hat.1).symm⟩
    have hi : i < a.length := by omega
    obtain ⟨Z, hZ⟩ : ∃ Z, mx (rd a (i : Int)) (-2147483647) = Z := ⟨_, rfl⟩
    have F9 := Aside0.mk (show vec_Dot.f 10000 a ((List.replicate a.length (0 : Int)).set i 65536) = some (Z, 0) by rw [← hZ]; exact dot_one IA.out.1 i hi IA.out.2)
    obtain ⟨O, hO⟩ : ∃ O, (List.replicate a.length (0 : Int)).set i 65536 = O := ⟨_, rfl⟩
    have HO := Aside0.mk hO
    have OL := Aside0.mk (show O.length = a.length by rw [← hO]; simp)
    obtain ⟨S, hS, hSl⟩ := add_any IA.out.1 (show I32 O by rw [← hO]; exact one_ok _ _) OL.out IA.out.2
    have F10 := Aside0.mk hS
    have LS := Aside0.mk hSl
    clear hS hSl
    clear hO
    have f1 : (if rd a (i : Int) < -2147483647 then -2147483647 else rd a (i : Int)) = Z := by rw [← hZ]; rfl
    clear hZ
    have p1 : decide ((i : Int) ≥ 0) = true := decide_eq_true (by omega)
    have p2 : decide (i < a.length) = true := decide_eq_true hi
    have p3 : 0 ≤ (i : Int) := by omega
    have p4 : (i : Int) < (a.length : Int) := by omega
    have HI := Aside0.mk hi
    clear hat hi
    go_enter Try.func7, Try.ntmps7
    go_wp2_with (first
      | (go_at_call 13; (with_reducible refine (tillerlaw03_Few.calls A0 c0 l0 300 a _ R0.out hc0 F0.out).mono ?_); rintro e w1 ⟨va, rfl, hr, hb⟩; obtain ⟨Aa, ca, rfl⟩ := Kd.R_slice hr; have RA1 := Aside0.mk hr; have B1 := Aside0.mk hb; clear hr hb)
      | (go_at_call 13; (with_reducible refine (tillerlaw03_Few.calls A1 c1 l1 300 b _ (Kd.C_below R1.out B1.out) hc1 F1.out).mono ?_); rintro e w2 ⟨vb, rfl, hr, hb⟩; obtain ⟨Ab, cb, rfl⟩ := Kd.R_slice hr; have RB2 := Aside0.mk hr; have RA2 := Aside0.mk (Kd.R_below RA1.out hb); have B2 := Aside0.mk (below_step B1.out hb); clear hr hb)
      | (go_at_call 14; (with_reducible refine (vec_Dot.calls 10000 Aa ca a Ab cb b x.1 x.2 _ (row_C RA2.out).1 (row_C RA2.out).2 (row_C RB2.out).1 (row_C RB2.out).2 F3.out).mono ?_); rintro e w3 ⟨rfl, hb⟩; have RA3 := Aside0.mk (Kd.R_below RA2.out hb); have RB3 := Aside0.mk (Kd.R_below RB2.out hb); have B3 := Aside0.mk (below_step B2.out hb); clear hb)
      | (go_at_call 14; (with_reducible refine (vec_Dot.calls 10000 Ab cb b Aa ca a x.1 x.2 _ (row_C RB3.out).1 (row_C RB3.out).2 (row_C RA3.out).1 (row_C RA3.out).2 F4.out).mono ?_); rintro e w4 ⟨rfl, hb⟩; have RA4 := Aside0.mk (Kd.R_below RA3.out hb); have B4 := Aside0.mk (below_step B3.out hb); clear hb)
      | (go_at_call 13; (with_reducible refine (tillerlaw03_Few.calls Aa ca a 300 a _ (row_C RA4.out).1 (row_C RA4.out).2 F2.out).mono ?_); rintro e w5 ⟨vw, rfl, hr, hb⟩; obtain ⟨Aw, cw, rfl⟩ := Kd.R_slice hr; have RW5 := Aside0.mk (Kd.R_lower hr B4.out.size); have RA5 := Aside0.mk (Kd.R_lower (Kd.R_below RA4.out hb) (Nat.le_refl _)); have B5 := Aside0.mk (below_step B4.out hb); clear hr hb)
      | ((with_reducible refine gate_dst (N := 49) rfl ?_); refine Kd.R_make kI (w0 := w5) w5.heap.size 24 rfl (N := 49) rfl 22 (.tmp 48) (.tmp 48) rfl (a.length : Int) rfl rfl rfl (.int .i32 0) 4 (by kernel_rfl) rfl (by decide) (by decide) 0 (ok := fun _ => True) (okp := fun _ => True) rfl (fun _ hk => hk) trivial (by omega) (by omega) (Below.refl _ _) (Nat.le_refl _) ?_; intro vo w6 ho hb hg hnew; simp only [Int.toNat_natCast] at ho; obtain ⟨Ao, co, rfl⟩ := Kd.R_slice ho; have RO6 := Aside0.mk (show Mine w5.heap.size w5.heap.size w6.heap.size w6 (.slice Ao (List.replicate a.length (0 : Int)).length co) (List.replicate a.length 0) from Kd.R_mono (Kd.R_bound ho) (fun k hk => ⟨hk.2.1, hk.2.2.1⟩)); have RA6 := Aside0.mk (Kd.R_mono (ok' := fun k => k < w5.heap.size) (Kd.R_below (Kd.R_bound RA5.out) hb) (fun k hk => hk.2.2.1)); have RW6 := Aside0.mk (Kd.R_mono (ok' := fun k => k < w5.heap.size) (Kd.R_below (Kd.R_bound RW5.out) hb) (fun k hk => hk.2.2.1)); have B6 := Aside0.mk (below_step B5.out hb); obtain ⟨g0, x0, _, eA, hg1, hg2, hcell, hfz, hset⟩ := RO6.out.get i (by rw [List.length_replicate]; exact HI.out); subst eA; have G0 := Aside0.mk (And.intro hg1 hg2); have RO7 := Aside0.mk (hset 65536); have RA7 := Aside0.mk (Kd.R_far (p := ⟨g0, i, none⟩) RA6.out (fun k hk => by have := G0.out.1; show k ≠ g0; omega) (.int .i32 65536)); have RW7 := Aside0.mk (Kd.R_far (p := ⟨g0, i, none⟩) RW6.out (fun k hk => by have := G0.out.1; show k ≠ g0; omega) (.int .i32 65536)); have B7 := Aside0.mk (B6.out.setCell (p := ⟨g0, i, none⟩) (show w.heap.size ≤ g0 by have := G0.out.1; have := B5.out.size; omega) (.int .i32 65536)); clear ho hb hg hnew hg1 hg2 hset)
      | (go_at_call 14; (have hw := vec_Dot.calls 10000 Aa ca a (some ⟨g0, 0, none⟩) co ((List.replicate a.length (0 : Int)).set i 65536) Z 0 _ (row_C RA7.out).1 (row_C RA7.out).2 (row_C RO7.out).1 (row_C RO7.out).2 F9.out); simp only [List.length_set, List.length_replicate] at hw; go_loud (refine hw.mono ?_); clear hw; rintro e wz ⟨rfl, hb⟩; have ZA := Aside0.mk (Kd.R_below RA7.out hb); have ZW := Aside0.mk (Kd.R_below RW7.out hb); have ZO := Aside0.mk (show kI.R 24 wz w.heap.size (fun _ => True) (.slice (some ⟨g0, 0, none⟩) a.length co) O by (have hz := Kd.R_lower (Kd.R_mono (Kd.R_below RO7.out hb) (ok' := fun _ => True) (fun k hk => trivial)) B5.out.size); rw [HO.out, List.length_replicate] at hz; exact hz); have ZB := Aside0.mk (below_step B7.out hb); clear hb; obtain ⟨ada, ea, hxa⟩ := Kd.at_int (Kd.R_reads' ZA.out).2.2 (i : Int) p3 p4; cases ea; rw [Int.toNat_natCast] at hxa)
      | (go_at_call 23; (with_reducible refine (vec_Scale.calls 10000 _ ca a 7 P _ (row_C ZA.out).1 (row_C ZA.out).2 F5.out).mono ?_); rintro e w9 ⟨vs, rfl, hr, hb⟩; obtain ⟨As, cs, rfl⟩ := Kd.R_slice hr; have R9 := Aside0.mk hr; have H9 := Aside0.mk hb; clear hr hb)
      | (go_at_call 24; (with_reducible refine (vec_Rise.calls 10000 _ ca a Q _ (row_C (Kd.R_below ZA.out H9.out)).1 (row_C (Kd.R_below ZA.out H9.out)).2 F6.out).mono ?_); rintro e w10 ⟨vr, rfl, hr, hb⟩; obtain ⟨Ar, cr, rfl⟩ := Kd.R_slice hr; have R10 := Aside0.mk hr; have H10 := Aside0.mk hb; clear hr hb))
    have SA := Aside0.mk (Kd.R_lt ZA.out)
    have SW := Aside0.mk (Kd.R_lt ZW.out)
    have SO := Aside0.mk (Kd.R_lt ZO.out)
    have S1 := Aside0.mk (And.intro (Kd.R_base R9.out) (Kd.R_lt R9.out))
    have S2 := Aside0.mk (And.intro (Kd.R_base R10.out) (Kd.R_lt R10.out))
    have Y9 := Aside0.mk H9.out.size
    have Y10 := Aside0.mk H10.out.size
    have YZ := Aside0.mk ZB.out.size
    have lz := blk_new w10 (.cells #[.slice As P.length cs, .slice Ar Q.length cr] 22 (0, 0))
    have K1 := Aside0.mk (show Keep w wz.heap.size w9.heap.size [((.slice (some ada) a.length ca : Value), a), ((.slice Aw a.length cw : Value), a), ((.slice (some ⟨g0, 0, none⟩) a.length co : Value), O), ((.slice Ar Q.length cr : Value), Q)] w10.heap.size #[.slice As P.length cs, .slice Ar Q.length cr] (w10.alloc (.cells #[.slice As P.length cs, .slice Ar Q.length cr] 22 (0, 0))) from ⟨fun p hp => by
      simp only [List.mem_cons, List.not_mem_nil, or_false] at hp
      rcases hp with rfl | rfl | rfl | rfl
      · exact Kd.R_alloc (Kd.R_below (Kd.R_below (own_tight ZA.out (Nat.le_refl _)) H9.out) H10.out) _
      · exact Kd.R_alloc (Kd.R_below (Kd.R_below (own_tight ZW.out (Nat.le_refl _)) H9.out) H10.out) _
      · exact Kd.R_alloc (Kd.R_below (Kd.R_below (own_tight ZO.out (Nat.le_refl _)) H9.out) H10.out) _
      · exact Kd.R_alloc (own_tight R10.out (Nat.le_trans YZ.out Y9.out)) _, fun p hp k hk => by
      simp only [List.mem_cons, List.not_mem_nil, or_false] at hp
      rcases hp with rfl | rfl | rfl | rfl
      · exact .inl (SA.out k hk)
      · exact .inl (SW.out k hk)
      · exact .inl (SO.out k hk)
      · exact .inr (S2.out.1 k hk), lz, .inr Y10.out, ((ZB.out.trans (H9.out.mono YZ.out)).trans (H10.out.mono (Nat.le_trans YZ.out Y9.out))).alloc (Nat.le_trans YZ.out (Nat.le_trans Y9.out Y10.out)) _, YZ.out⟩)
    have M1 := Aside0.mk (show Mine wz.heap.size wz.heap.size w9.heap.size (w10.alloc (.cells #[.slice As P.length cs, .slice Ar Q.length cr] 22 (0, 0))) (.slice As P.length cs) P from Mine.of R9.out rfl (below_alloc H10.out _))
    have cl0 := blk_cell lz 0
    have cl1 := blk_cell lz 1
    simp at cl0 cl1
    clear lz
    refine wp_loop_rounds 3 ?_
    rw [rounds_succ]
    go_wp2
    go_loopg [90] P.length (fun kq v w' => ∃ (j : Nat) (u : List Int), v = .int .i64 (j : Int) ∧ Aside0 (j + kq = P.length) ∧ Aside0 (u.length = P.length) ∧ Aside0 (Mine wz.heap.size wz.heap.size w9.heap.size w' (.slice As P.length cs) u) ∧ Aside0 (Keep w wz.heap.size w9.heap.size [((.slice (some ada) a.length ca : Value), a), ((.slice Aw a.length cw : Value), a), ((.slice (some ⟨g0, 0, none⟩) a.length co : Value), O), ((.slice Ar Q.length cr : Value), Q)] w10.heap.size #[.slice As P.length cs, .slice Ar Q.length cr] w'))
    case atStart => exact ⟨0, P, rfl, ⟨Nat.zero_add _⟩, ⟨rfl⟩, M1, K1⟩
    case round =>
      obtain ⟨j, u, rfl, HJ, HU, HM, HK⟩ := hrel
      have hj := HJ.out
      have hl := LP.out
      cases gk with
      | succ q =>
        have d1 : decide (j < P.length) = true := decide_eq_true (by omega)
        have j1 : 0 ≤ (j : Int) := by omega
        have j2 : (j : Int) < (P.length : Int) := by omega
        have j3 : (j : Int) + 1 ≤ 300 := by omega
        obtain ⟨g, x0, _, eA, h1, h2, hc, hf, hs⟩ := HM.out.get j (by rw [HU.out]; omega)
        subst eA
        have H12 := Aside0.mk (And.intro h1 h2)
        have HS := Aside0.mk (hs 77)
        clear hj h1 h2 hs hl
        go_wp2
        go_roundg q
        case measure => omega
        case rel => exact ⟨j + 1, u.set j 77, by go_num, ⟨by have := HJ.out; omega⟩, ⟨by rw [List.length_set]; exact HU.out⟩, HS, ⟨HK.out.put g j _ H12.out.1 H12.out.2⟩⟩
      | zero =>
        have d1 : decide (j < P.length) = false := decide_eq_false (by omega)
        clear hj hl
        have K2 := Aside0.mk (HK.out.turn (lo' := w9.heap.size) (hi' := w10.heap.size) (L' := [((.slice (some ada) a.length ca : Value), a), ((.slice Aw a.length cw : Value), a), ((.slice (some ⟨g0, 0, none⟩) a.length co : Value), O)]) (Below.refl _ _) (fun p hp => by
          simp only [List.mem_cons, List.not_mem_nil, or_false] at hp ⊢
          rcases hp with rfl | rfl | rfl <;> simp) (fun p hp k hk => by
          simp only [List.mem_cons, List.not_mem_nil, or_false] at hp
          rcases hp with rfl | rfl | rfl
          · exact .inl (Nat.lt_of_lt_of_le (SA.out k hk) Y9.out)
          · exact .inl (Nat.lt_of_lt_of_le (SW.out k hk) Y9.out)
          · exact .inl (Nat.lt_of_lt_of_le (SO.out k hk) Y9.out)) (.inr (Nat.le_refl _)) (Nat.le_trans YZ.out Y9.out))
        have M3 := Aside0.mk (show Mine w.heap.size w9.heap.size w10.heap.size wr (.slice Ar Q.length cr) Q from Kd.R_mono (HK.out.rows ((.slice Ar Q.length cr : Value), Q) (by simp)) (fun k hk => ⟨S2.out.1 k hk.symm, S2.out.2 k hk.symm⟩))
        have lz := HK.out.lit
        have cl0 := blk_cell lz 0
        have cl1 := blk_cell lz 1
        simp at cl0 cl1
        clear lz
        go_wp2
        rw [rounds_succ]
        go_wp2
        go_loopg [90] Q.length (fun kq v w' => ∃ (j : Nat) (u : List Int), v = .int .i64 (j : Int) ∧ Aside0 (j + kq = Q.length) ∧ Aside0 (u.length = Q.length) ∧ Aside0 (Mine w.heap.size w9.heap.size w10.heap.size w' (.slice Ar Q.length cr) u) ∧ Aside0 (Keep w w9.heap.size w10.heap.size [((.slice (some ada) a.length ca : Value), a), ((.slice Aw a.length cw : Value), a), ((.slice (some ⟨g0, 0, none⟩) a.length co : Value), O)] w10.heap.size #[.slice As P.length cs, .slice Ar Q.length cr] w'))
        case atStart => exact ⟨0, Q, rfl, ⟨Nat.zero_add _⟩, ⟨rfl⟩, M3, K2⟩
        case round =>
          obtain ⟨j, u, rfl, HJ, HU, HM, HK⟩ := hrel
          have hj := HJ.out
          have hl := LQ.out
          cases gk with
          | succ q =>
            have d1 : decide (j < Q.length) = true := decide_eq_true (by omega)
            have j1 : 0 ≤ (j : Int) := by omega
            have j2 : (j : Int) < (Q.length : Int) := by omega
            have j3 : (j : Int) + 1 ≤ 300 := by omega
            obtain ⟨g, x0, _, eA, h1, h2, hc, hf, hs⟩ := HM.out.get j (by rw [HU.out]; omega)
            subst eA
            have H12 := Aside0.mk (And.intro h1 h2)
            have HS := Aside0.mk (hs 77)
            clear hj h1 h2 hs hl
            go_wp2
            go_roundg q
            case measure => omega
            case rel => exact ⟨j + 1, u.set j 77, by go_num, ⟨by have := HJ.out; omega⟩, ⟨by rw [List.length_set]; exact HU.out⟩, HS, ⟨HK.out.put g j _ H12.out.1 H12.out.2⟩⟩
          | zero =>
            have d1 : decide (j < Q.length) = false := decide_eq_false (by omega)
            clear hj hl
            go_wp2
            rw [rounds_succ]
            go_wp2_with (go_at_call 22; (have hw := vec_Add.calls 10000 (some ada) ca a (some ⟨g0, 0, none⟩) co O S 0 wr (row_C (HK.out.rows ((.slice (some ada) a.length ca : Value), a) (by simp))).1 (row_C (HK.out.rows ((.slice (some ada) a.length ca : Value), a) (by simp))).2 (row_C (HK.out.rows ((.slice (some ⟨g0, 0, none⟩) a.length co : Value), O) (by simp))).1 (row_C (HK.out.rows ((.slice (some ⟨g0, 0, none⟩) a.length co : Value), O) (by simp))).2 F10.out); rw [OL.out] at hw; go_loud (refine hw.mono ?_); clear hw; rintro e w12 ⟨v5, rfl, hr, hb⟩; obtain ⟨A5, c5, rfl⟩ := Kd.R_slice hr; have R12 := Aside0.mk hr; have H12 := Aside0.mk hb; clear hr hb)
            have gl := Aside0.mk (blk_lt HK.out.lit)
            have K3 := Aside0.mk (HK.out.turn (lo' := wr.heap.size) (hi' := w12.heap.size) (L' := [((.slice (some ada) a.length ca : Value), a), ((.slice Aw a.length cw : Value), a)]) H12.out (fun p hp => by
              simp only [List.mem_cons, List.not_mem_nil, or_false] at hp ⊢
              rcases hp with rfl | rfl <;> simp) (fun p hp k hk => by
              have g1 := gl.out
              have g2 := Y9.out
              have g3 := Y10.out
              simp only [List.mem_cons, List.not_mem_nil, or_false] at hp
              rcases hp with rfl | rfl
              · exact .inl (by have := SA.out k hk; omega)
              · exact .inl (by have := SW.out k hk; omega)) (.inl gl.out) HK.out.bel.size)
            have M5 := Aside0.mk (show Mine wr.heap.size wr.heap.size w12.heap.size w12 (.slice A5 S.length c5) S from Mine.of R12.out rfl (Below.refl _ _))
            go_loopg [106] S.length (fun kq v w' => ∃ (j : Nat) (u : List Int), v = .int .i64 (j : Int) ∧ Aside0 (j + kq = S.length) ∧ Aside0 (u.length = S.length) ∧ Aside0 (Mine wr.heap.size wr.heap.size w12.heap.size w' (.slice A5 S.length c5) u) ∧ Aside0 (Keep w wr.heap.size w12.heap.size [((.slice (some ada) a.length ca : Value), a), ((.slice Aw a.length cw : Value), a)] w10.heap.size #[.slice As P.length cs, .slice Ar Q.length cr] w'))
            case atStart => exact ⟨0, S, rfl, ⟨Nat.zero_add _⟩, ⟨rfl⟩, M5, K3⟩
            case round =>
              obtain ⟨j, u, rfl, HJ, HU, HM, HK⟩ := hrel
              have hj := HJ.out
              have hl := LS.out
              cases gk with
              | succ q =>
                have d1 : decide (j < S.length) = true := decide_eq_true (by omega)
                have j1 : 0 ≤ (j : Int) := by omega
                have j2 : (j : Int) < (S.length : Int) := by omega
                have j3 : (j : Int) + 1 ≤ 300 := by omega
                obtain ⟨g, x0, _, eA, h1, h2, hc, hf, hs⟩ := HM.out.get j (by rw [HU.out]; omega)
                subst eA
                have H12 := Aside0.mk (And.intro h1 h2)
                have HS := Aside0.mk (hs 77)
                clear hj h1 h2 hs hl
                go_wp2
                go_roundg q
                case measure => omega
                case rel => exact ⟨j + 1, u.set j 77, by go_num, ⟨by have := HJ.out; omega⟩, ⟨by rw [List.length_set]; exact HU.out⟩, HS, ⟨HK.out.put g j _ H12.out.1 H12.out.2⟩⟩
              | zero =>
                have d1 : decide (j < S.length) = false := decide_eq_false (by omega)
                clear hj hl
                go_wp2_with (first
                  | (go_at_call 16; (with_reducible refine (tillerlaw03_awake.calls 10000 true _ F8.out).mono ?_); rintro e w13 ⟨rfl, hb⟩; have TA := Aside0.mk (Kd.R_below (HK.out.rows ((.slice (some ada) a.length ca : Value), a) (by simp)) hb); have TW := Aside0.mk (Kd.R_below (HK.out.rows ((.slice Aw a.length cw : Value), a) (by simp)) hb); have TB := Aside0.mk (below_step HK.out.bel hb); clear hb)
                  | (go_at_call 28; go_loud (refine (tillerref03_Same.calls 10000 (some ada) ca a Aw cw a true _ (row_C TA.out).1 (row_C TA.out).2 (row_C TW.out).1 (row_C TW.out).2 F7.out).mono ?_); rintro e w14 ⟨rfl, hd⟩; have hd1 := hd.below; have TC := Aside0.mk (below_step TB.out hd1); clear hd hd1))
                go_ret
                exact ⟨rfl, TC.out⟩
  · obtain ⟨O, hO⟩ : ∃ O, List.replicate a.length (0 : Int) = O := ⟨_, rfl⟩
    have HO := Aside0.mk hO
    have OL := Aside0.mk (show O.length = a.length by rw [← hO]; simp)
    obtain ⟨S, hS, hSl⟩ := add_any IA.out.1 (show I32 O by rw [← hO]; exact fun x hx => by rw [List.eq_of_mem_replicate hx]; omega) OL.out IA.out.2
    have F10 := Aside0.mk hS
    have LS := Aside0.mk hSl
    have hc : decide (a2 ≥ 0) = false ∨ (decide (a2 ≥ 0) = true ∧ decide (a2 < (a.length : Int)) = false) := by
      by_cases h0 : a2 ≥ 0
      · exact .inr ⟨decide_eq_true h0, decide_eq_false (fun h => hat ⟨h0, h⟩)⟩
      · exact .inl (decide_eq_false h0)
    clear hS hSl hO hat
    rcases hc with q1 | ⟨q1, q2⟩
    all_goals (
      go_enter Try.func7, Try.ntmps7
      go_wp2_with (first
      | (go_at_call 13; (with_reducible refine (tillerlaw03_Few.calls A0 c0 l0 300 a _ R0.out hc0 F0.out).mono ?_); rintro e w1 ⟨va, rfl, hr, hb⟩; obtain ⟨Aa, ca, rfl⟩ := Kd.R_slice hr; have RA1 := Aside0.mk hr; have B1 := Aside0.mk hb; clear hr hb)
      | (go_at_call 13; (with_reducible refine (tillerlaw03_Few.calls A1 c1 l1 300 b _ (Kd.C_below R1.out B1.out) hc1 F1.out).mono ?_); rintro e w2 ⟨vb, rfl, hr, hb⟩; obtain ⟨Ab, cb, rfl⟩ := Kd.R_slice hr; have RB2 := Aside0.mk hr; have RA2 := Aside0.mk (Kd.R_below RA1.out hb); have B2 := Aside0.mk (below_step B1.out hb); clear hr hb)
      | (go_at_call 14; (with_reducible refine (vec_Dot.calls 10000 Aa ca a Ab cb b x.1 x.2 _ (row_C RA2.out).1 (row_C RA2.out).2 (row_C RB2.out).1 (row_C RB2.out).2 F3.out).mono ?_); rintro e w3 ⟨rfl, hb⟩; have RA3 := Aside0.mk (Kd.R_below RA2.out hb); have RB3 := Aside0.mk (Kd.R_below RB2.out hb); have B3 := Aside0.mk (below_step B2.out hb); clear hb)
      | (go_at_call 14; (with_reducible refine (vec_Dot.calls 10000 Ab cb b Aa ca a x.1 x.2 _ (row_C RB3.out).1 (row_C RB3.out).2 (row_C RA3.out).1 (row_C RA3.out).2 F4.out).mono ?_); rintro e w4 ⟨rfl, hb⟩; have RA4 := Aside0.mk (Kd.R_below RA3.out hb); have B4 := Aside0.mk (below_step B3.out hb); clear hb)
      | (go_at_call 13; (with_reducible refine (tillerlaw03_Few.calls Aa ca a 300 a _ (row_C RA4.out).1 (row_C RA4.out).2 F2.out).mono ?_); rintro e w5 ⟨vw, rfl, hr, hb⟩; obtain ⟨Aw, cw, rfl⟩ := Kd.R_slice hr; have RW5 := Aside0.mk (Kd.R_lower hr B4.out.size); have RA5 := Aside0.mk (Kd.R_lower (Kd.R_below RA4.out hb) (Nat.le_refl _)); have B5 := Aside0.mk (below_step B4.out hb); clear hr hb)
      | ((with_reducible refine gate_dst (N := 49) rfl ?_); refine Kd.R_make kI (w0 := w5) w5.heap.size 24 rfl (N := 49) rfl 22 (.tmp 48) (.tmp 48) rfl (a.length : Int) rfl rfl rfl (.int .i32 0) 4 (by kernel_rfl) rfl (by decide) (by decide) 0 (ok := fun _ => True) (okp := fun _ => True) rfl (fun _ hk => hk) trivial (by omega) (by omega) (Below.refl _ _) (Nat.le_refl _) ?_; intro vo wz ho hb hg hnew; simp only [Int.toNat_natCast] at ho; obtain ⟨Ao, co, rfl⟩ := Kd.R_slice ho; have ZA := Aside0.mk (Kd.R_below RA5.out hb); have ZW := Aside0.mk (Kd.R_below RW5.out hb); have ZO := Aside0.mk (show kI.R 24 wz w.heap.size (fun _ => True) (.slice Ao a.length co) O by (have hz := Kd.R_lower ho B5.out.size); rw [HO.out, OL.out] at hz; exact hz); have ZB := Aside0.mk (below_step B5.out hb); clear ho hb hg hnew)
      | (go_at_call 23; (with_reducible refine (vec_Scale.calls 10000 _ ca a 7 P _ (row_C ZA.out).1 (row_C ZA.out).2 F5.out).mono ?_); rintro e w9 ⟨vs, rfl, hr, hb⟩; obtain ⟨As, cs, rfl⟩ := Kd.R_slice hr; have R9 := Aside0.mk hr; have H9 := Aside0.mk hb; clear hr hb)
      | (go_at_call 24; (with_reducible refine (vec_Rise.calls 10000 _ ca a Q _ (row_C (Kd.R_below ZA.out H9.out)).1 (row_C (Kd.R_below ZA.out H9.out)).2 F6.out).mono ?_); rintro e w10 ⟨vr, rfl, hr, hb⟩; obtain ⟨Ar, cr, rfl⟩ := Kd.R_slice hr; have R10 := Aside0.mk hr; have H10 := Aside0.mk hb; clear hr hb))
      have SA := Aside0.mk (Kd.R_lt ZA.out)
      have SW := Aside0.mk (Kd.R_lt ZW.out)
      have SO := Aside0.mk (Kd.R_lt ZO.out)
      have S1 := Aside0.mk (And.intro (Kd.R_base R9.out) (Kd.R_lt R9.out))
      have S2 := Aside0.mk (And.intro (Kd.R_base R10.out) (Kd.R_lt R10.out))
      have Y9 := Aside0.mk H9.out.size
      have Y10 := Aside0.mk H10.out.size
      have YZ := Aside0.mk ZB.out.size
      have lz := blk_new w10 (.cells #[.slice As P.length cs, .slice Ar Q.length cr] 22 (0, 0))
      have K1 := Aside0.mk (show Keep w wz.heap.size w9.heap.size [((.slice Aa a.length ca : Value), a), ((.slice Aw a.length cw : Value), a), ((.slice Ao a.length co : Value), O), ((.slice Ar Q.length cr : Value), Q)] w10.heap.size #[.slice As P.length cs, .slice Ar Q.length cr] (w10.alloc (.cells #[.slice As P.length cs, .slice Ar Q.length cr] 22 (0, 0))) from ⟨fun p hp => by
        simp only [List.mem_cons, List.not_mem_nil, or_false] at hp
        rcases hp with rfl | rfl | rfl | rfl
        · exact Kd.R_alloc (Kd.R_below (Kd.R_below (own_tight ZA.out (Nat.le_refl _)) H9.out) H10.out) _
        · exact Kd.R_alloc (Kd.R_below (Kd.R_below (own_tight ZW.out (Nat.le_refl _)) H9.out) H10.out) _
        · exact Kd.R_alloc (Kd.R_below (Kd.R_below (own_tight ZO.out (Nat.le_refl _)) H9.out) H10.out) _
        · exact Kd.R_alloc (own_tight R10.out (Nat.le_trans YZ.out Y9.out)) _, fun p hp k hk => by
        simp only [List.mem_cons, List.not_mem_nil, or_false] at hp
        rcases hp with rfl | rfl | rfl | rfl
        · exact .inl (SA.out k hk)
        · exact .inl (SW.out k hk)
        · exact .inl (SO.out k hk)
        · exact .inr (S2.out.1 k hk), lz, .inr Y10.out, ((ZB.out.trans (H9.out.mono YZ.out)).trans (H10.out.mono (Nat.le_trans YZ.out Y9.out))).alloc (Nat.le_trans YZ.out (Nat.le_trans Y9.out Y10.out)) _, YZ.out⟩)
      have M1 := Aside0.mk (show Mine wz.heap.size wz.heap.size w9.heap.size (w10.alloc (.cells #[.slice As P.length cs, .slice Ar Q.length cr] 22 (0, 0))) (.slice As P.length cs) P from Mine.of R9.out rfl (below_alloc H10.out _))
      have cl0 := blk_cell lz 0
      have cl1 := blk_cell lz 1
      simp at cl0 cl1
      clear lz
      refine wp_loop_rounds 3 ?_
      rw [rounds_succ]
      go_wp2
      go_loopg [90] P.length (fun kq v w' => ∃ (j : Nat) (u : List Int), v = .int .i64 (j : Int) ∧ Aside0 (j + kq = P.length) ∧ Aside0 (u.length = P.length) ∧ Aside0 (Mine wz.heap.size wz.heap.size w9.heap.size w' (.slice As P.length cs) u) ∧ Aside0 (Keep w wz.heap.size w9.heap.size [((.slice Aa a.length ca : Value), a), ((.slice Aw a.length cw : Value), a), ((.slice Ao a.length co : Value), O), ((.slice Ar Q.length cr : Value), Q)] w10.heap.size #[.slice As P.length cs, .slice Ar Q.length cr] w'))
      case atStart => exact ⟨0, P, rfl, ⟨Nat.zero_add _⟩, ⟨rfl⟩, M1, K1⟩
      case round =>
        obtain ⟨j, u, rfl, HJ, HU, HM, HK⟩ := hrel
        have hj := HJ.out
        have hl := LP.out
        cases gk with
        | succ q =>
          have d1 : decide (j < P.length) = true := decide_eq_true (by omega)
          have j1 : 0 ≤ (j : Int) := by omega
          have j2 : (j : Int) < (P.length : Int) := by omega
          have j3 : (j : Int) + 1 ≤ 300 := by omega
          obtain ⟨g, x0, _, eA, h1, h2, hc, hf, hs⟩ := HM.out.get j (by rw [HU.out]; omega)
          subst eA
          have H12 := Aside0.mk (And.intro h1 h2)
          have HS := Aside0.mk (hs 77)
          clear hj h1 h2 hs hl
          go_wp2
          go_roundg q
          case measure => omega
          case rel => exact ⟨j + 1, u.set j 77, by go_num, ⟨by have := HJ.out; omega⟩, ⟨by rw [List.length_set]; exact HU.out⟩, HS, ⟨HK.out.put g j _ H12.out.1 H12.out.2⟩⟩
        | zero =>
          have d1 : decide (j < P.length) = false := decide_eq_false (by omega)
          clear hj hl
          have K2 := Aside0.mk (HK.out.turn (lo' := w9.heap.size) (hi' := w10.heap.size) (L' := [((.slice Aa a.length ca : Value), a), ((.slice Aw a.length cw : Value), a), ((.slice Ao a.length co : Value), O)]) (Below.refl _ _) (fun p hp => by
            simp only [List.mem_cons, List.not_mem_nil, or_false] at hp ⊢
            rcases hp with rfl | rfl | rfl <;> simp) (fun p hp k hk => by
            simp only [List.mem_cons, List.not_mem_nil, or_false] at hp
            rcases hp with rfl | rfl | rfl
            · exact .inl (Nat.lt_of_lt_of_le (SA.out k hk) Y9.out)
            · exact .inl (Nat.lt_of_lt_of_le (SW.out k hk) Y9.out)
            · exact .inl (Nat.lt_of_lt_of_le (SO.out k hk) Y9.out)) (.inr (Nat.le_refl _)) (Nat.le_trans YZ.out Y9.out))
          have M3 := Aside0.mk (show Mine w.heap.size w9.heap.size w10.heap.size wr (.slice Ar Q.length cr) Q from Kd.R_mono (HK.out.rows ((.slice Ar Q.length cr : Value), Q) (by simp)) (fun k hk => ⟨S2.out.1 k hk.symm, S2.out.2 k hk.symm⟩))
          have lz := HK.out.lit
          have cl0 := blk_cell lz 0
          have cl1 := blk_cell lz 1
          simp at cl0 cl1
          clear lz
          go_wp2
          rw [rounds_succ]
          go_wp2
          go_loopg [90] Q.length (fun kq v w' => ∃ (j : Nat) (u : List Int), v = .int .i64 (j : Int) ∧ Aside0 (j + kq = Q.length) ∧ Aside0 (u.length = Q.length) ∧ Aside0 (Mine w.heap.size w9.heap.size w10.heap.size w' (.slice Ar Q.length cr) u) ∧ Aside0 (Keep w w9.heap.size w10.heap.size [((.slice Aa a.length ca : Value), a), ((.slice Aw a.length cw : Value), a), ((.slice Ao a.length co : Value), O)] w10.heap.size #[.slice As P.length cs, .slice Ar Q.length cr] w'))
          case atStart => exact ⟨0, Q, rfl, ⟨Nat.zero_add _⟩, ⟨rfl⟩, M3, K2⟩
          case round =>
            obtain ⟨j, u, rfl, HJ, HU, HM, HK⟩ := hrel
            have hj := HJ.out
            have hl := LQ.out
            cases gk with
            | succ q =>
              have d1 : decide (j < Q.length) = true := decide_eq_true (by omega)
              have j1 : 0 ≤ (j : Int) := by omega
              have j2 : (j : Int) < (Q.length : Int) := by omega
              have j3 : (j : Int) + 1 ≤ 300 := by omega
              obtain ⟨g, x0, _, eA, h1, h2, hc, hf, hs⟩ := HM.out.get j (by rw [HU.out]; omega)
              subst eA
              have H12 := Aside0.mk (And.intro h1 h2)
              have HS := Aside0.mk (hs 77)
              clear hj h1 h2 hs hl
              go_wp2
              go_roundg q
              case measure => omega
              case rel => exact ⟨j + 1, u.set j 77, by go_num, ⟨by have := HJ.out; omega⟩, ⟨by rw [List.length_set]; exact HU.out⟩, HS, ⟨HK.out.put g j _ H12.out.1 H12.out.2⟩⟩
            | zero =>
              have d1 : decide (j < Q.length) = false := decide_eq_false (by omega)
              clear hj hl
              go_wp2
              rw [rounds_succ]
              go_wp2_with (go_at_call 22; (have hw := vec_Add.calls 10000 Aa ca a Ao co O S 0 wr (row_C (HK.out.rows ((.slice Aa a.length ca : Value), a) (by simp))).1 (row_C (HK.out.rows ((.slice Aa a.length ca : Value), a) (by simp))).2 (row_C (HK.out.rows ((.slice Ao a.length co : Value), O) (by simp))).1 (row_C (HK.out.rows ((.slice Ao a.length co : Value), O) (by simp))).2 F10.out); rw [OL.out] at hw; go_loud (refine hw.mono ?_); clear hw; rintro e w12 ⟨v5, rfl, hr, hb⟩; obtain ⟨A5, c5, rfl⟩ := Kd.R_slice hr; have R12 := Aside0.mk hr; have H12 := Aside0.mk hb; clear hr hb)
              have gl := Aside0.mk (blk_lt HK.out.lit)
              have K3 := Aside0.mk (HK.out.turn (lo' := wr.heap.size) (hi' := w12.heap.size) (L' := [((.slice Aa a.length ca : Value), a), ((.slice Aw a.length cw : Value), a)]) H12.out (fun p hp => by
                simp only [List.mem_cons, List.not_mem_nil, or_false] at hp ⊢
                rcases hp with rfl | rfl <;> simp) (fun p hp k hk => by
                have g1 := gl.out
                have g2 := Y9.out
                have g3 := Y10.out
                simp only [List.mem_cons, List.not_mem_nil, or_false] at hp
                rcases hp with rfl | rfl
                · exact .inl (by have := SA.out k hk; omega)
                · exact .inl (by have := SW.out k hk; omega)) (.inl gl.out) HK.out.bel.size)
              have M5 := Aside0.mk (show Mine wr.heap.size wr.heap.size w12.heap.size w12 (.slice A5 S.length c5) S from Mine.of R12.out rfl (Below.refl _ _))
              go_loopg [106] S.length (fun kq v w' => ∃ (j : Nat) (u : List Int), v = .int .i64 (j : Int) ∧ Aside0 (j + kq = S.length) ∧ Aside0 (u.length = S.length) ∧ Aside0 (Mine wr.heap.size wr.heap.size w12.heap.size w' (.slice A5 S.length c5) u) ∧ Aside0 (Keep w wr.heap.size w12.heap.size [((.slice Aa a.length ca : Value), a), ((.slice Aw a.length cw : Value), a)] w10.heap.size #[.slice As P.length cs, .slice Ar Q.length cr] w'))
              case atStart => exact ⟨0, S, rfl, ⟨Nat.zero_add _⟩, ⟨rfl⟩, M5, K3⟩
              case round =>
                obtain ⟨j, u, rfl, HJ, HU, HM, HK⟩ := hrel
                have hj := HJ.out
                have hl := LS.out
                cases gk with
                | succ q =>
                  have d1 : decide (j < S.length) = true := decide_eq_true (by omega)
                  have j1 : 0 ≤ (j : Int) := by omega
                  have j2 : (j : Int) < (S.length : Int) := by omega
                  have j3 : (j : Int) + 1 ≤ 300 := by omega
                  obtain ⟨g, x0, _, eA, h1, h2, hc, hf, hs⟩ := HM.out.get j (by rw [HU.out]; omega)
                  subst eA
                  have H12 := Aside0.mk (And.intro h1 h2)
                  have HS := Aside0.mk (hs 77)
                  clear hj h1 h2 hs hl
                  go_wp2
                  go_roundg q
                  case measure => omega
                  case rel => exact ⟨j + 1, u.set j 77, by go_num, ⟨by have := HJ.out; omega⟩, ⟨by rw [List.length_set]; exact HU.out⟩, HS, ⟨HK.out.put g j _ H12.out.1 H12.out.2⟩⟩
                | zero =>
                  have d1 : decide (j < S.length) = false := decide_eq_false (by omega)
                  clear hj hl
                  go_wp2_with (first
                    | (go_at_call 16; (with_reducible refine (tillerlaw03_awake.calls 10000 true _ F8.out).mono ?_); rintro e w13 ⟨rfl, hb⟩; have TA := Aside0.mk (Kd.R_below (HK.out.rows ((.slice Aa a.length ca : Value), a) (by simp)) hb); have TW := Aside0.mk (Kd.R_below (HK.out.rows ((.slice Aw a.length cw : Value), a) (by simp)) hb); have TB := Aside0.mk (below_step HK.out.bel hb); clear hb)
                    | (go_at_call 28; go_loud (refine (tillerref03_Same.calls 10000 Aa ca a Aw cw a true _ (row_C TA.out).1 (row_C TA.out).2 (row_C TW.out).1 (row_C TW.out).2 F7.out).mono ?_); rintro e w14 ⟨rfl, hd⟩; have hd1 := hd.below; have TC := Aside0.mk (below_step TB.out hd1); clear hd hd1))
                  go_ret
                  exact ⟨rfl, TC.out⟩)
end Go.Proofs.Ytefimleoffaggaa.OTurns
