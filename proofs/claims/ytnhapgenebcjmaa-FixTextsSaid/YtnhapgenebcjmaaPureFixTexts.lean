/- FixTexts: the pure statement. -/
import Derived.Test.YtnhapgenebcjmaaUTexts
import Derived.Test.YtnhapgenebcjmaaUMath
import Derived.Test.YtnhapgenebcjmaaGVx6
set_option linter.unusedVariables false
set_option linter.unusedSimpArgs false
namespace Go.Proofs.Ytnhapgenebcjmaa.Pure
open Go.RowKit Go.Proofs.YtnhapgenebcjmaaW.PrintWords Go.Proofs.YtnhapgenebcjmaaW.PrintLast Go.Proofs.YtnhapgenebcjmaaW.PrintMore Go.Proofs.Ytnhapgenebcjmaa.GV Go.Proofs.Ytnhapgenebcjmaa.GText Go.Proofs.Ytnhapgenebcjmaa.GParse Go.Proofs.Ytnhapgenebcjmaa.GForm Go.Proofs.Ytnhapgenebcjmaa.GCut Go.Proofs.Ytnhapgenebcjmaa.U Go.Proofs.Ytnhapgenebcjmaa.USpell Go.Proofs.Ytnhapgenebcjmaa.UTexts
open Go.Proofs.Ytnhapgenebcjmaa.GDigits (bts bts_len dgt)
theorem awakeT {k : Nat} (hk : 60 ≤ k) : tillerlaw01_awake.f k = some true := by
  have h : tillerlaw01_awake.f 10 = some true := by decide +kernel
  exact at_rounds (g := fun k => tillerlaw01_awake.f k) (tillerlaw01_awake.mono) (show 10 ≤ k by omega) h
/-- What fix.Text tells. -/
theorem Text_is {a N : Int} (hN : N = if a < 0 then -a else a) (h1 : -2147483648 ≤ a) (h2 : a ≤ 2147483647) : ∃ D E : List Int, wd 30 (N / 65536) [] = some D.reverse ∧ fd 30 (N % 65536) [] = some E ∧ fix_Text.f a = some (mk ((if a < 0 then [45] else []) ++ D ++ (if 0 < N % 65536 then [46] else []) ++ E)) ∧ Dig D ∧ D ≠ [] ∧ D.length ≤ 5 ∧ val D 0 = N / 65536 ∧ Dig E ∧ E.length ≤ 16 ∧ val E 0 * 65536 = N % 65536 * 10 ^ E.length ∧ (0 < N % 65536 → E ≠ []) ∧ (N % 65536 = 0 → E = []) := by
  have hN0 : 0 ≤ N ∧ N ≤ 2147483648 := by rw [hN]; split <;> omega
  obtain ⟨r, e1, l1⟩ := wd_len 5 30 (N / 65536) [] (by omega) (by omega) (by rw [show (10 : Int) ^ 5 = 100000 by decide]; omega)
  obtain ⟨r', e2, v1, g1, ne1⟩ := wd_val _ _ _ _ e1 (by omega)
  obtain ⟨E, e3, l2, v2, g2, ne2, z2⟩ := fd_val 16 30 (N % 65536) [] (by omega) (by omega) (by omega) ⟨N % 65536, by rw [show (2 : Int) ^ 16 = 65536 by decide]⟩
  rw [List.nil_append] at e2 e3
  subst e2
  refine ⟨r.reverse, E, by rw [List.reverse_reverse]; exact e1, e3, ?_, fun c hc => g1 c (List.mem_reverse.1 hc), fun h => ne1 rfl (by simpa using h), by simpa using l1, v1, g2, l2, v2, ne2, z2⟩
  unfold fix_Text.f
  rw [if_pos ⟨h1, h2⟩, ← hN, e1, Option.bind_some, e3, Option.bind_some]
  unfold txt mk
  rw [← hN]
theorem digit_at {d : Int} (h0 : 0 ≤ d) (h1 : d < 10) : (⟨#[48, 49, 50, 51, 52, 53, 54, 55, 56, 57]⟩ : ByteArray).extract d.toNat (d + 1).toNat = mk [48 + d] := by
  rcases (show d = 0 ∨ d = 1 ∨ d = 2 ∨ d = 3 ∨ d = 4 ∨ d = 5 ∨ d = 6 ∨ d = 7 ∨ d = 8 ∨ d = 9 by omega) with rfl | rfl | rfl | rfl | rfl | rfl | rfl | rfl | rfl | rfl <;> rfl
theorem text_l1 (S : List Int) : ∀ (K : Nat) (n : Int) (l r : List Int) (k : Nat), fd K n l = some r → 0 ≤ n → n < 65536 → K + 1 ≤ k → S.length + r.length ≤ 1000 → tillerref01_Text.l1 k (mk (S ++ l)) n = some (mk (S ++ r)) ∧ l.length ≤ r.length := by
  intro K
  induction K with
  | zero => intro n l r k h; simp [fd] at h
  | succ K ih =>
    intro n l r k h h0 h1 hk hr
    obtain ⟨k, rfl⟩ := succ_of_lt (show 0 < k by omega)
    simp only [fd] at h
    simp only [tillerref01_Text.l1]
    by_cases hn : n > 0
    · rw [if_pos hn] at h
      obtain ⟨i1, i2⟩ := ih _ _ _ k h (by omega) (by omega) (by omega) hr
      rw [List.length_append, List.length_singleton] at i2
      rw [if_pos hn, w64 (x := n * 10) (by omega) (by omega), Int.tdiv_eq_ediv_of_nonneg (by omega), Int.tmod_eq_emod_of_nonneg (by omega), w64 (x := n * 10 / 65536) (by omega) (by omega), w64 (x := n * 10 / 65536 + 1) (by omega) (by omega), if_pos (by omega), if_pos (by omega), if_pos (by omega), digit_at (by omega) (by omega), if_pos (by rw [mk_size, mk_size, List.length_append, List.length_singleton]; omega), mk_app, List.append_assoc]
      exact ⟨i1, by omega⟩
    · rw [if_neg hn] at h
      cases h
      rw [if_neg hn]
      exact ⟨rfl, Nat.le_refl _⟩
theorem text_l0 (S : List Int) (N : Int) (hN : 0 ≤ N ∧ N ≤ 2147483648) (E : List Int) (hE : fd 30 (N % 65536) [] = some E) (hS : S.length ≤ 1) (hEl : E.length ≤ 16) : ∀ (K : Nat) (x : Int) (l r : List Int) (k : Nat), wd K x l = some r → (x > 0 ∨ l.length = 0) → 0 ≤ x → x < 100000 → K + 40 ≤ k → r.length ≤ 100 →
    tillerref01_Text.l0 k N (mk S) x (mk l.reverse) = some (mk (S ++ r.reverse ++ (if 0 < N % 65536 then [46] else []) ++ E)) ∧ l.length ≤ r.length := by
  have htail : ∀ (R : List Int) (k : Nat), R.length ≤ 100 → 40 ≤ k → (if Int.tmod N 65536 > 0 then (if (mk S ++ mk R).size + 1 ≤ 9223372036854775807 then (tillerref01_Text.j2 k ((mk S ++ mk R) ++ (⟨#[46]⟩ : ByteArray)) (Int.tmod N 65536)) else (none)) else (tillerref01_Text.j2 k (mk S ++ mk R) (Int.tmod N 65536))) = some (mk (S ++ R ++ (if 0 < N % 65536 then [46] else []) ++ E)) := by
    intro R k hR hk
    obtain ⟨k, rfl⟩ := succ_of_lt (show 0 < k by omega)
    rw [Int.tmod_eq_emod_of_nonneg hN.1, mk_app, mk_size]
    by_cases h : 0 < N % 65536
    · have := (text_l1 (S ++ R ++ [46]) 30 (N % 65536) [] E k hE (by omega) (by omega) (by omega) (by simp; omega)).1
      rw [List.append_nil] at this
      rw [if_pos h, if_pos (by simp; omega), if_pos h, show (⟨#[46]⟩ : ByteArray) = mk [46] from rfl, mk_app]
      simp only [tillerref01_Text.j2]
      exact this
    · have := (text_l1 (S ++ R) 30 (N % 65536) [] E k hE (by omega) (by omega) (by omega) (by simp; omega)).1
      rw [List.append_nil] at this
      rw [if_neg h, if_neg h, List.append_nil]
      simp only [tillerref01_Text.j2]
      exact this
  intro K
  induction K with
  | zero => intro x l r k h; simp [wd] at h
  | succ K ih =>
    intro x l r k h hc h0 h1 hk hr
    obtain ⟨k, rfl⟩ := succ_of_lt (show 0 < k by omega)
    simp only [wd] at h
    rw [if_pos hc] at h
    simp only [tillerref01_Text.l0]
    have hlen : l.length + 1 ≤ r.length := by
      obtain ⟨r', e, _⟩ := wd_val _ _ _ _ h (by omega)
      rw [e]; simp
    rw [Int.tdiv_eq_ediv_of_nonneg h0, Int.tmod_eq_emod_of_nonneg h0, w64 (x := x / 10) (by omega) (by omega), w64 (x := x % 10 + 1) (by omega) (by omega), if_pos (by omega), if_pos (by omega), if_pos (by omega), digit_at (by omega) (by omega), if_pos (by rw [mk_size, mk_size, List.length_reverse, List.length_singleton]; omega), mk_app]
    have hrev : [48 + x % 10] ++ l.reverse = (l ++ [48 + x % 10]).reverse := by simp
    rw [hrev]
    by_cases hx : x / 10 = 0
    · rw [if_pos hx, if_pos (by rw [mk_size, mk_size, List.length_reverse, List.length_append, List.length_singleton]; omega)]
      have hr2 : r = l ++ [48 + x % 10] := by
        cases K with
        | zero => simp [wd] at h
        | succ K =>
          simp only [wd] at h
          rw [hx, if_neg (by simp)] at h
          exact (Option.some.inj h).symm
      rw [← hr2]
      exact ⟨htail r.reverse k (by simp; omega) (by omega), by omega⟩
    · rw [if_neg hx]
      obtain ⟨i1, i2⟩ := ih (x / 10) (l ++ [48 + x % 10]) r k h (.inl (by omega)) (by omega) (by omega) (by omega) hr
      exact ⟨i1, by omega⟩
theorem refText {a : Int} (h1 : -2147483648 ≤ a) (h2 : a ≤ 2147483647) {t : ByteArray} (ht : fix_Text.f a = some t) {k : Nat} (hk : 100 ≤ k) : tillerref01_Text.f k a = some t := by
  obtain ⟨N, hN⟩ : ∃ N, N = if a < 0 then -a else a := ⟨_, rfl⟩
  obtain ⟨D, E, w1, f1, e, g1, n1, l1, v1, g2, l2, v2, ne2, z2⟩ := Text_is hN h1 h2
  rw [e] at ht
  have ht := Option.some.inj ht
  subst ht
  obtain ⟨k, rfl⟩ := succ_of_lt (show 0 < k by omega)
  have hN0 : 0 ≤ N ∧ N ≤ 2147483648 := by rw [hN]; split <;> omega
  unfold tillerref01_Text.f
  rw [w64 (x := a) (by omega) (by omega)]
  by_cases h : a < 0
  · rw [if_pos h] at hN
    rw [if_pos h, if_pos h, w64 (x := -a) (by omega) (by omega), ← hN]
    simp only [tillerref01_Text.j0]
    rw [Int.tdiv_eq_ediv_of_nonneg (by omega), w64 (x := N / 65536) (by omega) (by omega)]
    have := (text_l0 [45] N hN0 E f1 (by simp) l2 30 (N / 65536) [] D.reverse k w1 (.inr rfl) (by omega) (by omega) (by omega) (by simp; omega)).1
    rw [List.reverse_reverse] at this
    exact this
  · rw [if_neg h] at hN
    rw [if_neg h, if_neg h, ← hN]
    simp only [tillerref01_Text.j0]
    rw [Int.tdiv_eq_ediv_of_nonneg (by omega), w64 (x := N / 65536) (by omega) (by omega)]
    have := (text_l0 [] N hN0 E f1 (by simp) l2 30 (N / 65536) [] D.reverse k w1 (.inr rfl) (by omega) (by omega) (by omega) (by simp; omega)).1
    rw [List.reverse_reverse] at this
    exact this
theorem bt_bts {s : ByteArray} {i : Nat} (h : i < s.size) : bt s (i : Int) = (bts s)[i]'(by rw [bts_len]; exact h) := by
  unfold bt
  rw [dif_pos (by rw [Int.toNat_natCast]; exact h)]
  simp only [Int.toNat_natCast, bts, List.getElem_map, Array.getElem_toList]
  rfl
theorem parse_l1 {W P : ByteArray} {m : Bool} (hW : Dig (bts W)) (hW6 : W.size ≤ 6) (hP : Dig (bts P)) (hP16 : P.size ≤ 16) : ∀ (i n : Nat) (c : Int) (o : List Int) (k : Nat), i + n = P.size → o.length = n → (∀ d ∈ o, 0 ≤ d ∧ d ≤ 9) → 0 ≤ c → c ≤ 65536 → val ((bts P).drop i) 0 * 65536 = c * 10 ^ n + outv o → i + 10 ≤ k →
    tillerref01_Parse.l1 k m P (val (bts W) 0) c o ((i : Int) - 1) = some (told W P m) := by
  have hwb := val_bound hW
  rw [bts_len] at hwb
  have hw6 : val (bts W) 0 < 1000000 := by
    have := pow10_le hW6
    have e : (10 : Int) ^ 6 = 1000000 := by decide
    omega
  intro i
  induction i with
  | zero =>
    intro n c o k hi ho hd c0 c1 hv hk
    obtain ⟨k, rfl⟩ := succ_of_lt (show 0 < k by omega)
    obtain ⟨k, rfl⟩ := succ_of_lt (show 0 < k by omega)
    obtain ⟨k, rfl⟩ := succ_of_lt (show 0 < k by omega)
    rw [List.drop_zero] at hv
    have hob := outv_bound hd
    have hn : n = P.size := by omega
    rw [ho, hn] at hob
    rw [hn] at hv
    simp only [tillerref01_Parse.l1]
    have last : ∀ up : Bool, (up = true ↔ outv o * 2 ≥ 10 ^ P.size) → tillerref01_Parse.j2 (k + 1 + 1) m (wrap64 ((wrap64 (val (bts W) 0 * 65536)) + c)) up = some (told W P m) := by
      intro up hup
      rw [told_is hW hP hob hv up hup, w64 (x := val (bts W) 0 * 65536) (by omega) (by omega), w64 (x := val (bts W) 0 * 65536 + c) (by omega) (by omega)]
      simp only [tillerref01_Parse.j2]
      generalize hX : val (bts W) 0 * 65536 + c = X
      have hX0 : 0 ≤ X ∧ X ≤ 65536065536 := by omega
      have fin : ∀ Y : Int, 0 ≤ Y → Y ≤ 65536065537 → tillerref01_Parse.j3 (k + 1) m Y = some (if Y > 2147483647 then (0, 2) else (if m then -Y else Y, 0)) := by
        intro Y y0 y1
        simp only [tillerref01_Parse.j3]
        by_cases hb : Y > 2147483647
        · rw [if_pos hb, if_pos hb]
        · rw [if_neg hb, if_neg hb]
          cases m
          · rw [if_neg (by decide), w32 (x := Y) (by omega) (by omega)]; rfl
          · rw [if_pos rfl, w64 (x := -Y) (by omega) (by omega), w32 (x := -Y) (by omega) (by omega)]; rfl
      cases up
      · rw [if_neg (by decide), fin X (by omega) (by omega), if_neg (show ¬ (false = true) by decide), Int.add_zero]
      · rw [if_pos rfl, w64 (x := X + 1) (by omega) (by omega), fin (X + 1) (by omega) (by omega), if_pos (show (true = true) from rfl)]
    rw [if_neg (show ¬ ((0 : Nat) : Int) - 1 ≥ 0 by omega)]
    rcases List.eq_nil_or_concat o with rfl | ⟨o', d, rfl⟩
    · rw [if_neg (by simp)]
      refine last false ⟨fun h => absurd h (by decide), fun h => ?_⟩
      exfalso
      have : P.size = 0 := by simp at ho; omega
      rw [this] at h
      revert h
      decide
    · rw [List.concat_eq_append] at *
      have hd' : ∀ x ∈ o', 0 ≤ x ∧ x ≤ 9 := fun x hx => hd x (by simp [hx])
      have hh := outv_half hd' (hd d (by simp))
      rw [ho, hn] at hh
      have hl : (o' ++ [d]).length = o'.length + 1 := by simp
      rw [w64 (x := ((o' ++ [d]).length : Int) - 1) (by omega) (by omega), if_pos (by omega), if_pos (by omega), if_pos (by omega)]
      have hr : rd (o' ++ [d]) (((o' ++ [d]).length : Int) - 1) = d := by
        unfold rd
        have : (((o' ++ [d]).length : Int) - 1).toNat = o'.length := by omega
        rw [this]
        simp
      rw [hr]
      refine last _ ?_
      rw [decide_eq_true_eq, hh]
  | succ i ih =>
    intro n c o k hi ho hd c0 c1 hv hk
    obtain ⟨k, rfl⟩ := succ_of_lt (show 0 < k by omega)
    simp only [tillerref01_Parse.l1]
    have hil : i < P.size := by omega
    have hlt : i < (bts P).length := by rw [bts_len]; exact hil
    have hx := hP _ (List.getElem_mem hlt)
    have e1 : ((i + 1 : Nat) : Int) - 1 = (i : Int) := by omega
    rw [e1, if_pos (by omega), if_pos (by omega), if_pos (by omega), if_pos (by omega), bt_bts hil]
    have hs : (bts P).drop i = (bts P)[i] :: (bts P).drop (i + 1) := List.drop_eq_getElem_cons hlt
    generalize (bts P)[i] = x at *
    have e2 : (x - 48) % 256 = x - 48 := by omega
    rw [e2, w64 (x := (x - 48) * 65536 + c) (by omega) (by omega), Int.tdiv_eq_ediv_of_nonneg (by omega), Int.tmod_eq_emod_of_nonneg (by omega), w64 (x := ((x - 48) * 65536 + c) / 10) (by omega) (by omega), w64 (x := (i : Int) - 1) (by omega) (by omega)]
    refine ih (n + 1) (((x - 48) * 65536 + c) / 10) (o ++ [((x - 48) * 65536 + c) % 10]) k (by omega) (by simp [ho]) ?_ (by omega) (by omega) ?_ (by omega)
    · intro d hdm
      rcases List.mem_append.1 hdm with hdm | hdm
      · exact hd d hdm
      · rw [List.mem_singleton] at hdm
        omega
    · rw [hs, outv_snoc, ho]
      have e3 : val (x :: (bts P).drop (i + 1)) 0 = (x - 48) * 10 ^ n + val ((bts P).drop (i + 1)) 0 := by
        have : val (x :: (bts P).drop (i + 1)) 0 = val ((bts P).drop (i + 1)) (10 * 0 + (x - 48)) := rfl
        rw [this, val_lin, List.length_drop, bts_len, show P.size - (i + 1) = n by omega]
        congr 2
        omega
      rw [e3, Int.add_mul, hv, Int.pow_succ]
      generalize (10 : Int) ^ n = p
      have e4 := divmod ((x - 48) * 65536 + c) 10 (by omega)
      generalize hQ : ((x - 48) * 65536 + c) / 10 = q at *
      generalize hM : ((x - 48) * 65536 + c) % 10 = r at *
      have e5 : q * (p * 10) + r * p = ((x - 48) * 65536 + c) * p := by
        rw [e4.1, Int.add_mul, Int.mul_comm p 10, ← Int.mul_assoc, Int.mul_comm q 10]
      rw [Int.add_mul ((x - 48) * 65536) c p] at e5
      rw [Int.mul_right_comm (x - 48) p 65536]
      omega
theorem parse_l0 {W P : ByteArray} {m : Bool} (hW : Dig (bts W)) (hW6 : W.size ≤ 6) (hP : Dig (bts P)) (hP16 : P.size ≤ 16) : ∀ (d i k : Nat), W.size - i = d → i ≤ W.size → d + 40 ≤ k →
    tillerref01_Parse.l0 k m W P (val ((bts W).take i) 0) (i : Int) = some (told W P m) := by
  intro d
  induction d with
  | zero =>
    intro i k hd hi hk
    obtain ⟨k, rfl⟩ := succ_of_lt (show 0 < k by omega)
    simp only [tillerref01_Parse.l0]
    rw [if_neg (by omega), List.take_of_length_le (by rw [bts_len]; omega), w64 (x := (P.size : Int) - 1) (by omega) (by omega)]
    exact parse_l1 hW hW6 hP hP16 P.size 0 0 [] k (by omega) rfl (fun d hd => by cases hd) (by omega) (by omega) (by rw [List.drop_of_length_le (by rw [bts_len]; exact Nat.le_refl _)]; rfl) (by omega)
  | succ d ih =>
    intro i k hd hi hk
    obtain ⟨k, rfl⟩ := succ_of_lt (show 0 < k by omega)
    have next := ih (i + 1) k (by omega) (by omega) (by omega)
    have hil : i < W.size := by omega
    have hlt : i < (bts W).length := by rw [bts_len]; exact hil
    have hx := hW _ (List.getElem_mem hlt)
    have hv : val ((bts W).take i) 0 < 1000000 ∧ 0 ≤ val ((bts W).take i) 0 := by
      have hb := val_bound (l := (bts W).take i) fun c hc => hW c (List.mem_of_mem_take hc)
      have := pow10_le (show ((bts W).take i).length ≤ 6 by rw [List.length_take]; omega)
      have e : (10 : Int) ^ 6 = 1000000 := by decide
      omega
    rw [List.take_succ_eq_append_getElem hlt, val_snoc, Int.natCast_add, Int.natCast_one] at next
    simp only [tillerref01_Parse.l0]
    rw [if_pos (by omega), if_pos (by omega), bt_bts hil, show ((bts W)[i] - 48) % 256 = (bts W)[i] - 48 by omega, w64 (x := 10 * val ((bts W).take i) 0) (by omega) (by omega), w64 (x := 10 * val ((bts W).take i) 0 + ((bts W)[i] - 48)) (by omega) (by omega), w64 (x := (i : Int) + 1) (by omega) (by omega)]
    exact next
theorem refParse (s : ByteArray) (hs : s.size ≤ 100000) {k : Nat} (hk : 100 ≤ k) : tillerref01_Parse.f k s = some (parsed s) := by
  unfold tillerref01_Parse.f tillerref01_Form.f
  rw [if_pos hs, Option.bind_some]
  rcases form_is s with ⟨m, W, P, e, h, g1, g2, g3, g4⟩ | ⟨e, h⟩
  · rw [e, h, if_pos rfl]
    exact parse_l0 g1 g2 g3 g4 W.size 0 k (by omega) (by omega) (by omega)
  · rw [e, h, if_neg (by decide)]
/-- Read back. -/
theorem read_back {a : Int} (h1 : -2147483648 ≤ a) (h2 : a ≤ 2147483647) {t : ByteArray} (ht : fix_Text.f a = some t) : t.size ≤ 30 ∧ parsed t = if a < -2147483647 then (0, 2) else (a, 0) := by
  obtain ⟨N, hN⟩ : ∃ N, N = if a < 0 then -a else a := ⟨_, rfl⟩
  obtain ⟨D, E, w1, f1, e, g1, n1, l1, v1, g2, l2, v2, ne2, z2⟩ := Text_is hN h1 h2
  rw [e] at ht
  have ht := Option.some.inj ht
  subst ht
  have hN0 : 0 ≤ N ∧ N ≤ 2147483648 := by rw [hN]; split <;> omega
  constructor
  · rw [mk_size]
    have qq : ∀ (p : Prop) [Decidable p] (c : Int), (if p then [c] else ([] : List Int)).length ≤ 1 := by
      intro p _ c
      split <;> simp
    have q1 := qq (a < 0) 45
    have q2 := qq (0 < N % 65536) 46
    simp only [List.length_append]
    omega
  · have hcut : ∃ f : Bool, cutAt (mk (D ++ (if 0 < N % 65536 then [46] else []) ++ E)) = (mk D, mk E, f) ∧ (f = true → E ≠ []) := by
      by_cases h : 0 < N % 65536
      · refine ⟨true, ?_, fun _ => ne2 h⟩
        rw [if_pos h, List.append_assoc]
        exact cutAt_mk g1
      · refine ⟨false, ?_, fun h => by cases h⟩
        rw [if_neg h, z2 (by omega), List.append_nil, List.append_nil, cutAt_pidx]
        have hp : ∀ {l : List Int}, Dig l → pidx l = l.length := by
          intro l
          induction l with
          | nil => intro _; rfl
          | cons c l ih =>
            intro h
            have := h c (by simp)
            simp only [pidx]
            rw [if_neg (by omega), ih fun c hc => h c (by simp [hc])]
            rfl
        rw [bts_mk g1.bound, hp g1, mk_size, if_neg (by omega)]
        rfl
    obtain ⟨f, hc, hf⟩ := hcut
    have hsg : signed (mk ((if a < 0 then [45] else []) ++ D ++ (if 0 < N % 65536 then [46] else []) ++ E)) = (mk (D ++ (if 0 < N % 65536 then [46] else []) ++ E), decide (a < 0)) := by
      by_cases h : a < 0
      · rw [if_pos h, decide_eq_true h]
        exact signed_yes _
      · rw [if_neg h, decide_eq_false h, List.nil_append]
        cases D with
        | nil => exact absurd rfl n1
        | cons c D => exact signed_no (g1 c (by simp))
    have hp : parsed (mk ((if a < 0 then [45] else []) ++ D ++ (if 0 < N % 65536 then [46] else []) ++ E)) = told (mk D) (mk E) (decide (a < 0)) := by
      unfold parsed
      rw [hsg]
      simp only []
      rw [hc]
      refine if_pos ⟨?_, fun h => ?_⟩
      · refine (isDig_iff _ 6).2 ⟨?_, ?_, ?_⟩
        · rw [bts_mk g1.bound]; exact List.all_eq_true.2 fun c hc => GParse.dgt_iff.2 (g1 c hc)
        · rw [mk_size]; cases D with
          | nil => exact absurd rfl n1
          | cons c D => simp
        · rw [mk_size]; omega
      · have := hf h
        refine (isDig_iff _ 16).2 ⟨?_, ?_, ?_⟩
        · rw [bts_mk g2.bound]; exact List.all_eq_true.2 fun c hc => GParse.dgt_iff.2 (g2 c hc)
        · rw [mk_size]; cases E with
          | nil => exact absurd rfl this
          | cons c E => simp
        · rw [mk_size]; omega
    rw [hp]
    by_cases hlow : a < -2147483647
    · have ha : a = -2147483648 := by omega
      have hNv : N = 2147483648 := by rw [hN, if_pos (by omega)]; omega
      rw [if_pos hlow, decide_eq_true (show a < 0 by omega)]
      have hd : Dig (bts (mk D)) := by rw [bts_mk g1.bound]; exact g1
      have he : Dig (bts (mk E)) := by rw [bts_mk g2.bound]; exact g2
      have hE : E = [] := z2 (by omega)
      subst hE
      rw [told_is hd he (c := 0) (R := 0) (by rw [mk_size]; decide) (by rw [mk_size]; rfl) false (by rw [mk_size]; decide), bts_mk g1.bound, v1, hNv]
      rfl
    · rw [if_neg hlow, told_mk g1 g2 (by omega) (F := N % 65536) (by omega) (by omega) v2 (by rw [v1]; rw [hN]; split <;> omega), v1]
      congr 1
      by_cases h : a < 0
      · rw [if_pos h] at hN
        rw [decide_eq_true h, if_pos rfl]
        omega
      · rw [if_neg h] at hN
        rw [decide_eq_false h, if_neg (by decide)]
        omega
theorem FixTexts : ∀ (a0 : Int) (a1 : ByteArray), (Lit.int .i32 a0).wf = true → a1.size ≤ 140737488351232 → ∃ k, tillerlaw01_FixTexts.f k a0 a1 = some true := by
  intro a s ha _
  have ha := wf_i32 ha
  obtain ⟨k, hk⟩ : ∃ k, k = 999 := ⟨_, rfl⟩
  refine ⟨k + 1 + 1, ?_⟩
  obtain ⟨D, E, w1, f1, e, _⟩ := Text_is (a := a) rfl ha.1 ha.2
  obtain ⟨t, ht⟩ : ∃ t, t = mk ((if a < 0 then [45] else []) ++ D ++ (if 0 < (if a < 0 then -a else a) % 65536 then [46] else []) ++ E) := ⟨_, rfl⟩
  rw [← ht] at e
  obtain ⟨b1, b2⟩ := read_back ha.1 ha.2 e
  have hj : ∀ s : ByteArray, s.size ≤ 100 → tillerlaw01_FixTexts.j0 (k + 1 + 1) a s = some true := by
    intro s hs
    have p1 : fix_Parse.f s = some (parsed s) := by unfold fix_Parse.f; rw [if_pos (by omega)]
    have p2 : fix_Parse.f t = some (parsed t) := by unfold fix_Parse.f; rw [if_pos (by omega)]
    simp only [tillerlaw01_FixTexts.j0]
    rw [e, Option.bind_some, p1, Option.bind_some, refParse s (by omega) (by omega), Option.bind_some, awakeT (by omega), Option.bind_some, if_pos rfl, refText ha.1 ha.2 e (by omega), Option.bind_some, if_pos rfl, if_pos rfl, bne_self_eq_false]
    simp only [tillerlaw01_FixTexts.j1]
    rw [if_neg (by decide), p2, Option.bind_some, b2]
    by_cases h : a < -2147483647
    · rw [if_pos h, if_pos h]; rfl
    · rw [if_neg h, if_neg h, if_pos rfl, beq_self_eq_true]
  unfold tillerlaw01_FixTexts.f
  by_cases h : (s.size : Int) > 100
  · rw [if_pos h, if_pos (by decide), if_pos (by omega)]
    exact hj _ (by rw [ByteArray.size_extract]; omega)
  · rw [if_neg h]
    exact hj s (by omega)
end Go.Proofs.Ytnhapgenebcjmaa.Pure
