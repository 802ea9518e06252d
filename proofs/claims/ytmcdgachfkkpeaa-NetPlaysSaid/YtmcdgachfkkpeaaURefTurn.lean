/- What tillerref16.Turn answers: plain. -/
import Derived.Test.YtmcdgachfkkpeaaURef16
import Derived.Test.YtmcdgachfkkpeaaOTurned
set_option linter.unusedVariables false
set_option linter.unusedSimpArgs false
namespace Go.Proofs.Ytmcdgachfkkpeaa.ONet
open Go.RowKit Go.Proofs.YtmcdgachfkkpeaaW.PrintWords Go.Proofs.YtmcdgachfkkpeaaW.PrintLast Go.Proofs.YtmcdgachfkkpeaaW.PrintMore Go.Proofs.Ytmcdgachfkkpeaa.GQ Go.Proofs.Ytmcdgachfkkpeaa.U Go.Proofs.Ytmcdgachfkkpeaa.OTurned
/-- Bytes that are alike bit for bit are one. -/
theorem byte_ext (x y : Int) (x0 : 0 ≤ x) (x1 : x < 256) (y0 : 0 ≤ y) (y1 : y < 256) (h : ∀ q : Nat, q < 8 → (x / 2 ^ q) % 2 = (y / 2 ^ q) % 2) : x = y := by
  have h0 := h 0 (by decide)
  have h1 := h 1 (by decide)
  have h2 := h 2 (by decide)
  have h3 := h 3 (by decide)
  have h4 := h 4 (by decide)
  have h5 := h 5 (by decide)
  have h6 := h 6 (by decide)
  have h7 := h 7 (by decide)
  simp only [show ((2 : Int) ^ 0) = 1 from rfl, show ((2 : Int) ^ 1) = 2 from rfl, show ((2 : Int) ^ 2) = 4 from rfl, show ((2 : Int) ^ 3) = 8 from rfl, show ((2 : Int) ^ 4) = 16 from rfl, show ((2 : Int) ^ 5) = 32 from rfl, show ((2 : Int) ^ 6) = 64 from rfl, show ((2 : Int) ^ 7) = 128 from rfl] at h0 h1 h2 h3 h4 h5 h6 h7
  omega
/-- Is bit i asked? -/
abbrev asked (a b : Int) (i : Nat) : Prop := a ≤ (i : Int) ∧ (i : Int) < a + 32 ∧ (b / 2 ^ ((i : Int) - a).toNat) % 2 = 1
/-- The first r bits of byte j have been looked at. -/
def Partly (a b : Int) (j r : Nat) (x0 x : Int) : Prop := 0 ≤ x ∧ x < 256 ∧ ∀ q : Nat, q < 8 → (x / 2 ^ q) % 2 = if q < r ∧ asked a b (8 * j + q) then 1 - (x0 / 2 ^ q) % 2 else (x0 / 2 ^ q) % 2
theorem Partly.start (a b : Int) (j : Nat) (x0 : Int) (h0 : 0 ≤ x0) (h1 : x0 < 256) : Partly a b j 0 x0 x0 := ⟨h0, h1, fun q _ => by rw [if_neg (fun h => by omega)]⟩
theorem Partly.turn {a b : Int} {j r : Nat} {x0 x : Int} (h : Partly a b j r x0 x) (hr : r < 8) (c : asked a b (8 * j + r)) : Partly a b j (r + 1) x0 (Go.bits .xor .u8 x (2 ^ r)) := by
  obtain ⟨h0, h1, h2⟩ := h
  have hb := xor_bit x h0 h1 r
  refine ⟨(hb 0 hr (by decide)).1, (hb 0 hr (by decide)).2.1, fun q hq => ?_⟩
  rw [(hb q hr hq).2.2, h2 q hq]
  by_cases e : q = r
  · subst e
    rw [if_pos rfl, if_neg (fun h => by omega), if_pos ⟨by omega, c⟩]
  · rw [if_neg e]
    by_cases c2 : q < r ∧ asked a b (8 * j + q)
    · rw [if_pos c2, if_pos ⟨by omega, c2.2⟩]
    · rw [if_neg c2, if_neg (fun h => c2 ⟨by omega, h.2⟩)]
theorem Partly.keep {a b : Int} {j r : Nat} {x0 x : Int} (h : Partly a b j r x0 x) (hr : r < 8) (c : ¬ asked a b (8 * j + r)) : Partly a b j (r + 1) x0 x := by
  obtain ⟨h0, h1, h2⟩ := h
  refine ⟨h0, h1, fun q hq => ?_⟩
  rw [h2 q hq]
  by_cases e : q = r
  · subst e
    rw [if_neg (fun h => by omega), if_neg (fun h => c h.2)]
  · by_cases c2 : q < r ∧ asked a b (8 * j + q)
    · rw [if_pos c2, if_pos ⟨by omega, c2.2⟩]
    · rw [if_neg c2, if_neg (fun h => c2 ⟨by omega, h.2⟩)]
theorem Partly.byte {a b : Int} {j : Nat} {s : ByteArray} {x : Int} (h : Partly a b j 8 (bt s (j : Int)) x) (a0 : 0 ≤ a) (b0 : 0 ≤ b) (b1 : b < 4294967296) (hj : j < s.size) : x = bt (turned s a b) (j : Int) := by
  obtain ⟨h0, h1, h2⟩ := h
  have hr := bt_range (turned s a b) (j : Int)
  refine byte_ext _ _ h0 h1 hr.1 (by omega) fun q hq => ?_
  have h3 := turned_bit s a b a0 b0 b1 (8 * j + q) (by omega)
  rw [show (8 * j + q) / 8 = j by omega, show (8 * j + q) % 8 = q by omega] at h3
  rw [h2 q hq, h3]
  by_cases c : asked a b (8 * j + q)
  · rw [if_pos ⟨hq, c⟩, if_pos c]
  · rw [if_neg (fun h => c h.2), if_neg c]
theorem nums_append (xs ys : List Int) : strOfNums xs ++ strOfNums ys = strOfNums (xs ++ ys) := by
  apply ByteArray.ext
  rw [ByteArray.data_append]
  simp [strOfNums]
theorem shl8 (r : Nat) (hr : r < 8) : shl .u8 1 (r : Int) = 2 ^ r := by
  have hc : r = 0 ∨ r = 1 ∨ r = 2 ∨ r = 3 ∨ r = 4 ∨ r = 5 ∨ r = 6 ∨ r = 7 := by omega
  rcases hc with rfl | rfl | rfl | rfl | rfl | rfl | rfl | rfl <;> rfl
theorem shr32 (b z : Int) (h0 : 0 ≤ z) (h1 : z < 32) : shr .u32 b z = b / 2 ^ z.toNat := by
  unfold shr
  rw [show min z.toNat IntKind.u32.bits = z.toNat from Nat.min_eq_left (by show z.toNat ≤ 32; omega)]
theorem l1_run (x1 a b : Int) (s : ByteArray) (j : Nat) (ls : List PR) (c f0 : Int) (f : ByteArray) (f2 : Bool) (x0 : Int) (hj : j ≤ 1000) (a0 : 0 ≤ a) (a1 : a ≤ 1000000) (b0 : 0 ≤ b) (hs : s.size ≤ 1000) : ∀ (n r k : Nat) (x : Int), r + n = 8 → n < k → Partly a b j r x0 x →
    ∃ y, Partly a b j 8 x0 y ∧ tillerref16_Turn.l1 k x1 a b s (j : Int) x (r : Int) ls c f0 f f2 = tillerref16_Turn.l0 (k - n - 1) x1 a b (s ++ strOfNums [y]) ((j + 1 : Nat) : Int) ls c f0 f f2 := by
  intro n
  induction n with
  | zero =>
    intro r k x hr hk hx
    obtain ⟨k, rfl⟩ := succ_of_lt (show 0 < k by omega)
    obtain rfl : r = 8 := by omega
    refine ⟨x, hx, ?_⟩
    simp only [tillerref16_Turn.l1]
    rw [if_neg (by decide), Option.bind_some, if_pos (by rw [strOfNums_size]; show s.size + 1 ≤ _; omega), w64 (by omega) (by omega)]
    rfl
  | succ n ih =>
    intro r k x hr hk hx
    obtain ⟨k, rfl⟩ := succ_of_lt (show 0 < k by omega)
    have hz : wrap64 (wrap64 (wrap64 (8 * (j : Int)) + (r : Int)) - a) = ((8 * j + r : Nat) : Int) - a := by
      rw [w64 (x := 8 * (j : Int)) (by omega) (by omega), w64 (x := 8 * (j : Int) + (r : Int)) (by omega) (by omega), w64 (by omega) (by omega)]
      omega
    have hn : wrap64 ((r : Int) + 1) = ((r + 1 : Nat) : Int) := by rw [w64 (by omega) (by omega)]; omega
    have hk2 : k + 1 - (n + 1) - 1 = k - n - 1 := by omega
    simp only [tillerref16_Turn.l1, hz, hn]
    rw [if_pos (by omega), hk2]
    by_cases c1 : ((8 * j + r : Nat) : Int) - a ≥ 0
    · rw [if_pos c1]
      by_cases c2 : ((8 * j + r : Nat) : Int) - a < 32
      · rw [if_pos c2, if_pos c1, shr32 _ _ c1 c2, Int.tmod_eq_emod_of_nonneg (Int.ediv_nonneg b0 (Int.pow_nonneg (by decide)))]
        by_cases c3 : (b / 2 ^ (((8 * j + r : Nat) : Int) - a).toNat) % 2 = 1
        · rw [if_pos c3, if_pos (by omega), shl8 r (by omega)]
          exact ih (r + 1) k _ (by omega) (by omega) (hx.turn (by omega) ⟨by omega, by omega, c3⟩)
        · rw [if_neg c3]
          exact ih (r + 1) k _ (by omega) (by omega) (hx.keep (by omega) (fun h => c3 h.2.2))
      · rw [if_neg c2]
        exact ih (r + 1) k _ (by omega) (by omega) (hx.keep (by omega) (fun h => c2 (by have := h.2.1; omega)))
    · rw [if_neg c1]
      exact ih (r + 1) k _ (by omega) (by omega) (hx.keep (by omega) (fun h => c1 (by have := h.1; omega)))
theorem l0_run (i : Nat) (a b : Int) (l : List PC) (c : Int) (f0 : Int) (f : ByteArray) (a0 : 0 ≤ a) (a1 : a ≤ 1000000) (b0 : 0 ≤ b) (b1 : b < 4294967296) (hf : f.size ≤ 1000) (hl : l.length ≤ 256) (hi : i < l.length) : ∀ (n j k : Nat) (s : ByteArray), j + n = f.size → 10 * n < k → s = strOfNums ((bytesOf (turned f a b)).take j) →
    tillerref16_Turn.l0 k (i : Int) a b s (j : Int) (l.map cv) c f0 f false = some ((l.set i ⟨f0, turned f a b, true⟩).map cv, c, 0) := by
  have htl : (bytesOf (turned f a b)).length = f.size := by rw [bytesOf_length, turned_size]
  intro n
  induction n with
  | zero =>
    intro j k s hj hk hs
    obtain ⟨k, rfl⟩ := succ_of_lt (show 0 < k by omega)
    simp only [tillerref16_Turn.l0]
    have e : s = turned f a b := by
      rw [hs, List.take_of_length_le (by omega)]
      unfold turned
      rw [bytes_nums _ (steps_bit (whole_bytes f) (bytesOf_length f) a0 b0 b1 32).1]
    rw [if_neg (by omega), Option.bind_some, if_pos (by rw [List.length_map, List.length_nil]; omega), Option.bind_some, if_pos (by omega), if_pos (by rw [List.nil_append, List.length_map]; omega), Int.toNat_natCast, List.nil_append, List.map_set, e]
    rfl
  | succ n ih =>
    intro j k s hj hk hs
    obtain ⟨k, rfl⟩ := succ_of_lt (show 0 < k by omega)
    simp only [tillerref16_Turn.l0]
    rw [if_pos (by omega), if_pos (by omega)]
    have hr := bt_range f (j : Int)
    have hss : s.size ≤ 1000 := by rw [hs, strOfNums_size, List.length_take]; omega
    obtain ⟨y, hy, he⟩ := l1_run (i : Int) a b s j (l.map cv) c f0 f false (bt f (j : Int)) (by omega) a0 a1 b0 hss 8 0 k (bt f (j : Int)) (by omega) (by omega) (Partly.start a b j _ hr.1 (by omega))
    have hyb := hy.byte a0 b0 b1 (by omega)
    rw [show ((0 : Nat) : Int) = 0 from rfl] at he
    rw [he]
    refine ih (j + 1) _ _ (by omega) (by omega) ?_
    rw [hs, nums_append]
    congr 1
    rw [List.take_succ_eq_append_getElem (by omega)]
    congr 1
    rw [hyb, ← rd_bytesOf]
    unfold rd
    rw [Int.toNat_natCast, List.getD_eq_getElem?_getD, List.getElem?_eq_getElem (by omega)]
    rfl
theorem ref_turn (l : List PC) (c i a b : Int) (ha : -9223372036854775808 ≤ a ∧ a ≤ 9223372036854775807) (b0 : 0 ≤ b) (b1 : b < 4294967296) (hl : l.length ≤ 256) (hf : ∀ p ∈ l, p.f1.size ≤ 1000) :
    tillerref16_Turn.f 20000 (l.map cv) c i a b = some ((nTurn ⟨l, c⟩ i a b).1.way.map cv, (nTurn ⟨l, c⟩ i a b).1.lost, (nTurn ⟨l, c⟩ i a b).2) := by
  unfold tillerref16_Turn.f tillerref16_there.f nTurn
  by_cases h : i < 0 ∨ i ≥ (l.length : Int)
  · rw [if_pos h]
    by_cases h0 : i ≥ 0
    · rw [if_pos h0, Option.bind_some, decide_eq_false (by rw [List.length_map]; omega), if_neg (by decide)]
    · rw [if_neg h0, Option.bind_some, if_neg (by decide)]
  · obtain ⟨n, rfl⟩ : ∃ n : Nat, i = (n : Int) := ⟨i.toNat, (Int.toNat_of_nonneg (by omega)).symm⟩
    have hn : n < l.length := by omega
    have hm : pcl l (n : Int) ∈ l := by
      unfold pcl
      rw [Int.toNat_natCast, List.getD_eq_getElem?_getD, List.getElem?_eq_getElem hn]
      exact List.getElem_mem hn
    have hfs := hf _ hm
    rw [if_neg h, if_pos (by omega), Option.bind_some, decide_eq_true (by rw [List.length_map]; omega), if_pos rfl, if_pos (by omega), if_pos (by rw [List.length_map]; omega), ref_at l n hn]
    obtain ⟨p, hp⟩ : ∃ p, pcl l (n : Int) = p := ⟨_, rfl⟩
    rw [hp] at hfs ⊢
    by_cases h1 : a < 0
    · rw [if_pos h1, if_pos (.inl h1)]
      simp only [tillerref16_Turn.j0]
      rfl
    · rw [if_neg h1]
      have hd : wrap64 (a.tdiv 8) = a / 8 := by rw [Int.tdiv_eq_ediv_of_nonneg (by omega), w64 (by omega) (by omega)]
      rw [hd]
      by_cases h2 : a ≥ 8 * (p.f1.size : Int)
      · rw [if_pos (.inr h2), decide_eq_true (show a / 8 ≥ (((cv p).f1.size : Nat) : Int) from by show a / 8 ≥ ((p.f1.size : Nat) : Int); omega)]
        simp only [tillerref16_Turn.j0]
        rfl
      · rw [if_neg (by omega), decide_eq_false (show ¬ a / 8 ≥ (((cv p).f1.size : Nat) : Int) from by show ¬ a / 8 ≥ ((p.f1.size : Nat) : Int); omega)]
        simp only [tillerref16_Turn.j0]
        rw [if_neg (by decide)]
        by_cases h3 : p.f2 = true
        · rw [if_pos h3, if_pos (show (cv p).f2 = true from h3)]
        · rw [if_neg h3, if_neg (show ¬ (cv p).f2 = true from h3)]
          have h4 : (cv p).f2 = false := by simpa [cv] using h3
          rw [h4]
          have := l0_run n a b l c p.f0 p.f1 (by omega) (by omega) b0 b1 hfs hl hn p.f1.size 0 19999 ⟨#[]⟩ (by omega) (by omega) rfl
          exact this
end Go.Proofs.Ytmcdgachfkkpeaa.ONet
