/- VecJoined: the pure statement. -/
import Derived.Test.YtefimleoffaggaaGQx3
import Derived.Test.YtefimleoffaggaaUVec
import Derived.Test.YtefimleoffaggaaUArg
import Derived.Test.YtefimleoffaggaaUAwake3
set_option linter.unusedVariables false
namespace Go.Proofs.Ytefimleoffaggaa.Pure
open Go.RowKit Go.Proofs.YtefimleoffaggaaW.PrintWords Go.Proofs.YtefimleoffaggaaW.PrintLast Go.Proofs.YtefimleoffaggaaW.PrintMore Go.Proofs.Ytefimleoffaggaa.GQ Go.Proofs.Ytefimleoffaggaa.U
/-- Numbers below 2^16 in size. -/
def Sm (l : List Int) : Prop := ∀ x ∈ l, -65535 ≤ x ∧ x ≤ 65535
theorem Sm.i32 {l : List Int} (h : Sm l) : I32 l := fun x hx => by have := h x hx; omega
theorem small_loop (l : List Int) (m : Nat) (hm : m ≤ l.length) (hn : m ≤ 100) : ∀ (d i k : Nat) (acc : List Int), m - i = d → i ≤ m → d + 1 ≤ k → acc.length = i → Sm acc →
    ∃ r, tillerlaw03_small.l0 k l (m : Int) acc (i : Int) = some r ∧ r.length = m ∧ Sm r := by
  intro d
  induction d with
  | zero =>
    intro i k acc hd hi hk ha hs
    obtain ⟨k, rfl⟩ := succ_of_lt (show 0 < k by omega)
    refine ⟨acc, ?_, by omega, hs⟩
    simp only [tillerlaw03_small.l0]
    rw [if_neg (by omega)]
  | succ d ih =>
    intro i k acc hd hi hk ha hs
    obtain ⟨k, rfl⟩ := succ_of_lt (show 0 < k by omega)
    simp only [tillerlaw03_small.l0]
    rw [if_pos (by omega), if_pos (by omega), if_pos (by omega), if_pos (by omega), w64 (x := (i : Int) + 1) (by omega) (by omega), ← Int.natCast_one, ← Int.natCast_add]
    refine ih (i + 1) k _ (by omega) (by omega) (by omega) (by simp [ha]) (fun x hx => ?_)
    rcases List.mem_append.1 hx with hx | hx
    · exact hs x hx
    · rw [List.mem_singleton.1 hx]
      have h1 := Int.tmod_lt_of_pos (rd l i) (show (0 : Int) < 65536 by omega)
      have h2 : -65536 < Int.tmod (rd l i) 65536 := by
        have := Int.tmod_lt_of_pos (-(rd l i)) (show (0 : Int) < 65536 by omega)
        rw [Int.neg_tmod] at this; omega
      omega
theorem small_eq {k : Nat} (l : List Int) (m : Nat) (hm : m ≤ l.length) (hn : m ≤ 100) (hk : 200 ≤ k) : ∃ r, tillerlaw03_small.f k l (m : Int) = some r ∧ r.length = m ∧ Sm r := by
  have := small_loop l m hm hn m 0 k [] (by omega) (by omega) (by omega) rfl (fun x hx => by simp at hx)
  rw [Int.natCast_zero] at this
  exact this
theorem sm_mul {a b : Int} (h1 : -65535 ≤ a) (h2 : a ≤ 65535) (h3 : -65535 ≤ b) (h4 : b ≤ 65535) : -4294967296 ≤ a * b ∧ a * b ≤ 4294967296 := by
  have := mul_bound (A := 65535) (B := 65535) (by omega) h1 h2 h3 h4
  omega
/-- Sums of small products go through: no clamp. -/
theorem dots_small : ∀ (a b : List Int) (s : Int) (n : Nat), Sm a → Sm b → a.length ≤ n → n ≤ 1000 → -(4294967296 * (1000 - (n : Int))) ≤ s → s ≤ 4294967296 * (1000 - (n : Int)) →
    dots a b s = s + dots a b 0 ∧ -(4294967296 * (a.length : Int)) ≤ dots a b 0 ∧ dots a b 0 ≤ 4294967296 * (a.length : Int)
  | [], _, s, n, _, _, _, _, _, _ => by simp [dots]
  | _ :: _, [], s, n, _, _, _, _, _, _ => by simp only [dots, List.length_cons]; omega
  | x :: a, y :: b, s, n, ha, hb, hl, hn, h1, h2 => by
    have hx := ha x (by simp)
    have hy := hb y (by simp)
    have hm := sm_mul hx.1 hx.2 hy.1 hy.2
    obtain ⟨n, rfl⟩ : ∃ m, n = m + 1 := ⟨n - 1, by simp at hl; omega⟩
    have hl' : a.length ≤ n := by simpa using hl
    have ha' : Sm a := fun z hz => ha z (by simp [hz])
    have hb' : Sm b := fun z hz => hb z (by simp [hz])
    simp only [dots]
    rw [cl_id (z := s + x * y) (by omega) (by omega), cl_id (z := 0 + x * y) (by omega) (by omega)]
    have i1 := dots_small a b (s + x * y) n ha' hb' hl' (by omega) (by omega) (by omega)
    have i2 := dots_small a b (0 + x * y) n ha' hb' hl' (by omega) (by omega) (by omega)
    rw [i1.1, i2.1, List.length_cons]
    omega
theorem dots_app : ∀ (a b : List Int) (c d : List Int) (s : Int), a.length = b.length → dots (a ++ c) (b ++ d) s = dots c d (dots a b s)
  | [], [], _, _, _, _ => rfl
  | [], _ :: _, _, _, _, h => by simp at h
  | _ :: _, [], _, _, _, h => by simp at h
  | x :: a, y :: b, c, d, s, h => by simp only [List.cons_append, dots]; exact dots_app a b c d _ (by simpa using h)
theorem joined_loop (x : List Int) (miss : Int) (at_ : Int) (hn : x.length ≤ 100) (hat : IsArg x at_) (m1 : -1 ≤ miss) (m2 : miss ≤ 1) : ∀ (d i k : Nat), x.length - i = d → i ≤ x.length → d + 5001 ≤ k →
    tillerlaw03_VecJoined.l0 k x miss at_ x (x.length : Int) (i : Int) = some true := by
  intro d
  induction d with
  | zero =>
    intro i k hd hi hk
    obtain ⟨k, rfl⟩ := succ_of_lt (show 0 < k by omega)
    simp only [tillerlaw03_VecJoined.l0]
    rw [if_neg (by omega), awake3 (by omega), Option.bind_some, if_pos rfl, if_pos (by omega), decide_eq_true m2]
  | succ d ih =>
    intro i k hd hi hk
    obtain ⟨k, rfl⟩ := succ_of_lt (show 0 < k by omega)
    have step := ih (i + 1) k (by omega) (by omega) (by omega)
    rw [Int.natCast_add, Int.natCast_one] at step
    rcases hat with ⟨rfl, _⟩ | ⟨a, rfl, ha, h1, h2⟩
    · simp at hd
    · simp only [tillerlaw03_VecJoined.l0]
      rw [if_pos (by omega), if_pos (by omega), if_pos (by omega), if_neg (by omega), if_pos (by omega), if_pos (by omega), if_neg (by have := h1 i (by omega); omega), w64 (x := (i : Int) + 1) (by omega) (by omega)]
      by_cases hia : i < a
      · rw [if_pos (by omega), if_neg (by have := h2 i hia; omega)]; exact step
      · rw [if_neg (by omega)]; exact step
theorem VecJoined : ∀ (l0 : List Int) (l1 : List Int) (l2 : List Int) (l3 : List Int), (l0.length * 4 ≤ 140737488351232 ∧ l0.length ≤ maxLen ∧ ∀ x0 ∈ l0, (Lit.int .i32 x0).wf = true) → (l1.length * 4 ≤ 140737488351232 ∧ l1.length ≤ maxLen ∧ ∀ x0 ∈ l1, (Lit.int .i32 x0).wf = true) → (l2.length * 4 ≤ 140737488351232 ∧ l2.length ≤ maxLen ∧ ∀ x0 ∈ l2, (Lit.int .i32 x0).wf = true) → (l3.length * 4 ≤ 140737488351232 ∧ l3.length ≤ maxLen ∧ ∀ x0 ∈ l3, (Lit.int .i32 x0).wf = true) → ∃ k, tillerlaw03_VecJoined.f k l0 l1 l2 l3 = some true := by
  intro l0 l1 l2 l3 _ _ _ _
  refine ⟨10000, ?_⟩
  have hmn : ∀ a b : List Int, ∃ m : Nat, mn (mn (a.length : Int) (b.length : Int)) 100 = (m : Int) ∧ m ≤ a.length ∧ m ≤ b.length ∧ m ≤ 100 := by
    intro a b
    refine ⟨min (min a.length b.length) 100, ?_, by omega, by omega, by omega⟩
    unfold mn; (repeat' split) <;> omega
  obtain ⟨n, hn, n1, n2, n3⟩ := hmn l0 l1
  obtain ⟨m, hm, m1, m2, m3⟩ := hmn l2 l3
  unfold tillerlaw03_VecJoined.f
  rw [hn, hm]
  obtain ⟨x, hx, lx, sx⟩ := small_eq (k := 10000) l0 n n1 n3 (by omega)
  obtain ⟨y, hy, ly, sy⟩ := small_eq (k := 10000) l1 n n2 n3 (by omega)
  obtain ⟨z, hz, lz, sz⟩ := small_eq (k := 10000) l2 m m1 m3 (by omega)
  obtain ⟨w, hw, lw, sw⟩ := small_eq (k := 10000) l3 m m2 m3 (by omega)
  rw [hx, Option.bind_some, hy, Option.bind_some, hz, Option.bind_some, hw, Option.bind_some]
  have f1 : fitv x y = 0 := fitv_ok (by omega) (by omega)
  have f2 : fitv z w = 0 := fitv_ok (by omega) (by omega)
  have sxz : Sm (x ++ z) := fun v hv => (List.mem_append.1 hv).elim (sx v) (sz v)
  have syw : Sm (y ++ w) := fun v hv => (List.mem_append.1 hv).elim (sy v) (sw v)
  have f3 : fitv (x ++ z) (y ++ w) = 0 := fitv_ok (by simp; omega) (by simp; omega)
  rw [Dot_eq sx.i32 sy.i32 (by omega), Option.bind_some, Dot_eq sz.i32 sw.i32 (by omega), Option.bind_some, Few_eq (by omega) (by omega), Option.bind_some, Few_eq (by omega) (by omega), Option.bind_some, Int.toNat_natCast, List.take_of_length_le (by omega), List.take_of_length_le (by omega),
    if_pos (by omega), if_pos (by omega), Dot_eq sxz.i32 syw.i32 (by omega), Option.bind_some]
  simp only [if_pos f1, if_pos f2, if_pos f3]
  rw [if_pos trivial, if_pos trivial]
  obtain ⟨at_, hat, hat1⟩ := Argmax_eq (k := 9999) x (by omega) (by omega)
  obtain ⟨k, hk⟩ : ∃ k, 10000 = k + 1 := ⟨9999, rfl⟩
  rw [hk]
  simp only [tillerlaw03_VecJoined.j0]
  rw [if_neg (by simp)]
  obtain rfl : k = 9999 := by omega
  rw [hat, Option.bind_some]
  have d1 := dots_small x y 0 100 sx sy (by omega) (by omega) (by omega) (by omega)
  have d2 := dots_small z w (dots x y 0) 100 sz sw (by omega) (by omega) (by omega) (by omega)
  have d3 : dots (x ++ z) (y ++ w) 0 = dots x y 0 + dots z w 0 := by rw [dots_app _ _ _ _ _ (by omega)]; exact d2.1
  have key : ∀ p : Int, -429496729600 * 2 ≤ p → p ≤ 429496729600 * 2 → 2 * (65536 * sat (rnd p 65536)) ≤ 2 * p + 65536 ∧ 2 * p - 65536 ≤ 2 * (65536 * sat (rnd p 65536)) ∧ -14000000 ≤ sat (rnd p 65536) ∧ sat (rnd p 65536) ≤ 14000000 := by
    intro p p1 p2
    have h := rnd_near (x := p) (d := 65536) (by omega)
    rw [sat_id (x := rnd p 65536) (by omega) (by omega)]
    omega
  have k1 := key (dots x y 0) (by omega) (by omega)
  have k2 := key (dots z w 0) (by omega) (by omega)
  have k3 := key (dots x y 0 + dots z w 0) (by omega) (by omega)
  unfold dotv
  rw [d3]
  generalize sat (rnd (dots x y 0) 65536) = p at *
  generalize sat (rnd (dots z w 0) 65536) = q at *
  generalize sat (rnd (dots x y 0 + dots z w 0) 65536) = r at *
  rw [w64 (x := r) (by omega) (by omega), w64 (x := p) (by omega) (by omega), w64 (x := q) (by omega) (by omega), w64 (x := r - p) (by omega) (by omega), w64 (x := r - p - q) (by omega) (by omega)]
  have := joined_loop x (r - p - q) at_ (by omega) hat1 (by omega) (by omega) x.length 0 9999 (by omega) (by omega) (by omega)
  rw [Int.natCast_zero] at this
  exact this
end Go.Proofs.Ytefimleoffaggaa.Pure
