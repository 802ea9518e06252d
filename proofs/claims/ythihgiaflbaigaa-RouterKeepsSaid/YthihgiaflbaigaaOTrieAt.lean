/- A trie's reads, walked by hand: at, Get, Count. -/
import Derived.Test.YthihgiaflbaigaaOTrie
import Derived.Test.YthihgiaflbaigaaGQx1
import Derived.BigQuiet
import Derived.Deep.QuietTactic
set_option linter.unusedVariables false
set_option linter.unusedSimpArgs false
namespace Go.Proofs.Ythihgiaflbaigaa.OTrie
open Go.RowKit Go.Proofs.YthihgiaflbaigaaW.PrintWords Go.Proofs.YthihgiaflbaigaaW.PrintLast Go.Proofs.YthihgiaflbaigaaW.PrintMore Go.Proofs.Ythihgiaflbaigaa.GQ Go.Proofs.Ythihgiaflbaigaa.OMap Go.Proofs.Ythihgiaflbaigaa.UTrie
abbrev kI : Kd Int := Kd.int .i64
abbrev adr (x : Option (Nat × Nat)) : Value := .pointer (x.map fun q => ⟨q.1, q.2, none⟩)
theorem look_kid {W : World} {g o N : Nat} {X : TX} (h : TrieAt W g o N X) {p : Row} (hp : X.nd p ≠ none) {x : Int} (hx : i64 x) :
    (Instr.lookup 73 (.map (X.mp p)) (.int .i64 x) false).run Try.prog W = .ok (adr (X.nd (p ++ [x]))) W := by
  cases hm : X.mp p with
  | none =>
    rw [look_nil W hx, h.nomap p hp hm x]
    rfl
  | some m =>
    rw [(h.map p m hp hm).look hx]
    unfold kidOf
    cases hk : X.nd (p ++ [x]) with
    | none => rfl
    | some q =>
      obtain ⟨a, b⟩ := q
      have := h.kid p x a b hk
      subst this
      rfl
theorem at_int {w : World} {A : Option Addr} {n : Nat} {l : List Int} (h : Kd.C kI w A n l) (i : Nat) (hi : i < n) : ∃ ad, A = some ad ∧ w.cell? (ad.add i) = some (.int .i64 (rd l i)) := by
  obtain ⟨ad, c, e, _, hK, hc⟩ := Kd.C_get h 0 (i : Int) (by omega) (by omega)
  have hk : c = [.int .i64 (l.getD i 0)] := hK
  subst hk
  refine ⟨ad, e, ?_⟩
  have := hc 0 _ rfl
  have h2 : w.cell? (ad.add (i * 1 + 0)) = some (.int .i64 (l.getD i 0)) := this
  rw [Nat.mul_one, Nat.add_zero] at h2
  exact h2
theorem take_snoc (l : List Int) (i : Nat) (hi : i < l.length) : l.take (i + 1) = l.take i ++ [rd l i] := by
  rw [List.take_succ_eq_append_getElem (l := l) (i := i) hi]
  unfold rd
  rw [Int.toNat_natCast, List.getD_eq_getElem?_getD, List.getElem?_eq_getElem hi]
  rfl
theorem rd_mem (l : List Int) (i : Nat) (hi : i < l.length) : rd l i ∈ l := by
  unfold rd
  rw [Int.toNat_natCast, List.getD_eq_getElem?_getD, List.getElem?_eq_getElem hi]
  exact List.getElem_mem hi
set_option maxHeartbeats 4000000 in
set_option maxRecDepth 100000 in
theorem at_calls (g o N : Nat) (X : TX) (A : Option Addr) (c : Nat) (l : List Int) (w : World) (h : TrieAt w g o N X) (hl : Kd.C kI w A l.length l) (hi : ∀ x ∈ l, i64 x) :
    Calls Try.prog 47 #[.pointer (some ⟨g, o, none⟩), .slice A l.length c] w fun e w' => e = .returned (adr (X.nd l)) ∧ w = w' := by
  have HT := Aside0.mk h
  have HL := Aside0.mk hl
  have HI := Aside0.mk hi
  obtain ⟨n, hn⟩ : ∃ n, l.length = n := ⟨_, rfl⟩
  have HN := Aside0.mk hn
  have hmax : n ≤ 9223372036854775807 := by rw [← hn]; exact hl.2.1
  rw [hn] at hl ⊢
  have R0 := Aside0.mk h.root
  clear h hl hi hn
  go_enter Try.func47, Try.ntmps47
  go_wp2
  go_loopg [5, 13] n (fun kq v5 v13 w' => ∃ (i a b : Nat), v5 = .pointer (some ⟨a, b, none⟩) ∧ v13 = .int .i64 (i : Int) ∧ Aside0 (i + kq = n) ∧ Aside0 (X.nd (l.take i) = some (a, b)) ∧ w' = w)
  case atStart => exact ⟨0, g, o, rfl, rfl, ⟨Nat.zero_add _⟩, R0, rfl⟩
  case round =>
    obtain ⟨i, a, b, rfl, rfl, HJ, HP, rfl⟩ := hrel
    have hj := HJ.out
    cases gk with
    | succ k =>
      have d1 : decide (i < n) = true := decide_eq_true (by omega)
      have p1 : 0 ≤ (i : Int) := by omega
      have q1 : (i : Int) < (n : Int) := by omega
      obtain ⟨ad, e0, hx0⟩ := at_int HL.out i (by rw [HN.out]; omega)
      cases e0
      obtain ⟨c0, c1, c2, c3⟩ := (HT.out.node _ a b HP.out).cells
      have hlk := look_kid HT.out (p := l.take i) (by rw [HP.out]; simp) (HI.out _ (rd_mem l i (by rw [HN.out]; omega)))
      have ET := Aside0.mk (take_snoc l i (by rw [HN.out]; omega))
      rw [← ET.out] at hlk
      obtain ⟨x, hx⟩ : ∃ x, rd l i = x := ⟨_, rfl⟩
      rw [hx] at hx0 hlk
      generalize X.mp (l.take i) = m at c0 hlk
      clear hj c1 c2 c3 hx
      cases hk : X.nd (l.take (i + 1)) with
      | none =>
        rw [hk] at hlk
        simp only [adr, Option.map_some, Option.map_none] at hlk
        have E := Aside0.mk (show X.nd l = none by
          cases h2 : X.nd l with
          | none => rfl
          | some q =>
            have := pre_all HT.out (l.drop (i + 1)) (l.take (i + 1)) (by rw [List.take_append_drop, h2]; simp)
            exact absurd hk this)
        clear hk
        go_wp2
        go_ret
        exact ⟨by rw [E.out]; rfl, rfl⟩
      | some q =>
        obtain ⟨a', b'⟩ := q
        have HQ := Aside0.mk hk
        rw [hk] at hlk
        simp only [adr, Option.map_some, Option.map_none] at hlk
        clear hk
        go_wp2
        go_roundg k
        case measure => omega
        case rel => exact ⟨i + 1, a', b', rfl, by go_num, ⟨by have := HJ.out; omega⟩, HQ, rfl⟩
    | zero =>
      have hin : i = n := by omega
      have E := Aside0.mk (show X.nd l = some (a, b) by rw [← HP.out, List.take_of_length_le (by rw [HN.out]; omega)])
      subst hin
      have d1 : decide (i < i) = false := decide_eq_false (by omega)
      clear hj
      go_wp2
      go_ret
      exact ⟨by rw [E.out]; rfl, rfl⟩
/-- How many rows there are, as the trie's own count has it. -/
def CntAt (W : World) (g o : Nat) (c : Int) : Prop := ∃ cs t, W.heap[g]? = some (.cells cs t (0, 0)) ∧ cs[o + 3]? = some (.int .i64 c)
theorem CntAt.cell {W : World} {g o : Nat} {c : Int} (h : CntAt W g o c) : W.cell? ⟨g, o + 3, none⟩ = some (.int .i64 c) ∧ W.frozen? ⟨g, o + 3, none⟩ = false := by
  obtain ⟨cs, t, h1, h2⟩ := h
  exact ⟨(blk_cell h1 _).trans h2, blk_frozen h1 _⟩
theorem CntAt.below {W W' : World} {g o : Nat} {c : Int} (h : CntAt W g o c) (hb : Below W.heap.size W W') : CntAt W' g o c := by
  obtain ⟨cs, t, h1, h2⟩ := h
  exact ⟨cs, t, blk_below h1 hb, h2⟩
theorem long_le (val : Row → Option Int) (t : Row) : ∀ n, (long val t n).1 ≤ n
  | 0 => Nat.le_refl _
  | n + 1 => by
    unfold long
    split
    · exact Nat.le_refl _
    · exact Nat.le_succ_of_le (long_le val t n)
theorem long_some {val : Row → Option Int} {t : Row} {n : Nat} {v : Int} (h : val (t.take (n + 1)) = some v) : long val t (n + 1) = (n + 1, v) := by
  simp only [long, h]
theorem long_none {val : Row → Option Int} {t : Row} {n : Nat} (h : val (t.take (n + 1)) = none) : long val t (n + 1) = long val t n := by
  simp only [long, h]
theorem long_none_all {val : Row → Option Int} {t : Row} {n : Nat} : ∀ (d : Nat), (∀ j, n < j → j ≤ n + d → val (t.take j) = none) → long val t (n + d) = long val t n
  | 0, _ => rfl
  | d + 1, h => by
    rw [← Nat.add_assoc, long_none (h (n + d + 1) (by omega) (by omega))]
    exact long_none_all d (fun j h1 h2 => h j h1 (by omega))
set_option maxHeartbeats 8000000 in
set_option maxRecDepth 100000 in
theorem longest_calls (g o N : Nat) (X : TX) (A : Option Addr) (c : Nat) (l : List Int) (w : World) (h : TrieAt w g o N X) (hl : Kd.C kI w A l.length l) (hi : ∀ x ∈ l, i64 x) :
    Calls Try.prog 37 #[.pointer (some ⟨g, o, none⟩), .slice A l.length c] w fun e w' => e = .returned (.tuple #[.int .i64 ((long X.val l l.length).1 : Int), .int .i64 (long X.val l l.length).2]) ∧ Below w.heap.size w w' := by
  have HT := Aside0.mk h
  have HL := Aside0.mk hl
  have HI := Aside0.mk hi
  obtain ⟨n, hn⟩ : ∃ n, l.length = n := ⟨_, rfl⟩
  have HN := Aside0.mk hn
  have hmax : n ≤ 9223372036854775807 := by rw [← hn]; exact hl.2.1
  rw [hn] at hl ⊢
  have R0 := Aside0.mk h.root
  clear h hl hi hn
  go_enter Try.func37, Try.ntmps37
  go_wp2
  go_loopg [6, 7, 8, 16] n (fun kq v6 v7 v8 v16 w' => ∃ (i a b : Nat), v6 = .int .i64 ((long X.val l i).1 : Int) ∧ v7 = .int .i64 (long X.val l i).2 ∧ v8 = .pointer (some ⟨a, b, none⟩) ∧ v16 = .int .i64 (i : Int) ∧ Aside0 (i + kq = n) ∧ Aside0 (X.nd (l.take i) = some (a, b)) ∧ Aside0 (Below w.heap.size w w'))
  case atStart => exact ⟨0, g, o, rfl, rfl, rfl, rfl, ⟨Nat.zero_add _⟩, R0, ⟨Below.refl _ _⟩⟩
  case round =>
    obtain ⟨i, a, b, rfl, rfl, rfl, rfl, HJ, HP, HB⟩ := hrel
    have hj := HJ.out
    cases gk with
    | succ k =>
      have HW := Aside0.mk (HT.out.below HB.out)
      have d1 : decide (i < n) = true := decide_eq_true (by omega)
      have p1 : 0 ≤ (i : Int) := by omega
      have q1 : (i : Int) < (n : Int) := by omega
      obtain ⟨ad, e0, hx0⟩ := at_int (Kd.C_below HL.out HB.out) i (by rw [HN.out]; omega)
      cases e0
      obtain ⟨c0, c1, c2, c3⟩ := (HW.out.node _ a b HP.out).cells
      have hlk := look_kid HW.out (p := l.take i) (by rw [HP.out]; simp) (HI.out _ (rd_mem l i (by rw [HN.out]; omega)))
      have ET := Aside0.mk (take_snoc l i (by rw [HN.out]; omega))
      rw [← ET.out] at hlk
      obtain ⟨x, hx⟩ : ∃ x, rd l i = x := ⟨_, rfl⟩
      rw [hx] at hx0 hlk
      generalize X.mp (l.take i) = m at c0 hlk
      clear hj c1 c2 c3 hx
      cases hk : X.nd (l.take (i + 1)) with
      | none =>
        rw [hk] at hlk
        simp only [adr, Option.map_some, Option.map_none] at hlk
        have E := Aside0.mk (show long X.val l n = long X.val l i by
          have hji := HJ.out
          obtain ⟨d, rfl⟩ : ∃ d, n = i + d := ⟨n - i, by omega⟩
          refine long_none_all d (fun j h1 h2 => ?_)
          cases hv : X.val (l.take j) with
          | none => rfl
          | some v =>
            have h3 := HT.out.there (l.take j) (by rw [hv]; simp)
            have h4 := pre_all HT.out ((l.take j).drop (i + 1)) (l.take (i + 1)) (by rw [show l.take (i + 1) = (l.take j).take (i + 1) by rw [List.take_take, Nat.min_eq_left (by omega)], List.take_append_drop]; exact h3)
            exact absurd hk h4)
        clear hk
        go_wp2
        go_ret2
        exact ⟨by rw [E.out]; rfl, HB.out⟩
      | some q =>
        obtain ⟨a', b'⟩ := q
        have HQ := Aside0.mk hk
        rw [hk] at hlk
        simp only [adr, Option.map_some, Option.map_none] at hlk
        obtain ⟨y0, y1, y2, y3⟩ := (HW.out.node _ a' b' hk).cells
        clear hk
        cases hv : X.val (l.take (i + 1)) with
        | none =>
          have E := Aside0.mk (long_none hv)
          rw [hv] at y1
          simp only [Option.isSome_none] at y1
          clear hv y2 y0 y3
          go_wp2
          go_roundg k
          case measure => omega
          case rel => exact ⟨i + 1, a', b', by rw [E.out], by rw [E.out], rfl, by go_num, ⟨by have := HJ.out; omega⟩, HQ, HB⟩
        | some v =>
          have E := Aside0.mk (long_some hv)
          rw [hv] at y1 y2
          simp only [Option.isSome_some, Option.getD_some] at y1 y2
          have iw : IntKind.i64.wrap ((i : Int) + 1) = (i : Int) + 1 := by unfold IntKind.wrap; simp [IntKind.signed, IntKind.bits]; omega
          clear hv y0 y3
          go_wp2
          go_quiet (fail)
          go_wp2
          go_roundg k
          case measure => omega
          case rel => exact ⟨i + 1, a', b', by rw [E.out]; go_num, by rw [E.out], rfl, by go_num, ⟨by have := HJ.out; omega⟩, HQ, ⟨HB.out.trans ((pw_below_drewN (Below.refl _ _) _).mono HB.out.size)⟩⟩
    | zero =>
      have hin : i = n := by omega
      subst hin
      have d1 : decide (i < i) = false := decide_eq_false (by omega)
      clear hj
      go_wp2
      go_ret2
      exact ⟨rfl, HB.out⟩
end Go.Proofs.Ythihgiaflbaigaa.OTrie
