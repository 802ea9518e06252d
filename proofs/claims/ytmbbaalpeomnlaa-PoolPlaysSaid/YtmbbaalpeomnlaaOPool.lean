/- The pool's pages and idle row in memory; (*Pool).at, walked by hand. -/
import Derived.Test.YtmbbaalpeomnlaaGQx2
import Derived.Test.YtmbbaalpeomnlaaWKept
import Derived.Test.YtmbbaalpeomnlaaWQPut
import Derived.Outline
set_option linter.unusedVariables false
set_option linter.unusedSimpArgs false
namespace Go.Proofs.Ytmbbaalpeomnlaa.OPool
open Go.RowKit Go.Proofs.YtmbbaalpeomnlaaW.PrintWords Go.Proofs.YtmbbaalpeomnlaaW.PrintLast Go.Proofs.YtmbbaalpeomnlaaW.PrintMore Go.Proofs.Ytmbbaalpeomnlaa.GQ
abbrev PG := S55
/-- A page's cells, and a row's. -/
def pcells (p : PG) : List Value := [.int .i64 p.f0, .bool p.f1, .int .i64 p.f2]
def pblock (ps : List PG) : Array Value := (ps.flatMap pcells).toArray
def pg (ps : List PG) (i : Int) : PG := ps.getD i.toNat z55
/-- The pool's variable and its pages in memory. -/
def Raw (W : World) (g b : Nat) (vi : Value) (ps : List PG) : Prop :=
  W.heap[g]? = some (.cells #[.slice (some ⟨b, 0, none⟩) ps.length ps.length, vi] 52 (0, 0)) ∧ W.heap[b]? = some (.cells (pblock ps) 55 (0, 0))
theorem pblock_at : ∀ (ps : List PG) (i j : Nat), i < ps.length → j < 3 → (pblock ps)[i * 3 + j]? = (pcells (ps.getD i z55))[j]? := by
  intro ps
  induction ps with
  | nil => intro i j h; simp at h
  | cons p ps ih =>
    intro i j h hj
    unfold pblock at ih ⊢
    rw [List.getElem?_toArray] at *
    rw [List.flatMap_cons]
    cases i with
    | zero =>
      rw [List.getElem?_append_left (by simp [pcells]; omega)]
      simp
    | succ i =>
      rw [List.getElem?_append_right (by simp [pcells]; omega)]
      have := ih i j (by simpa using h) hj
      rw [List.getElem?_toArray] at this
      rw [show (i + 1) * 3 + j - (pcells p).length = i * 3 + j by simp [pcells]; omega, this]
      simp
theorem Raw.cell {W : World} {g b : Nat} {vi : Value} {ps : List PG} (h : Raw W g b vi ps) (i : Int) (h0 : 0 ≤ i) (h1 : i < ps.length) :
    W.cell? ⟨b, i.toNat * 3, none⟩ = some (.int .i64 (pg ps i).f0) ∧ W.cell? ⟨b, i.toNat * 3 + 1, none⟩ = some (.bool (pg ps i).f1) ∧ W.cell? ⟨b, i.toNat * 3 + 2, none⟩ = some (.int .i64 (pg ps i).f2) := by
  have hl : i.toNat < ps.length := by omega
  refine ⟨?_, ?_, ?_⟩
  · rw [blk_cell h.2]; exact pblock_at ps i.toNat 0 hl (by omega)
  · rw [blk_cell h.2]; exact pblock_at ps i.toNat 1 hl (by omega)
  · rw [blk_cell h.2]; exact pblock_at ps i.toNat 2 hl (by omega)
/-- A page that is free. -/
def fre (p : PG) : Bool := p.f0 == 0 && (p.f1 == false && p.f2 == 0)
def there (ps : List PG) (i : Int) : Bool := decide (0 ≤ i) && (decide (i < (ps.length : Int)) && !fre (pg ps i))
/-- What 'at' answers of a page that stands in its cells. -/
def atV (b : Nat) (i : Int) (p : PG) : Value := .tuple #[.pointer (if fre p then none else some ⟨b, i.toNat * 3, none⟩), .bool (!fre p)]
theorem fre_yes {p : PG} (h0 : p.f0 = 0) (h1 : ¬ p.f1 = true) (h2 : p.f2 = 0) : fre p = true := by simp [fre, h0, h1, h2]
theorem fre_0 {p : PG} (h0 : ¬ p.f0 = 0) : fre p = false := by simp [fre, h0]
theorem fre_1 {p : PG} (h0 : p.f1 = true) : fre p = false := by simp [fre, h0]
theorem fre_2 {p : PG} (h0 : ¬ p.f2 = 0) : fre p = false := by simp [fre, h0]
set_option maxHeartbeats 1000000 in
theorem at_no (g b : Nat) (vi : Value) (ps : List PG) (i : Int) (w : World) (h : Raw w g b vi ps) (hi : i < 0 ∨ (ps.length : Int) ≤ i) :
    Calls Try.prog 22 #[.pointer (some ⟨g, 0, none⟩), .int .i64 i] w fun e w' => e = .returned (.tuple #[.pointer none, .bool false]) ∧ w = w' := by
  have c0 := blk_cell h.1 0
  simp at c0
  rcases hi with hi | hi
  · have d1 : decide (i < 0) = true := decide_eq_true hi
    go_enter Try.func22, Try.ntmps22
    go_wp2
    go_ret2
    exact ⟨rfl, rfl⟩
  · have d1 : decide (i < 0) = false := decide_eq_false (by omega)
    have d2 : decide (i ≥ (ps.length : Int)) = true := decide_eq_true (by omega)
    go_enter Try.func22, Try.ntmps22
    go_wp2
    go_ret2
    exact ⟨rfl, rfl⟩
set_option maxHeartbeats 1000000 in
theorem at_in (g b : Nat) (vi : Value) (ps : List PG) (i : Int) (w : World) (h : Raw w g b vi ps) (h0 : 0 ≤ i) (h1 : i < ps.length) :
    Calls Try.prog 22 #[.pointer (some ⟨g, 0, none⟩), .int .i64 i] w fun e w' => e = .returned (atV b i (pg ps i)) ∧ w = w' := by
  have c0 := blk_cell h.1 0
  simp at c0
  obtain ⟨k0, k1, k2⟩ := h.cell i h0 h1
  have hu55 := Try.underlying55
  have d1 : decide (i < 0) = false := decide_eq_false (by omega)
  have d2 : decide (i ≥ (ps.length : Int)) = false := decide_eq_false (by omega)
  generalize pg ps i = p at k0 k1 k2 ⊢
  go_enter Try.func22, Try.ntmps22
  go_wp2
  all_goals go_ret2
  all_goals refine ⟨?_, rfl⟩
  all_goals
    unfold atV
    first
    | (rw [fre_1 (by assumption)]; rfl)
    | (rw [fre_0 (by assumption)]; rfl)
    | (rw [fre_2 (by assumption)]; rfl)
    | (rw [fre_yes (by assumption) (by assumption) (by assumption)]; rfl)
theorem at_free (g b : Nat) (vi : Value) (ps : List PG) (i : Int) (w : World) (h : Raw w g b vi ps) (ht : there ps i = false) :
    Calls Try.prog 22 #[.pointer (some ⟨g, 0, none⟩), .int .i64 i] w fun e w' => e = .returned (.tuple #[.pointer none, .bool false]) ∧ w = w' := by
  by_cases hi : i < 0 ∨ (ps.length : Int) ≤ i
  · exact at_no g b vi ps i w h hi
  · refine (at_in g b vi ps i w h (by omega) (by omega)).mono ?_
    rintro e w' ⟨rfl, rfl⟩
    have hf : fre (pg ps i) = true := by
      unfold there at ht
      rw [decide_eq_true (by omega), decide_eq_true (by omega)] at ht
      simpa using ht
    refine ⟨?_, rfl⟩
    unfold atV
    rw [hf]; rfl
theorem at_there (g b : Nat) (vi : Value) (ps : List PG) (i : Int) (w : World) (h : Raw w g b vi ps) (ht : there ps i = true) :
    Calls Try.prog 22 #[.pointer (some ⟨g, 0, none⟩), .int .i64 i] w fun e w' => e = .returned (.tuple #[.pointer (some ⟨b, i.toNat * 3, none⟩), .bool true]) ∧ w = w' := by
  unfold there at ht
  simp only [Bool.and_eq_true, decide_eq_true_eq, Bool.not_eq_true'] at ht
  refine (at_in g b vi ps i w h ht.1 ht.2.1).mono ?_
  rintro e w' ⟨rfl, rfl⟩
  refine ⟨?_, rfl⟩
  unfold atV
  rw [ht.2.2]; rfl
end Go.Proofs.Ytmbbaalpeomnlaa.OPool
