/- RecvPlays, plainly: the program's state of parts and the document's list of parts that came say the same. -/
import Derived.Test.YtfonfdpimbnfaaaGQx2
import Derived.Test.YtfonfdpimbnfaaaGQx11
import Derived.Test.YtfonfdpimbnfaaaGQx12
import Derived.Test.YtfonfdpimbnfaaaGQx13
import Derived.Test.YtfonfdpimbnfaaaGQx14
import Derived.Test.YtfonfdpimbnfaaaGQx15
import Derived.Test.YtfonfdpimbnfaaaGQx16
import Derived.Test.YtfonfdpimbnfaaaURecv
set_option linter.unusedVariables false
namespace Go.Proofs.Ytfonfdpimbnfaaa.U
open Go.RowKit Go.Proofs.YtfonfdpimbnfaaaW.PrintWords Go.Proofs.YtfonfdpimbnfaaaW.PrintLast Go.Proofs.YtfonfdpimbnfaaaW.PrintMore Go.Proofs.Ytfonfdpimbnfaaa.GQ Go.Proofs.Ytfonfdpimbnfaaa.GJoin
/-- The document's look for a part. -/
def fnd (M : List S74) (a : Int) : Option ByteArray := (M.find? fun c => c.f0 == a).map (·.f1)
def told2 (o : Option ByteArray) : ByteArray × Bool := match o with | some x => (x, true) | none => (⟨#[]⟩, false)
theorem find_loop (M : List S74) (a : Int) (hM : M.length ≤ 100000) : ∀ (d i k : Nat), M.length - i = d → i ≤ M.length → d + 1 ≤ k → tillerref21_Find.l0 k a M (M.length : Int) (i : Int) = some (told2 (fnd (M.drop i) a)) := by
  intro d
  induction d with
  | zero =>
    intro i k hd hi hk
    obtain ⟨k, rfl⟩ := succ_of_lt (show 0 < k by omega)
    simp only [tillerref21_Find.l0]
    rw [if_neg (by omega), List.drop_of_length_le (by omega)]
    rfl
  | succ d ih =>
    intro i k hd hi hk
    obtain ⟨k, rfl⟩ := succ_of_lt (show 0 < k by omega)
    have next := ih (i + 1) k (by omega) (by omega) (by omega)
    have hrd : rd_T74 M (i : Int) = M[i] := by
      unfold rd_T74
      rw [Int.toNat_natCast, List.getD_eq_getElem?_getD, List.getElem?_eq_getElem (by omega), Option.getD_some]
    simp only [tillerref21_Find.l0]
    rw [if_pos (by omega), if_pos (by omega), if_pos (by omega), hrd, List.drop_eq_getElem_cons (by omega)]
    by_cases h : M[i].f0 = a
    · rw [if_pos h]
      unfold fnd
      rw [List.find?_cons_of_pos (by simpa using h)]
      rfl
    · rw [if_neg h, w64 (x := (i : Int) + 1) (by omega) (by omega), ← Int.natCast_one, ← Int.natCast_add, next]
      unfold fnd
      rw [List.find?_cons_of_neg (by simpa using h)]
theorem Find_eq {k : Nat} (num n : Int) (M : List S74) (a : Int) (hM : M.length ≤ 100000) (hk : M.length + 1 ≤ k) : tillerref21_Find.f k num n M a = some (told2 (fnd M a)) := by
  unfold tillerref21_Find.f
  exact find_loop M a hM M.length 0 k (by omega) (by omega) (by omega)
theorem fnd_snoc (M : List S74) (a b : Int) (x : ByteArray) : fnd (M ++ [⟨a, x⟩]) b = (fnd M b).or (if a = b then some x else none) := by
  unfold fnd
  rw [List.find?_append]
  cases h : M.find? fun c => c.f0 == b with
  | some c => simp
  | none =>
    by_cases e : a = b
    · subst e; simp
    · simp [e]
/-- The program's places and the document's list say the same. -/
structure Rel (n : Nat) (P : List ByteArray) (C : List Bool) (M : List S74) : Prop where
  p : P.length = n
  c : C.length = n
  low : 1 ≤ n
  high : n ≤ 512
  find : ∀ i : Nat, i < n → fnd M (i : Int) = if C.getD i false = true then some (P.getD i ByteArray.empty) else none
  cnt : M.length = C.countP id
  size : ∀ i : Nat, i < n → (P.getD i ByteArray.empty).size ≤ 4096
theorem rel_begin {n : Nat} (h1 : 1 ≤ n) (h2 : n ≤ 512) : Rel n (List.replicate n ⟨#[]⟩) (List.replicate n false) [] := by
  refine ⟨List.length_replicate .., List.length_replicate .., h1, h2, ?_, ?_, ?_⟩
  · intro i hi
    rw [List.getD_eq_getElem?_getD, List.getElem?_replicate, if_pos hi]
    rfl
  · rw [List.countP_replicate]; rfl
  · intro i hi
    rw [List.getD_eq_getElem?_getD, List.getElem?_replicate, if_pos hi]
    exact Nat.zero_le _
theorem count_set {C : List Bool} {j : Nat} (hj : j < C.length) (h : C.getD j false = false) : (C.set j true).countP id = C.countP id + 1 := by
  induction C generalizing j with
  | nil => simp at hj
  | cons b C ih =>
    cases j with
    | zero =>
      simp at h
      subst h
      simp
    | succ j =>
      have := ih (j := j) (by simpa using hj) (by simpa using h)
      simp only [List.set_cons_succ, List.countP_cons]
      omega
/-- A part comes: both say the same, and go on alike. -/
theorem take_step {n : Nat} {P : List ByteArray} {C : List Bool} {M : List S74} (h : Rel n P C M) (num pn at_ of_ : Int) (x : ByteArray) (hM : M.length ≤ 1000) :
    ∃ P' C' M' is f, recv_Take.f 2000 num P C pn at_ of_ x = some (num, P', C', is, f) ∧ tillerref21_Take.f 2000 num (n : Int) M pn at_ of_ x = some (num, (n : Int), M', is, f) ∧ Rel n P' C' M' ∧ M'.length ≤ M.length + 1 := by
  have h1 : 1 ≤ P.length := by rw [h.p]; exact h.low
  have h2 : C.length = P.length := by rw [h.p, h.c]
  by_cases e1 : pn = num
  case neg =>
    refine ⟨P, C, M, false, 14, Take_old h1 h2 e1, ?_, h, by omega⟩
    unfold tillerref21_Take.f
    rw [if_neg e1]
  subst e1
  by_cases e2 : of_ ≠ (P.length : Int) ∨ at_ < 0 ∨ at_ ≥ (P.length : Int)
  · refine ⟨P, C, M, false, 1, Take_arg (by omega) h1 h2 e2, ?_, h, by omega⟩
    unfold tillerref21_Take.f
    rw [if_pos rfl]
    rw [h.p] at e2
    by_cases f1 : of_ = (n : Int)
    · rw [if_pos f1]
      by_cases f2 : at_ < 0
      · rw [if_pos f2]
        simp only [tillerref21_Take.j0, if_true]
      · rw [if_neg f2, decide_eq_true (by omega)]
        simp only [tillerref21_Take.j0, if_true]
    · rw [if_neg f1]
      simp only [tillerref21_Take.j0, if_true]
  obtain ⟨j, rfl⟩ : ∃ j : Nat, at_ = (j : Int) := ⟨at_.toNat, by omega⟩
  have hj : j < P.length := by omega
  obtain rfl : of_ = (P.length : Int) := by omega
  have hr : tillerref21_Take.f 2000 pn (n : Int) M pn (j : Int) (P.length : Int) x = tillerref21_Take.j0 2000 (j : Int) x false pn (n : Int) M := by
    unfold tillerref21_Take.f
    rw [if_pos rfl, if_pos (by rw [h.p]), if_neg (by omega), decide_eq_false (by rw [← h.p]; omega)]
  rw [hr]
  simp only [tillerref21_Take.j0, Bool.false_eq_true, if_false]
  by_cases e3 : 4096 < x.size
  · exact ⟨P, C, M, false, 2, Take_big (by omega) h1 h2 hj e3, by rw [if_pos (by omega)], h, by omega⟩
  rw [if_neg (by omega), Find_eq _ _ M _ (by omega) (by omega), Option.bind_some, h.find j (by rw [← h.p]; exact hj)]
  by_cases e4 : C.getD j false = true
  · rw [if_pos e4]
    have hT := Take_there (k := 2000) (num := pn) (by omega) h1 h2 hj (show x.size ≤ 4096 by omega) e4
    simp only [told2, if_true, tillerref21_Take.j1]
    by_cases e5 : (P.getD j ByteArray.empty).toList != x.toList
    · refine ⟨P, C, M, false, 9, ?_, by rw [if_pos e5], h, by omega⟩
      rw [hT, if_neg (bne_iff_ne.1 e5)]
    · refine ⟨P, C, M, false, 0, ?_, by rw [if_neg e5], h, by omega⟩
      rw [hT, if_pos (by simpa using e5)]
  · rw [if_neg e4]
    have e4' : C.getD j false = false := by simpa using e4
    have hT := Take_new (k := 2000) (num := pn) (by omega) h1 (by have := h.high; rw [h.p]; omega) h2 hj (show x.size ≤ 4096 by omega) e4'
    refine ⟨_, _, M ++ [⟨(j : Int), x⟩], true, 0, hT, ?_, ⟨?_, ?_, h.low, h.high, ?_, ?_, ?_⟩, by simp⟩
    · simp only [told2, tillerref21_Take.j1, Bool.false_eq_true, if_false, Option.bind_some, List.length_nil, List.nil_append]
      rw [if_pos (by omega), if_pos (by omega)]
    · rw [List.length_set, h.p]
    · rw [List.length_set, h.c]
    · intro i hi
      rw [fnd_snoc, h.find i hi]
      by_cases e : j = i
      · subst e
        rw [if_neg e4, if_pos rfl, if_pos (by rw [getD_set, if_pos ⟨rfl, by omega⟩])]
        simp [List.getD_eq_getElem?_getD, hj]
      · have e' : ¬ (j : Int) = (i : Int) := by omega
        have e1 : (C.set j true).getD i false = C.getD i false := by rw [getD_set, if_neg (fun q => e q.1)]
        have e2 : (P.set j x).getD i ByteArray.empty = P.getD i ByteArray.empty := by simp [List.getD_eq_getElem?_getD, List.getElem?_set, e]
        rw [if_neg e', Option.or_none, e1, e2]
    · rw [List.length_append, count_set (by omega) e4', h.cnt]; rfl
    · intro i hi
      by_cases e : j = i
      · subst e
        simp [List.getD_eq_getElem?_getD, List.getElem?_set, hj]
        omega
      · have := h.size i hi
        simp only [List.getD_eq_getElem?_getD] at this
        simpa [List.getD_eq_getElem?_getD, List.getElem?_set, e] using this
/-- Parts, one behind the other. -/
def cat (P : List ByteArray) : ByteArray := ⟨(joined P ⟨#[]⟩).toArray⟩
theorem cat_succ {P : List ByteArray} {i : Nat} (hi : i < P.length) : cat (P.take (i + 1)) = cat (P.take i) ++ P[i] := by
  apply ByteArray.ext
  apply Array.ext'
  show (cat (P.take (i + 1))).data.toList = (cat (P.take i) ++ P[i]).data.toList
  rw [ByteArray.data_append]
  show (joined (P.take (i + 1)) ⟨#[]⟩).toArray.toList = ((joined (P.take i) ⟨#[]⟩).toArray ++ P[i].data).toList
  rw [joined_flat, joined_flat, List.take_succ_eq_append_getElem hi, List.map_append, List.flatten_append, Array.toList_append]
  simp
theorem cat_size (P : List ByteArray) (m : Nat) (h : ∀ x ∈ P, x.size ≤ m) : (joined P ⟨#[]⟩).length ≤ P.length * m := by
  rw [joined_flat]
  induction P with
  | nil => simp
  | cons x P ih =>
    have h1 := ih fun y hy => h y (List.mem_cons_of_mem _ hy)
    have h2 := h x (List.mem_cons_self ..)
    simp only [List.map_cons, List.flatten_cons, List.length_append, List.length_cons]
    have h3 : x.data.toList.length = x.size := by simp
    rw [h3, Nat.succ_mul]
    omega
theorem mem_size {n : Nat} {P : List ByteArray} (hp : P.length = n) (h : ∀ i : Nat, i < n → (P.getD i ByteArray.empty).size ≤ 4096) : ∀ x ∈ P, x.size ≤ 4096 := by
  intro x hx
  obtain ⟨i, hi, rfl⟩ := List.mem_iff_getElem.1 hx
  have := h i (by omega)
  rwa [List.getD_eq_getElem?_getD, List.getElem?_eq_getElem hi, Option.getD_some] at this
theorem whole_loop {n : Nat} {P : List ByteArray} {C : List Bool} {M : List S74} (h : Rel n P C M) (num : Int) (hM : M.length ≤ 1000) : ∀ (d i k : Nat), n - i = d → i ≤ n → d + 1200 ≤ k → tillerref21_Whole.l0 k (cat (P.take i)) (i : Int) num (n : Int) M = some (if (C.drop i).any (fun b => !b) = true then (⟨#[]⟩, false) else (cat P, true)) := by
  intro d
  induction d with
  | zero =>
    intro i k hd hi hk
    obtain ⟨k, rfl⟩ := succ_of_lt (show 0 < k by omega)
    simp only [tillerref21_Whole.l0]
    rw [if_neg (by omega), List.drop_of_length_le (by rw [h.c]; omega), List.take_of_length_le (by rw [h.p]; omega)]
    simp
  | succ d ih =>
    intro i k hd hi hk
    obtain ⟨k, rfl⟩ := succ_of_lt (show 0 < k by omega)
    have next := ih (i + 1) k (by omega) (by omega) (by omega)
    have hc : C.drop i = C[i]'(by rw [h.c]; omega) :: C.drop (i + 1) := List.drop_eq_getElem_cons (by rw [h.c]; omega)
    have hg : C.getD i false = C[i]'(by rw [h.c]; omega) := by rw [List.getD_eq_getElem?_getD, List.getElem?_eq_getElem (by rw [h.c]; omega), Option.getD_some]
    simp only [tillerref21_Whole.l0]
    rw [if_pos (by omega), Find_eq _ _ M _ (by omega) (by omega), Option.bind_some, h.find i (by omega), hc, hg]
    by_cases e : C[i]'(by rw [h.c]; omega) = true
    · rw [if_pos e]
      have hsz : (cat (P.take i)).size ≤ 2100000 := by
        have := cat_size (P.take i) 4096 (fun x hx => mem_size h.p h.size x (List.mem_of_mem_take hx))
        rw [List.length_take] at this
        show (joined (P.take i) ⟨#[]⟩).toArray.size ≤ 2100000
        have h5 := h.high
        rw [List.size_toArray]
        have : min i P.length * 4096 ≤ 512 * 4096 := Nat.mul_le_mul_right _ (by rw [h.p]; omega)
        omega
      have hx := h.size i (by omega)
      have hpi : P.getD i ByteArray.empty = P[i]'(by rw [h.p]; omega) := by rw [List.getD_eq_getElem?_getD, List.getElem?_eq_getElem (by rw [h.p]; omega), Option.getD_some]
      rw [hpi] at hx ⊢
      show (if (cat (P.take i)).size + (P[i]'(by rw [h.p]; omega)).size ≤ 9223372036854775807 then tillerref21_Whole.l0 k (cat (P.take i) ++ P[i]'(by rw [h.p]; omega)) (wrap64 ((i : Int) + 1)) num (n : Int) M else none) = _
      rw [if_pos (by omega), w64 (x := (i : Int) + 1) (by have := h.high; omega) (by have := h.high; omega), ← Int.natCast_one, ← Int.natCast_add, ← cat_succ (by rw [h.p]; omega), next, List.any_cons, e]
      rfl
    · have e' : C[i]'(by rw [h.c]; omega) = false := by simpa using e
      rw [if_neg e, e']
      simp [told2]
theorem rWhole_eq {n : Nat} {P : List ByteArray} {C : List Bool} {M : List S74} (h : Rel n P C M) (num : Int) (hM : M.length ≤ 1000) : ∃ a ok, recv_Whole.f 2000 num P C = some (a, ok) ∧ tillerref21_Whole.f 2000 num (n : Int) M = some (a, ok) := by
  have h1 : 1 ≤ P.length := by rw [h.p]; exact h.low
  have h0 : P.length ≤ 512 := by rw [h.p]; exact h.high
  have h2 : C.length = P.length := by rw [h.p, h.c]
  have hw := whole_loop h num hM n 0 2000 (by omega) (by omega) (by have := h.high; omega)
  have hw' : tillerref21_Whole.f 2000 num (n : Int) M = some (if C.any (fun b => !b) = true then (⟨#[]⟩, false) else (cat P, true)) := by
    unfold tillerref21_Whole.f
    have hz : cat (P.take 0) = ⟨#[]⟩ := by unfold cat; rw [joined_flat]; rfl
    rw [hz] at hw
    exact hw
  by_cases e : C.any (fun b => !b) = true
  · exact ⟨_, _, Whole_no h1 (by omega) h2 (by omega) e, by rw [hw', if_pos e]⟩
  · have e' : C.any (fun b => !b) = false := by simpa using e
    have hs := cat_size P 4096 (mem_size h.p h.size)
    have : P.length * 4096 ≤ 512 * 4096 := Nat.mul_le_mul_right _ h0
    exact ⟨_, _, Whole_yes h1 (by omega) h2 (by omega) e' (by omega), by rw [hw', if_neg e]; rfl⟩
theorem miss_loop (num : Int) {n : Nat} {P : List ByteArray} {C : List Bool} (hc : C.length = n) (hn : n ≤ 512) : ∀ (d i k : Nat) (x3 : Int), n - i = d → i ≤ n → d + 1 ≤ k → -1000 ≤ x3 - ((C.drop i).countP id : Int) → x3 ≤ 1000 → recv_Missing.l0 k x3 (n : Int) (i : Int) num P C = some (x3 - ((C.drop i).countP id : Int)) := by
  intro d
  induction d with
  | zero =>
    intro i k x3 hd hi hk _ _
    obtain ⟨k, rfl⟩ := succ_of_lt (show 0 < k by omega)
    simp only [recv_Missing.l0]
    rw [if_neg (by omega), List.drop_of_length_le (by omega)]
    simp
  | succ d ih =>
    intro i k x3 hd hi hk hx1 hx2
    obtain ⟨k, rfl⟩ := succ_of_lt (show 0 < k by omega)
    have hcd : C.drop i = C[i]'(by omega) :: C.drop (i + 1) := List.drop_eq_getElem_cons (by omega)
    have hg : rdOf false C (i : Int) = C[i]'(by omega) := by rw [rdB, List.getD_eq_getElem?_getD, List.getElem?_eq_getElem (by omega), Option.getD_some]
    rw [hcd] at hx1 ⊢
    simp only [recv_Missing.l0]
    rw [if_pos (by omega), if_pos (by omega), if_pos (by omega), hg]
    by_cases e : C[i]'(by omega) = true
    · rw [List.countP_cons_of_pos (by simpa using e)] at hx1 ⊢
      have next := ih (i + 1) k (x3 - 1) (by omega) (by omega) (by omega) (by omega) (by omega)
      rw [if_pos e, w64 (x := x3 - 1) (by omega) (by omega), w64 (x := (i : Int) + 1) (by omega) (by omega), ← Int.natCast_one, ← Int.natCast_add, show x3 - ((1 : Nat) : Int) = x3 - 1 from rfl, next]
      congr 1
      omega
    · rw [List.countP_cons_of_neg (by simpa using e)] at hx1 ⊢
      have next := ih (i + 1) k x3 (by omega) (by omega) (by omega) (by omega) (by omega)
      rw [if_neg e, w64 (x := (i : Int) + 1) (by omega) (by omega), ← Int.natCast_one, ← Int.natCast_add, next]
theorem missing_eq {n : Nat} {P : List ByteArray} {C : List Bool} {M : List S74} (h : Rel n P C M) (num : Int) : recv_Missing.f 2000 num P C = some ((n : Int) - (M.length : Int)) := by
  unfold recv_Missing.f
  have h5 : C.countP id ≤ C.length := List.countP_le_length
  have h6 := h.c
  have h7 := h.high
  have := miss_loop num (P := P) h.c h.high n 0 2000 (n : Int) (by omega) (by omega) (by omega) (by rw [List.drop_zero]; omega) (by omega)
  rw [h.p, h.cnt]
  rw [List.drop_zero] at this
  exact this
end Go.Proofs.Ytfonfdpimbnfaaa.U
