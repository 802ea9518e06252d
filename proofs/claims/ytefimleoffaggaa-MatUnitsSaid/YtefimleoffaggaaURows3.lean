/- Rows that are added, scaled, cut at nought: place by place. -/
import Derived.Test.YtefimleoffaggaaGQx9
import Derived.Test.YtefimleoffaggaaGQx11
import Derived.Test.YtefimleoffaggaaUVec
set_option linter.unusedVariables false
namespace Go.Proofs.Ytefimleoffaggaa.U
open Go.RowKit Go.Proofs.YtefimleoffaggaaW.PrintWords Go.Proofs.YtefimleoffaggaaW.PrintMore Go.Proofs.Ytefimleoffaggaa.GQ
/-- The sums, place by place. -/
def addv (a b : List Int) : List Int := List.zipWith (fun x y => sat (x + y)) a b
theorem Add_loop {a b : List Int} (ha : I32 a) (hb : I32 b) (hl : a.length ≤ b.length) (hn : a.length ≤ 1000000) : ∀ (d i k : Nat) (acc : List Int), a.length - i = d → i ≤ a.length → d + 1 ≤ k → acc.length + d ≤ 2000000 →
    vec_Add.l0 k b acc a (a.length : Int) (i : Int) = some (acc ++ addv (a.drop i) (b.drop i), 0) := by
  intro d
  induction d with
  | zero =>
    intro i k acc hd hi hk hacc
    obtain ⟨k, rfl⟩ := succ_of_lt (show 0 < k by omega)
    have : i = a.length := by omega
    subst this
    simp only [vec_Add.l0]
    rw [if_neg (by omega), List.drop_length]
    simp [addv]
  | succ d ih =>
    intro i k acc hd hi hk hacc
    obtain ⟨k, rfl⟩ := succ_of_lt (show 0 < k by omega)
    have hia : i < a.length := by omega
    have hib : i < b.length := by omega
    have r1 := ha.rd hia
    have r2 := hb.rd hib
    simp only [vec_Add.l0]
    rw [if_pos (by omega), if_pos (by omega), if_pos (by omega), if_pos (by omega), Add_eq r1.1 r1.2 r2.1 r2.2, Option.bind_some, if_pos (by omega), w64 (x := (i : Int) + 1) (by omega) (by omega)]
    have := ih (i + 1) k (acc ++ [sat (rd a i + rd b i)]) (by omega) (by omega) (by omega) (by rw [List.length_append, List.length_singleton]; omega)
    rw [Int.natCast_add, Int.natCast_one] at this
    rw [this, drop_rd hia, drop_rd hib]
    simp [addv]
theorem Addv_eq {k : Nat} {a b : List Int} (ha : I32 a) (hb : I32 b) (hk : 5000 ≤ k) : vec_Add.f k a b = some (if fitv a b = 0 then (addv a b, 0) else ([], fitv a b)) := by
  unfold vec_Add.f
  rw [fit_eq a b (by omega), Option.bind_some]
  split
  · rename_i h
    have hl := fitv_len h
    have := Add_loop ha hb (by omega) (by omega) a.length 0 k [] (by omega) (by omega) (by omega) (by simp; omega)
    rw [Int.natCast_zero] at this
    rw [if_pos (by omega), if_pos (by omega), this]; simp
  · rfl
theorem addv_len {a b : List Int} (h : a.length = b.length) : (addv a b).length = a.length := by simp [addv, h]
theorem addv_rd {a b : List Int} (h : a.length = b.length) {i : Nat} (hi : i < a.length) : rd (addv a b) (i : Int) = sat (rd a i + rd b i) := by
  rw [rd_nat (by rw [addv_len h]; exact hi), rd_nat hi, rd_nat (by omega)]
  simp [addv]
theorem addv_comm {a b : List Int} : addv a b = addv b a := by
  unfold addv
  rw [List.zipWith_comm]
  congr 1; funext x y; rw [Int.add_comm]
/-- Each number times k. -/
def scalev (a : List Int) (c : Int) : List Int := a.map fun x => mulv x c
theorem Scale_loop {a : List Int} {c : Int} (ha : I32 a) (c1 : -2147483648 ≤ c) (c2 : c ≤ 2147483647) (hn : a.length ≤ 1000000) : ∀ (d i k : Nat) (acc : List Int), a.length - i = d → i ≤ a.length → d + 2 ≤ k → acc.length + d ≤ 2000000 →
    vec_Scale.l0 k c acc a (a.length : Int) (i : Int) = some (acc ++ scalev (a.drop i) c) := by
  intro d
  induction d with
  | zero =>
    intro i k acc hd hi hk hacc
    obtain ⟨k, rfl⟩ := succ_of_lt (show 0 < k by omega)
    have : i = a.length := by omega
    subst this
    simp only [vec_Scale.l0]
    rw [if_neg (by omega), List.drop_length]
    simp [scalev]
  | succ d ih =>
    intro i k acc hd hi hk hacc
    obtain ⟨k, rfl⟩ := succ_of_lt (show 0 < k by omega)
    have hia : i < a.length := by omega
    have r1 := ha.rd hia
    simp only [vec_Scale.l0]
    rw [if_pos (by omega), if_pos (by omega), if_pos (by omega), Mul_eq (by omega) r1.1 r1.2 c1 c2, Option.bind_some, if_pos (by omega), w64 (x := (i : Int) + 1) (by omega) (by omega)]
    have := ih (i + 1) k (acc ++ [mulv (rd a i) c]) (by omega) (by omega) (by omega) (by rw [List.length_append, List.length_singleton]; omega)
    rw [Int.natCast_add, Int.natCast_one] at this
    rw [this, drop_rd hia]
    simp [scalev]
theorem Scale_eq {k : Nat} {a : List Int} {c : Int} (ha : I32 a) (c1 : -2147483648 ≤ c) (c2 : c ≤ 2147483647) (hn : a.length ≤ 6000) (hk : 7000 ≤ k) : vec_Scale.f k a c = some (scalev a c) := by
  unfold vec_Scale.f
  have := Scale_loop ha c1 c2 (by omega) a.length 0 k [] (by omega) (by omega) (by omega) (by simp; omega)
  rw [Int.natCast_zero] at this
  rw [if_pos (by omega), if_pos (by omega), this]; simp
theorem scalev_len (a : List Int) (c : Int) : (scalev a c).length = a.length := by simp [scalev]
theorem scalev_rd {a : List Int} (c : Int) {i : Nat} (hi : i < a.length) : rd (scalev a c) (i : Int) = mulv (rd a i) c := by
  rw [rd_nat (by rw [scalev_len]; exact hi), rd_nat hi]; simp [scalev]
theorem mulv_one (x : Int) : mulv x 65536 = sat x := by unfold mulv; rw [rnd_mul (by omega)]
theorem sat_mx {x : Int} (h1 : -2147483648 ≤ x) (h2 : x ≤ 2147483647) : mx x (-2147483647) = sat x := by unfold sat mx; (repeat' split) <;> omega
/-- Each number, or nought. -/
def risev (a : List Int) : List Int := a.map fun x => mx (sat x) 0
theorem Rise_loop {a : List Int} (ha : I32 a) (hn : a.length ≤ 1000000) : ∀ (d i k : Nat) (acc : List Int), a.length - i = d → i ≤ a.length → d + 1 ≤ k → acc.length + d ≤ 2000000 →
    vec_Rise.l0 k acc a (a.length : Int) (i : Int) = some (acc ++ risev (a.drop i)) := by
  intro d
  induction d with
  | zero =>
    intro i k acc hd hi hk hacc
    obtain ⟨k, rfl⟩ := succ_of_lt (show 0 < k by omega)
    have : i = a.length := by omega
    subst this
    simp only [vec_Rise.l0]
    rw [if_neg (by omega), List.drop_length]
    simp [risev]
  | succ d ih =>
    intro i k acc hd hi hk hacc
    obtain ⟨k, rfl⟩ := succ_of_lt (show 0 < k by omega)
    have hia : i < a.length := by omega
    have r1 := ha.rd hia
    simp only [vec_Rise.l0]
    rw [if_pos (by omega), if_pos (by omega), if_pos (by omega), w64 (x := rd a i) (by omega) (by omega), Sat_eq, Option.bind_some, if_pos (by omega), w64 (x := (i : Int) + 1) (by omega) (by omega)]
    have := ih (i + 1) k (acc ++ [mx (sat (rd a i)) 0]) (by omega) (by omega) (by omega) (by rw [List.length_append, List.length_singleton]; omega)
    rw [Int.natCast_add, Int.natCast_one] at this
    rw [this, drop_rd hia]
    simp [risev]
theorem Rise_eq {k : Nat} {a : List Int} (ha : I32 a) (hn : a.length ≤ 6000) (hk : 7000 ≤ k) : vec_Rise.f k a = some (risev a) := by
  unfold vec_Rise.f
  have := Rise_loop ha (by omega) a.length 0 k [] (by omega) (by omega) (by omega) (by simp; omega)
  rw [Int.natCast_zero] at this
  rw [if_pos (by omega), if_pos (by omega), this]; simp
theorem risev_len (a : List Int) : (risev a).length = a.length := by simp [risev]
theorem risev_rd {a : List Int} {i : Nat} (hi : i < a.length) : rd (risev a) (i : Int) = mx (sat (rd a i)) 0 := by
  rw [rd_nat (by rw [risev_len]; exact hi), rd_nat hi]; simp [risev]
end Go.Proofs.Ytefimleoffaggaa.U
