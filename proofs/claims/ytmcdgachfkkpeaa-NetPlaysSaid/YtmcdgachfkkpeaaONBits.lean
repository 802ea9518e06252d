/- What (*Net).Turn does to a text's bits: plain. -/
import Derived.Test.YtmcdgachfkkpeaaONTurn
set_option linter.unusedVariables false
set_option linter.unusedSimpArgs false
namespace Go.Proofs.Ytmcdgachfkkpeaa.ONet
open Go.RowKit Go.Proofs.YtmcdgachfkkpeaaW.PrintWords Go.Proofs.YtmcdgachfkkpeaaW.PrintLast Go.Proofs.YtmcdgachfkkpeaaW.PrintMore Go.Proofs.Ytmcdgachfkkpeaa.GQ
theorem xor_bit_fin : ∀ x : Fin 256, ∀ r : Fin 8, ∀ q : Fin 8, 0 ≤ Go.bits .xor .u8 (x.val : Int) (2 ^ r.val) ∧ Go.bits .xor .u8 (x.val : Int) (2 ^ r.val) < 256 ∧ (Go.bits .xor .u8 (x.val : Int) (2 ^ r.val) / 2 ^ q.val) % 2 = if q = r then 1 - ((x.val : Int) / 2 ^ q.val) % 2 else ((x.val : Int) / 2 ^ q.val) % 2 := by decide +kernel
theorem xor_bit (x : Int) (h0 : 0 ≤ x) (h1 : x < 256) (r q : Nat) (hr : r < 8) (hq : q < 8) : 0 ≤ Go.bits .xor .u8 x (2 ^ r) ∧ Go.bits .xor .u8 x (2 ^ r) < 256 ∧ (Go.bits .xor .u8 x (2 ^ r) / 2 ^ q) % 2 = if q = r then 1 - (x / 2 ^ q) % 2 else (x / 2 ^ q) % 2 := by
  have h := xor_bit_fin ⟨x.toNat, by omega⟩ ⟨r, hr⟩ ⟨q, hq⟩
  have e : ((x.toNat : Nat) : Int) = x := Int.toNat_of_nonneg h0
  simp only [e, Fin.mk.injEq] at h
  exact h
theorem and_bit (y : Int) (h0 : 0 ≤ y) (h1 : y < 4294967296) : Go.bits .and .u32 y 1 = y % 2 := by
  obtain ⟨n, rfl⟩ : ∃ n : Nat, y = (n : Int) := ⟨y.toNat, (Int.toNat_of_nonneg h0).symm⟩
  have e : (BitVec.ofInt 32 (n : Int) &&& BitVec.ofInt 32 1).toNat = n % 2 := by
    rw [BitVec.toNat_and]
    have e1 : (BitVec.ofInt 32 (n : Int)).toNat = n := by
      rw [BitVec.ofInt_natCast, BitVec.toNat_ofNat]
      omega
    have e2 : (BitVec.ofInt 32 (1 : Int)).toNat = 1 := rfl
    rw [e1, e2, Nat.and_one_is_mod]
  show IntKind.u32.wrap (((BitVec.ofInt 32 (n : Int) &&& BitVec.ofInt 32 1).toNat : Nat) : Int) = _
  rw [e]
  have h2 : n % 2 = 0 ∨ n % 2 = 1 := by omega
  rcases h2 with h2 | h2
  · rw [h2]
    show (0 : Int) = _
    omega
  · rw [h2]
    show (1 : Int) = _
    omega
def wholeB (bs : List Int) : Prop := ∀ j, 0 ≤ bs.getD j 0 ∧ bs.getD j 0 < 256
/-- Bit i of a row of bytes. -/
def bitAt (bs : List Int) (i : Nat) : Int := (bs.getD (i / 8) 0 / 2 ^ (i % 8)) % 2
theorem step_bit {a b : Int} {m k : Nat} {bs : List Int} (hw : wholeB bs) (hl : bs.length = m) (a0 : 0 ≤ a) (b0 : 0 ≤ b) (b1 : b < 4294967296) :
    wholeB (tstep a b m k bs) ∧ ∀ i, i < 8 * m → bitAt (tstep a b m k bs) i = if (i : Int) = a + (k : Int) ∧ (b / 2 ^ k) % 2 = 1 then 1 - bitAt bs i else bitAt bs i := by
  have hbk : Go.bits .and .u32 (b / 2 ^ k) 1 = (b / 2 ^ k) % 2 := by
    refine and_bit _ (Int.ediv_nonneg b0 (Int.pow_nonneg (by decide))) (Int.lt_of_le_of_lt (Int.ediv_le_self _ b0) b1)
  obtain ⟨t, ht⟩ : ∃ t : Nat, a + (k : Int) = (t : Int) := ⟨(a + (k : Int)).toNat, by omega⟩
  unfold tstep
  rw [hbk, ht]
  by_cases c : (b / 2 ^ k) % 2 = 1 ∧ (t : Int) < 8 * (m : Int)
  · rw [if_pos c, Int.toNat_natCast]
    have jm : t / 8 < bs.length := by omega
    have hx := hw (t / 8)
    have gx : (bs[t / 8]?).getD 0 = bs.getD (t / 8) 0 := (List.getD_eq_getElem?_getD).symm
    rw [gx]
    obtain ⟨x, ex⟩ : ∃ x, bs.getD (t / 8) 0 = x := ⟨_, rfl⟩
    rw [ex] at hx ⊢
    have self : (bs.set (t / 8) (Go.bits .xor .u8 x (2 ^ (t % 8)))).getD (t / 8) 0 = Go.bits .xor .u8 x (2 ^ (t % 8)) := by
      rw [List.getD_eq_getElem?_getD, List.getElem?_set_self jm]; rfl
    have other : ∀ j, t / 8 ≠ j → (bs.set (t / 8) (Go.bits .xor .u8 x (2 ^ (t % 8)))).getD j 0 = bs.getD j 0 := fun j hj => by
      rw [List.getD_eq_getElem?_getD, List.getD_eq_getElem?_getD, List.getElem?_set_ne hj]
    refine ⟨fun j => ?_, fun i hi => ?_⟩
    · by_cases e : t / 8 = j
      · subst e
        rw [self]
        have h := xor_bit x hx.1 hx.2 (t % 8) 0 (by omega) (by omega)
        exact ⟨h.1, h.2.1⟩
      · rw [other j e]
        exact hw j
    · unfold bitAt
      by_cases e : t / 8 = i / 8
      · rw [← e, self, ex]
        have h := (xor_bit x hx.1 hx.2 (t % 8) (i % 8) (by omega) (by omega)).2.2
        rw [h]
        by_cases e2 : i % 8 = t % 8
        · rw [if_pos e2, if_pos ⟨by omega, c.1⟩]
        · rw [if_neg e2, if_neg (fun h => e2 (by omega))]
      · rw [other _ e, if_neg (fun h => e (by omega))]
  · rw [if_neg c]
    refine ⟨hw, fun i hi => ?_⟩
    rw [if_neg (fun h => c ⟨h.2, by omega⟩)]
theorem steps_bit {a b : Int} {m : Nat} {bs : List Int} (hw : wholeB bs) (hl : bs.length = m) (a0 : 0 ≤ a) (b0 : 0 ≤ b) (b1 : b < 4294967296) : ∀ k : Nat,
    wholeB (tsteps a b m k bs) ∧ ∀ i, i < 8 * m → bitAt (tsteps a b m k bs) i = if a ≤ (i : Int) ∧ (i : Int) < a + (k : Int) ∧ (b / 2 ^ ((i : Int) - a).toNat) % 2 = 1 then 1 - bitAt bs i else bitAt bs i
  | 0 => ⟨hw, fun i hi => by rw [if_neg (fun h => by omega)]; rfl⟩
  | k + 1 => by
    obtain ⟨w1, h1⟩ := steps_bit hw hl a0 b0 b1 k
    obtain ⟨w2, h2⟩ := step_bit (a := a) (b := b) (m := m) (k := k) w1 ((tsteps_length a b m k bs).trans hl) a0 b0 b1
    refine ⟨w2, fun i hi => ?_⟩
    show bitAt (tstep a b m k (tsteps a b m k bs)) i = _
    rw [h2 i hi, h1 i hi]
    by_cases e : (i : Int) = a + (k : Int)
    · have e1 : ((i : Int) - a).toNat = k := by omega
      rw [e1, if_neg (c := a ≤ (i : Int) ∧ (i : Int) < a + (k : Int) ∧ (b / 2 ^ k) % 2 = 1) (fun h => by omega)]
      by_cases c : (b / 2 ^ k) % 2 = 1
      · rw [if_pos ⟨e, c⟩, if_pos ⟨by omega, by omega, c⟩]
      · rw [if_neg (fun h => c h.2), if_neg (fun h => c h.2.2)]
    · rw [if_neg (c := (i : Int) = a + (k : Int) ∧ (b / 2 ^ k) % 2 = 1) (fun h => e h.1)]
      by_cases c : a ≤ (i : Int) ∧ (i : Int) < a + (k : Int) ∧ (b / 2 ^ ((i : Int) - a).toNat) % 2 = 1
      · rw [if_pos c, if_pos ⟨c.1, by omega, c.2.2⟩]
      · rw [if_neg c, if_neg (fun h => c ⟨h.1, by omega, h.2.2⟩)]
end Go.Proofs.Ytmcdgachfkkpeaa.ONet
