/- fix.Text, walked by hand over the builder's contracts. -/
import Derived.Test.YtnhapgenebcjmaaGBuilder2
import Derived.Outline
set_option linter.unusedVariables false
set_option linter.unusedSimpArgs false
namespace Go.Proofs.Ytnhapgenebcjmaa.GText
open Go.Proofs Go.RowKit Go.Proofs.YtnhapgenebcjmaaW.PrintWords Go.Proofs.YtnhapgenebcjmaaW.PrintLast Go.Proofs.YtnhapgenebcjmaaW.PrintMore Go.Proofs.Ytnhapgenebcjmaa.GBuilder
attribute [local go_sem] max2_int min2_int max_two min_two max_three min_three max_four min_four
/-- The digits ahead of the point, the last one first. -/
def wd : Nat → Int → List Int → Option (List Int)
  | 0, _, _ => none
  | k + 1, w, l => if w > 0 ∨ l.length = 0 then wd k (w / 10) (l ++ [48 + w % 10]) else some l
/-- The digits behind it. -/
def fd : Nat → Int → List Int → Option (List Int)
  | 0, _, _ => none
  | k + 1, n, l => if n > 0 then fd k (n * 10 % 65536) (l ++ [48 + n * 10 / 65536]) else some l
/-- A number that so many digits have been taken from. -/
def dgb (x : Int) (n : Nat) : Prop := 0 ≤ x ∧ x ≤ 32768 ∧ n ≤ 6 ∧ (1 ≤ n → x ≤ 3276) ∧ (2 ≤ n → x ≤ 327) ∧ (3 ≤ n → x ≤ 32) ∧ (4 ≤ n → x ≤ 3) ∧ (5 ≤ n → x = 0)
theorem dgb_step {x : Int} {n : Nat} (h : dgb x n) (hc : x > 0 ∨ n = 0) : dgb (x / 10) (n + 1) := by
  unfold dgb at *
  omega
/-- Bytes as cells. -/
def bcs (l : List Int) : List Value := l.map fun c => .int .u8 c
theorem bcs_len (l : List Int) : (bcs l).length = l.length := by simp [bcs]
theorem bcs_app (l : List Int) (c : Int) : bcs (l ++ [c]) = bcs l ++ [.int .u8 c] := by simp [bcs]
theorem len_of_own {w : World} {B e n : Nat} {v : Value} {xs : List Value} (h : w.ownsRow B e 1 v n xs) : ∃ A c, v = .slice A n c := by
  rcases h.2 with ⟨rfl, rfl⟩ | ⟨g, cap, cur, rfl, _⟩
  · exact ⟨none, 0, rfl⟩
  · exact ⟨_, _, rfl⟩
theorem wraps62 : ∀ x : Int, 0 ≤ x → x < 2 ^ 62 → IntKind.i64.wrap x = x := by
  intro n h0 h1
  have : (2 : Int) ^ 62 = 4611686018427387904 := by decide
  rw [IntKind.wrap_i64]; omega
/-- Bytes as the machine's. -/
def u8s (l : List Int) : List UInt8 := l.map fun c => UInt8.ofNat c.toNat
theorem bcs_bytes (l : List Int) (h : ∀ c ∈ l, 0 ≤ c ∧ c < 256) : bcs l = Lib.byteCells (u8s l) := by
  induction l with
  | nil => rfl
  | cons c l ih =>
    have hc := h c (by simp)
    have ih := ih fun c hc => h c (by simp [hc])
    have e : ((UInt8.ofNat c.toNat).toNat : Int) = c := by
      rw [UInt8.toNat_ofNat', Nat.mod_eq_of_lt (by omega)]
      omega
    simp only [bcs, Lib.byteCells, u8s, List.map_cons] at ih ⊢
    rw [ih, e]
theorem own_cellAt {w : World} {B e g n m c : Nat} {xs : List Value} (h : w.ownsRow B e 1 (.slice (some ⟨g, 0, none⟩) m c) n xs) (j : Nat) (u : Value) (hu : xs[j]? = some u) : w.cell? ⟨g, j, none⟩ = some u := by
  rcases h.2 with ⟨h0, _⟩ | ⟨g', cap, cur, hv, _, hg, _, _, hs, ht⟩
  · cases h0
  · obtain ⟨rfl, rfl, rfl⟩ : g = g' ∧ m = n ∧ c = cap := by simpa using hv
    rw [Lib.cell_of_heap hg]
    rw [← ht, List.getElem?_take] at hu
    split at hu
    · simpa using hu
    · cases hu
theorem BAt.vlt {B b k : Nat} {v : Value} {bs : List Value} {w : World} (h : BAt B b v bs w) (hk : v.ownBlock = some k) : k < w.heap.size := by
  obtain ⟨cs, hc⟩ := own_typed h.2.2 k hk
  exact (Array.getElem?_eq_some_iff.1 hc).1
set_option maxHeartbeats 4000000 in
set_option maxRecDepth 100000 in
theorem fix_Text.walk (k : Nat) (a0 N : Int) (hN : N = if a0 < 0 then -a0 else a0) (h0 : -2147483648 ≤ a0) (h1 : a0 ≤ 2147483647) (r : List Int) (hr : wd k (N / 65536) [] = some r) (hrd : ∀ c ∈ r, 0 ≤ c ∧ c < 256) (r2 : List Int) (hr2 : fd k (N % 65536) [] = some r2) (hrd2 : ∀ c ∈ r2, 0 ≤ c ∧ c < 256) (hk : k ≤ 1000) (w : World) :
    Calls Try.prog 24 #[.int .i32 a0] w fun e w' => e = .returned (.string ⟨(u8s ((if a0 < 0 then [45] else []) ++ r.reverse ++ (if 0 < N % 65536 then [46] else []) ++ r2)).toArray⟩) ∧ Below w.heap.size w w' := by
  have H' := Aside0.mk hr
  have HR2 := Aside0.mk hr2
  have HD := Aside0.mk hrd
  have HD2 := Aside0.mk hrd2
  clear hr hr2 hrd hrd2
  obtain ⟨BS, hBS⟩ : ∃ BS : List Int, (if a0 < 0 then [45] else []) = BS := ⟨_, rfl⟩
  obtain ⟨RES, hRES⟩ : ∃ RES, u8s ((if a0 < 0 then [45] else []) ++ r.reverse ++ (if 0 < N % 65536 then [46] else []) ++ r2) = RES := ⟨_, rfl⟩
  rw [hRES]
  rw [hBS] at hRES
  have HRES := Aside0.mk hRES
  clear hRES
  by_cases hs : a0 < 0
  case' pos =>
    rw [if_pos hs] at hN hBS
    obtain rfl : a0 = -N := by omega
    have f1 : decide (0 < N) = true := decide_eq_true (by omega)
    have hN0 : 0 ≤ N := by omega
    have hN1 : N ≤ 2147483648 := by omega
    have hBSl : BS.length ≤ 1 := by rw [← hBS]; simp
    have HBSd : Aside0 (∀ c ∈ BS, 0 ≤ c ∧ c < 256) := ⟨by rw [← hBS]; simp⟩
    have HBS := Aside0.mk hBS
    clear hN h0 h1 hs hBS
    go_enter Try.func24, Try.ntmps24
    have hB0 : BAt w.heap.size w.heap.size (.slice none 0 0) [] (w.alloc (.cells #[.pointer none, .slice none 0 0] 50)) := ⟨Nat.le_refl _, ⟨_, .inl rfl, heap_alloc_new w _⟩, World.ownsRow_nil ..⟩
    have HW0 : Below w.heap.size w (w.alloc (.cells #[.pointer none, .slice none 0 0] 50)) := below_alloc (Below.refl _ _) _
    go_wp2_with (go_at_call 30; refine (WriteByte2 w.heap.size w.heap.size _ _ 45 _ hB0 (by simp) HW0.size).mono ?_)
    rintro e wA ⟨rfl, V0, hBA, hbA, hkp, hat⟩
    have HWA := Aside0.mk (HW0.trans hbA)
    clear hB0 HW0 hbA hkp hat
    have HBA : Aside0 (BAt w.heap.size w.heap.size V0 (bcs BS) wA) := ⟨by rw [← HBS.out]; simpa [bcs] using hBA⟩
    have HV0 : Aside0 (∀ k, V0.ownBlock = some k → k < wA.heap.size) := ⟨fun k hk => BAt.vlt hBA hk⟩
    clear hBA HBS
    go_wp2
  case' neg =>
    rw [if_neg hs] at hN hBS
    subst hN
    have f1 : decide (N < 0) = false := decide_eq_false hs
    have hN0 : 0 ≤ N := by omega
    have hN1 : N ≤ 2147483648 := by omega
    have hBSl : BS.length ≤ 1 := by rw [← hBS]; simp
    have HBSd : Aside0 (∀ c ∈ BS, 0 ≤ c ∧ c < 256) := ⟨by rw [← hBS]; simp⟩
    clear h0 h1 hs
    go_enter Try.func24, Try.ntmps24
    obtain ⟨V0, hV0⟩ : ∃ V0, Value.slice none 0 0 = V0 := ⟨_, rfl⟩
    have HBA : Aside0 (BAt w.heap.size w.heap.size V0 (bcs BS) (w.alloc (.cells #[.pointer none, .slice none 0 0] 50))) := ⟨by
      rw [← hV0, ← hBS]
      exact ⟨Nat.le_refl _, ⟨_, .inl rfl, heap_alloc_new w _⟩, World.ownsRow_nil ..⟩⟩
    have HWA : Aside0 (Below w.heap.size w (w.alloc (.cells #[.pointer none, .slice none 0 0] 50))) := ⟨below_alloc (Below.refl _ _) _⟩
    have HV0 : Aside0 (∀ k, V0.ownBlock = some k → k < (w.alloc (.cells #[.pointer none, .slice none 0 0] 50)).heap.size) := ⟨by rw [← hV0]; simp [Value.ownBlock]⟩
    clear hBS hV0
    go_wp2
  all_goals
    go_loopg [5, 6] k (fun kq v5 v6 w' => ∃ (x : Int) (l : List Int) (A : Option Addr) (c : Nat), v5 = .slice A l.length c ∧ v6 = .int .i64 x ∧ Aside0 (wd kq x l = some r) ∧ Aside0 (kq ≤ k) ∧ Aside0 (dgb x l.length) ∧ Aside0 (w'.ownsRow w.heap.size 5 1 v5 l.length (bcs l)) ∧ Aside0 (BAt w.heap.size w.heap.size V0 (bcs BS) w') ∧ Aside0 (∀ k, V0.ownBlock = some k → v5.ownBlock ≠ some k) ∧ Aside0 (Below w.heap.size w w'))
    case atStart =>
      refine ⟨N / 65536, [], _, _, rfl, rfl, H', ⟨Nat.le_refl _⟩, ⟨by unfold dgb; simp; omega⟩, ⟨?_⟩, ⟨?_⟩, ⟨fun k hk => ?_⟩, ⟨below_alloc HWA.out _⟩⟩
      · refine ⟨by simp [bcs], .inr ⟨_, 0, #[], rfl, ?_, ?_, Nat.le_refl _, by simp [maxLen], by simp, by simp [bcs]⟩⟩
        · first | exact HWA.out.size | omega
        · first
            | exact heap_alloc_new _ _
            | (have := heap_alloc_new (w.alloc (.cells #[.pointer none, .slice none 0 0] 50)) (.cells #[] 5)
               simpa using this)
      · exact HBA.out.kept (Below.heap_alloc _ _ _ HBA.out.lt) fun k hk => Below.heap_alloc _ _ _ (HV0.out k hk)
      · have := HV0.out k hk
        simp only [Value.ownBlock, ne_eq, Option.some.injEq]
        first
          | omega
          | (simp at this
             omega)
    case round =>
      clear H' HBA HV0 HWA
      obtain ⟨x, l, A, c, rfl, rfl, HA, HK, HX, HO, HB, HNE, HBW⟩ := hrel
      cases gk with
      | zero => exact absurd HA.out (by simp [wd])
      | succ k1 =>
        have H := HA.out
        clear HA
        simp only [wd] at H
        have HO' : wr.ownsRow w.heap.size 5 1 (.slice A l.length c) (bcs l).length (bcs l) := by rw [bcs_len]; exact HO.out
        by_cases c1 : x > 0 ∨ l.length = 0
        · rw [if_pos c1] at H
          have H' := Aside0.mk H
          clear H
          have hx := HX.out
          unfold dgb at hx
          by_cases c2 : 0 < x
          case' pos => have b1 : decide (0 < x) = true := decide_eq_true c2
          case' neg =>
            have b1 : decide (0 < x) = false := decide_eq_false c2
            have hl0 : l.length = 0 := by omega
          all_goals
            go_wp2_with (at_builtin; refine print_append (w0 := w) w.heap.size rfl _ _ 48 5 (.int .u8 0) 1 rfl Try.underlying48 infoByte rfl (by decide) (.slice A l.length c) (bcs l) (.int .u8 (48 + x % 10)) rfl rfl rfl HO' HBW.out (by have := HBW.out.size; omega) (by rw [bcs_len]; omega) ?_)
            intro v1 w1 hown hb1 hgrow hat
            obtain ⟨A1, c1_, rfl⟩ := len_of_own hown
            go_wp2
            go_roundg k1
            case measure => have := HK.out; omega
            case rel =>
              have hne : (Value.slice A l.length c).ownBlock ≠ some w.heap.size := by
                obtain ⟨_, ⟨p, _, hb⟩, _⟩ := HB.out
                exact Lib.ownBlock_ne HO' hb (by decide)
              have hkk : ∀ k, k < wr.heap.size → (Value.slice A l.length c).ownBlock ≠ some k → w1.heap[k]? = wr.heap[k]? := fun k hk hn => hgrow.block k hk (fun e => hn (by cases A <;> simpa [Value.ownBlock] using e.symm))
              refine ⟨x / 10, l ++ [48 + x % 10], A1, c1_, by rw [bcs_len]; simp, rfl, H', ⟨by have := HK.out; omega⟩, ⟨by have := dgb_step HX.out c1; simpa using this⟩, ⟨by rw [bcs_app]; simpa [bcs_len] using hown⟩, ⟨HB.out.kept (hkk _ HB.out.lt hne) fun k hk => hkk k (BAt.vlt HB.out hk) (HNE.out k hk)⟩, ⟨fun k hk => ?_⟩, ⟨hb1⟩⟩
              have hlt := BAt.vlt HB.out hk
              rcases hat with hat | ⟨g', hg, hgs⟩
              · have hk2 := HNE.out k hk
                rw [hat]
                cases A with
                | none => simp [Value.ownBlock]
                | some a => exact hk2
              · rw [hg]
                intro e
                have : g' = k := by simpa using e
                omega
        · rw [if_neg c1] at H
          obtain rfl : l = r := Option.some.inj H
          have b1 : decide (0 < x) = false := decide_eq_false (by omega)
          have b2 : decide ((l.length : Int) = 0) = false := decide_eq_false (by omega)
          go_wp2
          obtain ⟨g, cap, hg, hgB, hgl⟩ := HO'.form (by rw [bcs_len]; omega)
          obtain ⟨rfl, hl_, rfl⟩ : A = some ⟨g, 0, none⟩ ∧ l.length = (bcs l).length ∧ c = cap := by simpa using hg
          have hl6 := HX.out.2.2.1
          clear hg hl_ c1 HX
          have hwr : wrap64 ((l.length : Int) - 1) = (l.length : Int) - 1 := by unfold wrap64; omega
          rw [hwr]
          go_loopg [7] l.length (fun kq v7 w' => ∃ (V : Value), v7 = .int .i64 ((kq : Int) - 1) ∧ Aside0 (kq ≤ l.length) ∧ Aside0 (w'.ownsRow w.heap.size 5 1 (.slice (some ⟨g, 0, none⟩) l.length c) (bcs l).length (bcs l)) ∧ Aside0 (BAt w.heap.size w.heap.size V (bcs (BS ++ (l.drop kq).reverse)) w') ∧ Aside0 (V.ownBlock ≠ some g) ∧ Aside0 (Below w.heap.size w w'))
          case atStart =>
            refine ⟨V0, rfl, ⟨Nat.le_refl _⟩, ⟨HO'⟩, ⟨by simp only [List.drop_length, List.reverse_nil, List.append_nil]; exact HB.out⟩, ⟨fun e => HNE.out g e rfl⟩, HBW⟩
          case round =>
            clear HO HB HBW HO' HNE
            obtain ⟨V, rfl, HK2, HO, HB, HV, HBW⟩ := hrel
            cases gk with
            | zero =>
              have b3 : decide (((0 : Nat) : Int) - 1 ≥ 0) = false := decide_eq_false (by omega)
              clear hwr HO HV
              have hand : bits .and .i64 N 65535 = N % 65536 := bits_mask .i64 62 (by decide) wraps62 16 (by decide) N hN0 (by omega)
              have HB' : Aside0 (BAt w.heap.size w.heap.size V (bcs (BS ++ l.reverse)) wr) := ⟨by simpa using HB.out⟩
              clear HB
              obtain ⟨DOT, hDOT⟩ : ∃ DOT : List Int, (if 0 < N % 65536 then [46] else []) = DOT := ⟨_, rfl⟩
              have HRES' := HRES.out
              rw [hDOT] at HRES'
              by_cases c4 : 0 < N % 65536
              case' pos =>
                rw [if_pos c4] at hDOT
                have b4 : decide (0 < N % 65536) = true := decide_eq_true c4
                go_wp2_with (go_at_call 30; refine (WriteByte2 w.heap.size w.heap.size V _ _ _ HB'.out (by simp [bcs]; omega) (by have := HBW.out.size; omega)).mono ?_)
                rintro e w1 ⟨rfl, V', hB', hb1, hkp, hat⟩
                go_wp2
                have HBD : Aside0 (BAt w.heap.size w.heap.size V' (bcs (BS ++ l.reverse ++ DOT)) w1) := ⟨by rw [← hDOT]; simpa [bcs] using hB'⟩
                have HBWD : Aside0 (Below w.heap.size w w1) := ⟨HBW.out.trans hb1⟩
                clear HB' HBW hB' hb1 hkp hat b4
              case' neg =>
                rw [if_neg c4] at hDOT
                have b4 : decide (0 < N % 65536) = false := decide_eq_false c4
                go_wp2
                have HBD : Aside0 (BAt w.heap.size w.heap.size V (bcs (BS ++ l.reverse ++ DOT)) wr) := ⟨by rw [← hDOT]; simpa [bcs] using HB'.out⟩
                have HBWD := HBW
                clear HB' HBW b4
              all_goals
                have hDl : DOT.length ≤ 1 := by rw [← hDOT]; simp
                have HDd : Aside0 (∀ c ∈ DOT, 0 ≤ c ∧ c < 256) := ⟨by rw [← hDOT]; simp⟩
                clear hDOT HRES hand
                go_loopg [4] k (fun kq v4 w' => ∃ (n : Int) (l3 : List Int) (V : Value), v4 = .int .i64 n ∧ Aside0 (0 ≤ n ∧ n < 65536) ∧ Aside0 (fd kq n l3 = some r2) ∧ Aside0 (kq + l3.length ≤ k) ∧ Aside0 (BAt w.heap.size w.heap.size V (bcs (BS ++ l.reverse ++ DOT ++ l3)) w') ∧ Aside0 (Below w.heap.size w w'))
                case atStart =>
                  exact ⟨_, [], _, rfl, ⟨by omega⟩, HR2, ⟨by simp⟩, ⟨by simpa using HBD.out⟩, HBWD⟩
                case round =>
                  clear HR2 HBD HBWD c4
                  obtain ⟨n, l3, V3, rfl, HN, HF, HK3, HB, HBW⟩ := hrel
                  have hn := HN.out
                  cases gk with
                  | zero => exact absurd HF.out (by simp [fd])
                  | succ k2 =>
                    have H := HF.out
                    clear HF
                    simp only [fd] at H
                    have hk3 := HK3.out
                    by_cases c5 : n > 0
                    · rw [if_pos c5] at H
                      have b5 : decide (0 < n) = true := decide_eq_true c5
                      have hq : 0 ≤ n * 10 / 65536 ∧ n * 10 / 65536 ≤ 9 := by omega
                      have hand : bits .and .i64 (n * 10) 65535 = n * 10 % 65536 := bits_mask .i64 62 (by decide) wraps62 16 (by decide) (n * 10) (by omega) (by omega)
                      go_wp2_with (go_at_call 30; refine (WriteByte2 w.heap.size w.heap.size V3 _ (48 + n * 10 / 65536) _ HB.out (by simp [bcs]; omega) (by have := HBW.out.size; omega)).mono ?_)
                      rintro e w1 ⟨rfl, V', hB', hb1, hkp, hat⟩
                      go_wp2
                      go_roundg k2
                      case measure => omega
                      case rel =>
                        refine ⟨_, l3 ++ [48 + n * 10 / 65536], V', rfl, ⟨by omega⟩, ⟨H⟩, ⟨by simp; omega⟩, ⟨?_⟩, ⟨HBW.out.trans hb1⟩⟩
                        simpa [bcs] using hB'
                    · rw [if_neg c5] at H
                      obtain rfl : l3 = r2 := Option.some.inj H
                      have b5 : decide (0 < n) = false := decide_eq_false c5
                      have dig : ∀ c ∈ BS ++ l.reverse ++ DOT ++ l3, 0 ≤ c ∧ c < 256 := by
                        intro c hc
                        simp only [List.mem_append, List.mem_reverse] at hc
                        rcases hc with ((hc | hc) | hc) | hc
                        · exact HBSd.out c hc
                        · exact HD.out c hc
                        · exact HDd.out c hc
                        · exact HD2.out c hc
                      go_wp2_with (go_at_call 31; refine (GLib.Builder_String_any w.heap.size w.heap.size (u8s (BS ++ l.reverse ++ DOT ++ l3)) _ (by rw [← bcs_bytes _ dig]; exact HB.out.isBuilder) (by have := HBW.out.size; omega)).mono ?_)
                      rintro e w1 rfl hb1
                      have hb2 := Aside0.mk hb1
                      clear hb1
                      go_wp2
                      go_ret
                      simp only [List.append_assoc] at HRES' ⊢
                      rw [HRES']
                      exact ⟨rfl, HBW.out.trans hb2.out⟩
            | succ j =>
              have hj := HK2.out
              have b3 : decide (((j + 1 : Nat) : Int) - 1 ≥ 0) = true := decide_eq_true (by omega)
              have hld : wr.cell? ⟨g, j, none⟩ = some (.int .u8 (l[j]'(by omega))) := own_cellAt HO.out j _ (by simp [bcs, List.getElem?_map, List.getElem?_eq_getElem (show j < l.length by omega)])
              go_wp2_with (go_at_call 30; refine (WriteByte2 w.heap.size w.heap.size V _ _ _ HB.out (by simp [bcs]; omega) (by have := HBW.out.size; omega)).mono ?_)
              rintro e w1 ⟨rfl, V', hB', hb1, hkp, hat⟩
              go_wp2
              go_roundg j
              case measure => omega
              case rel =>
                have hgl' : g < wr.heap.size := by
                  obtain ⟨cs, hc⟩ := own_typed HO.out g rfl
                  exact (Array.getElem?_eq_some_iff.1 hc).1
                have hgb : (Value.slice (some ⟨g, 0, none⟩) l.length c).ownBlock ≠ some w.heap.size := by
                  obtain ⟨_, ⟨p, _, hb⟩, _⟩ := HB.out
                  exact Lib.ownBlock_ne HO.out hb (by decide)
                refine ⟨V', rfl, ⟨by omega⟩, ⟨hkp.own HO.out hgb ?_⟩, ⟨?_⟩, ⟨?_⟩, ⟨HBW.out.trans hb1⟩⟩
                · exact .inr (by simpa [Value.ownBlock] using fun h => HV.out h.symm)
                · have e : bcs (BS ++ (l.drop j).reverse) = bcs (BS ++ (l.drop (j + 1)).reverse) ++ [.int .u8 (l[j]'(by omega))] := by
                    rw [List.drop_eq_getElem_cons (show j < l.length by omega)]
                    simp only [bcs, List.reverse_cons, List.map_append, List.append_assoc, List.map_cons, List.map_nil]
                  rw [e]
                  exact hB'
                · rcases hat with hat | ⟨g', hg, hgs⟩
                  · rw [hat]; exact HV.out
                  · rw [hg]
                    intro e
                    have : g' = g := by simpa using e
                    omega
theorem wd_dig : ∀ (k : Nat) (x : Int) (l r : List Int), wd k x l = some r → (∀ c ∈ l, 48 ≤ c ∧ c ≤ 57) → ∀ c ∈ r, 48 ≤ c ∧ c ≤ 57 := by
  intro k
  induction k with
  | zero => intro x l r h; simp [wd] at h
  | succ k ih =>
    intro x l r h hl
    simp only [wd] at h
    split at h
    · refine ih _ _ _ h fun c hc => ?_
      simp only [List.mem_append, List.mem_singleton] at hc
      rcases hc with hc | rfl
      · exact hl c hc
      · omega
    · cases h
      exact hl
theorem fd_dig : ∀ (k : Nat) (n : Int) (l r : List Int), fd k n l = some r → 0 ≤ n → n < 65536 → (∀ c ∈ l, 48 ≤ c ∧ c ≤ 57) → ∀ c ∈ r, 48 ≤ c ∧ c ≤ 57 := by
  intro k
  induction k with
  | zero => intro x l r h; simp [fd] at h
  | succ k ih =>
    intro n l r h h0 h1 hl
    simp only [fd] at h
    split at h
    · refine ih _ _ _ h (by omega) (by omega) fun c hc => ?_
      simp only [List.mem_append, List.mem_singleton] at hc
      rcases hc with hc | rfl
      · exact hl c hc
      · omega
    · cases h
      exact hl
/-- The text's bytes. -/
def txt (a : Int) (r r2 : List Int) : List Int := (if a < 0 then [45] else []) ++ r.reverse ++ (if 0 < (if a < 0 then -a else a) % 65536 then [46] else []) ++ r2
def fix_Text.f (a : Int) : Option ByteArray :=
  if -2147483648 ≤ a ∧ a ≤ 2147483647 then
    (wd 30 ((if a < 0 then -a else a) / 65536) []).bind fun r => (fd 30 ((if a < 0 then -a else a) % 65536) []).bind fun r2 => some ⟨(u8s (txt a r r2)).toArray⟩
  else none
theorem fix_Text.calls (a0 : Int) (r : ByteArray) (w : World) (h : fix_Text.f a0 = some r) : Calls Try.prog 24 #[.int .i32 a0] w fun e w' => e = .returned (.string r) ∧ Below w.heap.size w w' := by
  unfold fix_Text.f at h
  split at h
  · rename_i hb
    obtain ⟨r1, hr1, h⟩ := Option.bind_eq_some_iff.1 h
    obtain ⟨r2, hr2, h⟩ := Option.bind_eq_some_iff.1 h
    cases h
    have d1 := wd_dig _ _ _ _ hr1 (by simp)
    have d2 := fd_dig _ _ _ _ hr2 (by omega) (by omega) (by simp)
    exact fix_Text.walk 30 a0 _ rfl hb.1 hb.2 r1 hr1 (fun c hc => by have := d1 c hc; omega) r2 hr2 (fun c hc => by have := d2 c hc; omega) (by omega) w
  · cases h
end Go.Proofs.Ytnhapgenebcjmaa.GText
