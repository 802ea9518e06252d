/- The numbers that Make makes: plain. -/
import Derived.Test.YtdlhodbokkaghaaGQx1
import Derived.Test.YtdlhodbokkaghaaGQx2
import Derived.Test.YtdlhodbokkaghaaGQx6
import Derived.Test.YtdlhodbokkaghaaGMakeF
import Derived.Test.YtdlhodbokkaghaaUMath
import Derived.OpenShut
import Derived.Laws.Bits64
set_option linter.unusedVariables false
set_option linter.unusedSimpArgs false
namespace Go.Proofs.Ytdlhodbokkaghaa.U
open Go.RowKit Go.Proofs.YtdlhodbokkaghaaW.PrintWords Go.Proofs.YtdlhodbokkaghaaW.PrintLast Go.Proofs.YtdlhodbokkaghaaW.PrintMore Go.Proofs.Ytdlhodbokkaghaa.GQ
abbrev u64 (x : Int) : Int := IntKind.u64.wrap x
theorem u64_mod (x : Int) : u64 x = x % 18446744073709551616 := IntKind.wrap_u64 x
theorem u64_id {x : Int} (h0 : 0 ≤ x) (h1 : x < 18446744073709551616) : u64 x = x := by rw [u64_mod]; omega
theorem u64_range (x : Int) : 0 ≤ u64 x ∧ u64 x < 18446744073709551616 := by rw [u64_mod]; omega
theorem xor_range (x y : Int) : 0 ≤ Go.bits .xor .u64 x y ∧ Go.bits .xor .u64 x y < 18446744073709551616 := by
  have h := wf_u64 (wf_bits .xor .u64 x y)
  omega
def mx1 (x : Int) : Int := u64 (Go.bits .xor .u64 x (x / 1073741824) * 13787848793156543929)
def mx2 (x : Int) : Int := u64 (Go.bits .xor .u64 x (x / 134217728) * 10723151780598845931)
def mx3 (x : Int) : Int := Go.bits .xor .u64 x (x / 2147483648)
def mix (x : Int) : Int := mx3 (mx2 (mx1 x))
theorem mix_range (x : Int) : 0 ≤ mix x ∧ mix x < 18446744073709551616 := xor_range _ _
/-- A number for a bound, of what the seed has come to. -/
def rv (x most : Int) : Int := mix x / 4294967296 * 2 * most / 4294967296 - most
def nx (s : Int) : Int := u64 (s + 11400714819323198485)
def Most (m : Int) : Prop := m = 131072 ∨ m = 65536 ∨ m = 16384
theorem rv_bound (x m : Int) (h : Most m) : -m ≤ rv x m ∧ rv x m < m := by
  unfold rv
  have := mix_range x
  rcases h with rfl | rfl | rfl <;> omega
theorem next_eq (s m : Int) (h : Most m) : model_maker_next.f s m = some (rv (nx s) m, nx s) := by
  have h0 : model_maker_next.f s m = some (wrap32 (wrap32 (wrap64 (wrap64 (mix (nx s) / 4294967296) * wrap64 (wrap32 (2 * m))) / 4294967296) - m), nx s) := rfl
  rw [h0]
  have hr := mix_range (nx s)
  have hv := rv_bound (nx s) m h
  unfold rv at hv ⊢
  obtain ⟨y, hy⟩ : ∃ y, mix (nx s) / 4294967296 = y := ⟨_, rfl⟩
  rw [hy] at hv ⊢
  have y0 : 0 ≤ y := by omega
  have y1 : y < 4294967296 := by omega
  rw [w64 (x := y) (by omega) (by omega)]
  rcases h with rfl | rfl | rfl
  · rw [show wrap32 (2 * 131072) = 262144 from by unfold wrap32; omega, show wrap64 262144 = 262144 from by unfold wrap64; omega, w64 (by omega) (by omega), w32 (x := y * 262144 / 4294967296) (by omega) (by omega), w32 (by omega) (by omega), show y * 2 * 131072 = y * 262144 by omega]
  · rw [show wrap32 (2 * 65536) = 131072 from by unfold wrap32; omega, show wrap64 131072 = 131072 from by unfold wrap64; omega, w64 (by omega) (by omega), w32 (x := y * 131072 / 4294967296) (by omega) (by omega), w32 (by omega) (by omega), show y * 2 * 65536 = y * 131072 by omega]
  · rw [show wrap32 (2 * 16384) = 32768 from by unfold wrap32; omega, show wrap64 32768 = 32768 from by unfold wrap64; omega, w64 (by omega) (by omega), w32 (x := y * 32768 / 4294967296) (by omega) (by omega), w32 (by omega) (by omega), show y * 2 * 16384 = y * 32768 by omega]
theorem tdivu (x d : Int) (h0 : 0 ≤ x) (h1 : x < 18446744073709551616) (hd : 0 < d) : u64 (Int.tdiv x d) = x / d := by
  rw [Int.tdiv_eq_ediv_of_nonneg h0]
  exact u64_id (Int.ediv_nonneg h0 (by omega)) (by have := Int.ediv_le_self d h0; omega)
/-- The i-th number's place in the seed's row. -/
def at_ (seed : Int) (i : Nat) : Int := u64 (seed + (i : Int) * 11400714819323198485)
theorem at_nx (seed : Int) (i : Nat) : nx (at_ seed i) = at_ seed (i + 1) := by
  unfold nx at_
  rw [u64_mod, u64_mod, u64_mod]
  push_cast
  omega
theorem at_zero (seed : Int) (h0 : 0 ≤ seed) (h1 : seed < 18446744073709551616) : at_ seed 0 = seed := by
  unfold at_
  rw [u64_mod]
  omega
def ry (x : Int) : Int := u64 (Go.bits .xor .u64 x (u64 (Int.tdiv x 1073741824)) * 13787848793156543929)
def rz (x : Int) : Int := u64 (Go.bits .xor .u64 x (u64 (Int.tdiv x 134217728)) * 10723151780598845931)
def rx (seed i : Int) : Int := u64 (seed + u64 (u64 (wrap64 (i + 1)) * 11400714819323198485))
theorem rand_form (seed i m : Int) : tillerref06_Random.f seed i m = some (wrap32 (wrap64 (wrap64 (Int.tdiv (wrap64 (wrap64 (wrap64 (u64 (Int.tdiv (Go.bits .xor .u64 (rz (ry (rx seed i))) (u64 (Int.tdiv (rz (ry (rx seed i))) 2147483648))) 4294967296)) * 2) * m)) 4294967296) - m))) := rfl
theorem ry_eq (x : Int) (h0 : 0 ≤ x) (h1 : x < 18446744073709551616) : ry x = mx1 x := by unfold ry mx1; rw [tdivu x _ h0 h1 (by decide)]
theorem rz_eq (x : Int) (h0 : 0 ≤ x) (h1 : x < 18446744073709551616) : rz x = mx2 x := by unfold rz mx2; rw [tdivu x _ h0 h1 (by decide)]
theorem rand_eq (seed : Int) (i : Nat) (m : Int) (hi : i < 1000000) (h : Most m) : tillerref06_Random.f seed (i : Int) m = some (rv (at_ seed (i + 1)) m) := by
  have hx : rx seed (i : Int) = at_ seed (i + 1) := by
    unfold rx at_
    rw [w64 (by omega) (by omega), u64_mod, u64_mod, u64_mod, u64_mod]
    push_cast
    omega
  have ha : 0 ≤ at_ seed (i + 1) ∧ at_ seed (i + 1) < 18446744073709551616 := u64_range _
  have hb : 0 ≤ mx1 (at_ seed (i + 1)) ∧ mx1 (at_ seed (i + 1)) < 18446744073709551616 := u64_range _
  have hc : 0 ≤ mx2 (mx1 (at_ seed (i + 1))) ∧ mx2 (mx1 (at_ seed (i + 1))) < 18446744073709551616 := u64_range _
  have hm := mix_range (at_ seed (i + 1))
  have hmix : Go.bits .xor .u64 (mx2 (mx1 (at_ seed (i + 1)))) (mx2 (mx1 (at_ seed (i + 1))) / 2147483648) = mix (at_ seed (i + 1)) := rfl
  rw [rand_form, hx, ry_eq _ ha.1 ha.2, rz_eq _ hb.1 hb.2, tdivu (mx2 _) _ hc.1 hc.2 (by decide), hmix, tdivu _ _ hm.1 hm.2 (by decide)]
  have hv := rv_bound (at_ seed (i + 1)) m h
  unfold rv at hv ⊢
  obtain ⟨y, hy⟩ : ∃ y, mix (at_ seed (i + 1)) / 4294967296 = y := ⟨_, rfl⟩
  rw [hy] at hv ⊢
  have y0 : 0 ≤ y := by omega
  have y1 : y < 4294967296 := by omega
  rw [w64 (x := y) (by omega) (by omega), w64 (x := y * 2) (by omega) (by omega)]
  rcases h with rfl | rfl | rfl
  all_goals (rw [w64 (x := y * 2 * _) (by omega) (by omega), Int.tdiv_eq_ediv_of_nonneg (by omega), w64 (x := y * 2 * _ / 4294967296) (by omega) (by omega), w64 (by omega) (by omega), w32 (by omega) (by omega)])
/-- n numbers from the state s on, and the state behind them. -/
def rowL (s m : Int) : Nat → List Int
  | 0 => []
  | n + 1 => rv (nx s) m :: rowL (nx s) m n
def stI (s : Int) : Nat → Int
  | 0 => s
  | n + 1 => stI (nx s) n
theorem rowL_length (s m : Int) (n : Nat) : (rowL s m n).length = n := by
  induction n generalizing s with
  | zero => rfl
  | succ n ih => show (rowL (nx s) m n).length + 1 = n + 1; rw [ih]
theorem rowL_bound {m : Int} (h : Most m) (n : Nat) : ∀ (s : Int), ∀ x ∈ rowL s m n, -m ≤ x ∧ x < m := by
  induction n with
  | zero => intro s x hx; cases hx
  | succ n ih =>
    intro s x hx
    rcases List.mem_cons.mp hx with rfl | hx
    · exact rv_bound _ _ h
    · exact ih _ x hx
theorem row_run (m : Int) (h : Most m) (N : Nat) (hN : N ≤ 100000) : ∀ (n i k : Nat) (s : Int) (acc : List Int), i + n = N → n < k → acc.length ≤ i →
    model_maker_row.l0 k m acc (N : Int) (i : Int) s = some (acc ++ rowL s m n, stI s n) := by
  intro n
  induction n with
  | zero =>
    intro i k s acc hi hk ha
    obtain ⟨k, rfl⟩ := succ_of_lt (show 0 < k by omega)
    simp only [model_maker_row.l0]
    rw [if_neg (by omega)]
    simp [rowL, stI]
  | succ n ih =>
    intro i k s acc hi hk ha
    obtain ⟨k, rfl⟩ := succ_of_lt (show 0 < k by omega)
    simp only [model_maker_row.l0]
    rw [if_pos (by omega), next_eq s m h, Option.bind_some, if_pos (by omega), w64 (by omega) (by omega), ← Int.natCast_one, ← Int.natCast_add, ih (i + 1) k _ _ (by omega) (by omega) (by rw [List.length_append, List.length_singleton]; omega), List.append_assoc]
    rfl
theorem row_eq (k : Nat) (s m : Int) (h : Most m) (n : Nat) (hn : n ≤ 100000) (hk : n < k) : model_maker_row.f k s (n : Int) m = some (rowL s m n, stI s n) := by
  unfold model_maker_row.f
  have := row_run m h n hn n 0 k s [] (by omega) hk (Nat.le_refl _)
  rwa [List.nil_append] at this
theorem side_eq (k : Nat) (s m : Int) (h : Most m) (r c : Nat) (hr : r * c ≤ 100000) (hk : r * c < k) : model_maker_side.f k s (r : Int) (c : Int) m = some ((r : Int), (c : Int), rowL s m (r * c), stI s (r * c)) := by
  unfold model_maker_side.f
  have hb : (r : Int) * (c : Int) = ((r * c : Nat) : Int) := by push_cast; rfl
  rw [hb, w64 (by omega) (by omega), row_eq k s m h (r * c) hr hk, Option.bind_some]
def gainL (s : Int) (n : Nat) : List Int := (rowL s 16384 n).map (· + 65536)
theorem gainL_length (s : Int) (n : Nat) : (gainL s n).length = n := by unfold gainL; rw [List.length_map, rowL_length]
theorem gains_run (l : List Int) (hl : l.length ≤ 100000) (hb : ∀ x ∈ l, -16384 ≤ x ∧ x < 16384) (s : Int) : ∀ (n i k : Nat), i + n = l.length → n < k →
    model_maker_gains.l0 k ((l.take i).map (· + 65536) ++ l.drop i) (l.length : Int) (i : Int) s = some (l.map (· + 65536), s) := by
  intro n
  induction n with
  | zero =>
    intro i k hi hk
    obtain ⟨k, rfl⟩ := succ_of_lt (show 0 < k by omega)
    simp only [model_maker_gains.l0]
    rw [if_neg (by omega), List.take_of_length_le (by omega), List.drop_eq_nil_of_le (by omega), List.append_nil]
  | succ n ih =>
    intro i k hi hk
    obtain ⟨k, rfl⟩ := succ_of_lt (show 0 < k by omega)
    have hil : i < l.length := by omega
    have ht : ((l.take i).map (· + 65536)).length = i := by rw [List.length_map, List.length_take]; omega
    have hlen : ((l.take i).map (· + 65536) ++ l.drop i).length = l.length := by rw [List.length_append, ht, List.length_drop]; omega
    have hrd : rd ((l.take i).map (· + 65536) ++ l.drop i) (i : Int) = l[i] := by
      rw [rd_nat (by rw [hlen]; exact hil), List.getElem_append_right (by omega), List.getElem_drop]
      congr 1
      omega
    have hx := hb l[i] (List.getElem_mem hil)
    have hset : ((l.take i).map (· + 65536) ++ l.drop i).set i (l[i] + 65536) = (l.take (i + 1)).map (· + 65536) ++ l.drop (i + 1) := by
      rw [List.set_append_right _ _ (by omega), ht, Nat.sub_self, List.drop_eq_getElem_cons hil, List.set_cons_zero, List.take_succ_eq_append_getElem hil, List.map_append, List.append_assoc]
      rfl
    simp only [model_maker_gains.l0]
    rw [if_pos (by omega), if_pos (by omega), if_pos (by rw [hlen]; omega), hrd, w32 (by omega) (by omega), w64 (by omega) (by omega), Int.toNat_natCast, hset, ← Int.natCast_one, ← Int.natCast_add]
    exact ih (i + 1) k (by omega) (by omega)
theorem gains_eq (k : Nat) (s : Int) (n : Nat) (hn : n ≤ 100000) (hk : n < k) : model_maker_gains.f k s (n : Int) = some (gainL s n, stI s n) := by
  unfold model_maker_gains.f
  rw [row_eq k s 16384 (.inr (.inr rfl)) n hn hk, Option.bind_some]
  have h := gains_run (rowL s 16384 n) (by rw [rowL_length]; exact hn) (rowL_bound (.inr (.inr rfl)) n s) (stI s n) n 0 k (by rw [rowL_length]; omega) hk
  simpa [gainL] using h
/-- A block's numbers, from the state s on. -/
def blkOf (s : Int) (d h : Nat) : BK :=
  let s1 := stI s d
  let s2 := stI s1 (d * d)
  let s3 := stI s2 (d * d)
  let s4 := stI s3 (d * d)
  let s5 := stI s4 (d * d)
  let s6 := stI s5 d
  let s7 := stI s6 (h * d)
  ⟨gainL s d, ⟨d, d, rowL s1 65536 (d * d)⟩, ⟨d, d, rowL s2 65536 (d * d)⟩, ⟨d, d, rowL s3 65536 (d * d)⟩, ⟨d, d, rowL s4 65536 (d * d)⟩, gainL s5 d, ⟨h, d, rowL s6 65536 (h * d)⟩, ⟨d, h, rowL s7 65536 (d * h)⟩⟩
def blkSt (s : Int) (d h : Nat) : Int := stI (stI (stI (stI (stI (stI (stI (stI s d) (d * d)) (d * d)) (d * d)) (d * d)) d) (h * d)) (d * h)
theorem block_eq (k : Nat) (s : Int) (d h : Nat) (hd : d ≤ 32) (hh : h ≤ 64) (hk : 5000 ≤ k) : mkBlock k s (d : Int) (h : Int) = some (blkOf s d h, blkSt s d h) := by
  have h1 : d * d ≤ 1024 := Nat.mul_le_mul hd hd
  have h2 : h * d ≤ 2048 := Nat.mul_le_mul hh hd
  have h3 : d * h ≤ 2048 := Nat.mul_le_mul hd hh
  unfold mkBlock
  have m6 : Most 65536 := .inr (.inl rfl)
  rw [gains_eq k _ d (by omega) (by omega), Option.bind_some]
  simp only
  rw [side_eq k _ _ m6 d d (by omega) (by omega), Option.bind_some]
  simp only
  rw [side_eq k _ _ m6 d d (by omega) (by omega), Option.bind_some]
  simp only
  rw [side_eq k _ _ m6 d d (by omega) (by omega), Option.bind_some]
  simp only
  rw [side_eq k _ _ m6 d d (by omega) (by omega), Option.bind_some]
  simp only
  rw [gains_eq k _ d (by omega) (by omega), Option.bind_some]
  simp only
  rw [side_eq k _ _ m6 h d (by omega) (by omega), Option.bind_some]
  simp only
  rw [side_eq k _ _ m6 d h (by omega) (by omega), Option.bind_some]
  rfl
def blksOf (d h : Nat) : Nat → Int → List BK
  | 0, s => []
  | n + 1, s => blkOf s d h :: blksOf d h n (blkSt s d h)
def blksSt (d h : Nat) : Nat → Int → Int
  | 0, s => s
  | n + 1, s => blksSt d h n (blkSt s d h)
theorem blocks_eq (k d h : Nat) (hd : d ≤ 32) (hh : h ≤ 64) (hk : 5000 ≤ k) : ∀ (n : Nat) (s : Int) (acc : List BK), mkBlocks k (d : Int) (h : Int) n s acc = some (acc ++ blksOf d h n s, blksSt d h n s) := by
  intro n
  induction n with
  | zero => intro s acc; simp [mkBlocks, blksOf, blksSt]
  | succ n ih =>
    intro s acc
    show ((mkBlock k s (d : Int) (h : Int)).bind fun b => mkBlocks k (d : Int) (h : Int) n b.2 (acc ++ [b.1])) = _
    rw [block_eq k s d h hd hh hk, Option.bind_some, ih, List.append_assoc]
    rfl
/-- A configuration's error. -/
def shp (v d hs hid ly : Int) : Int :=
  if v < 2 ∨ d < 1 ∨ hs < 1 ∨ hid < 1 ∨ ly < 1 then 1
  else if v > 64 ∨ d > 32 ∨ hs > 4 ∨ hid > 64 ∨ ly > 4 then 2
  else if d % hs = 0 then 0 else 4
theorem shape_eq (k : Nat) (v d hs hid ly : Int) : model_Shape.f (k + 2) v d hs hid ly = some (shp v d hs hid ly) := by
  unfold model_Shape.f shp
  by_cases c : v < 2 ∨ d < 1 ∨ hs < 1 ∨ hid < 1 ∨ ly < 1
  · rw [if_pos c]
    have e : ∀ b : Bool, b = true → model_Shape.j0 (k + 2) b v d hs hid ly = some 1 := fun b hb => by simp only [model_Shape.j0]; rw [if_pos hb]
    by_cases c1 : v < 2
    · rw [if_pos c1]; exact e _ rfl
    rw [if_neg c1]
    by_cases c2 : d < 1
    · rw [if_pos c2]; exact e _ rfl
    rw [if_neg c2]
    by_cases c3 : hs < 1
    · rw [if_pos c3]; exact e _ rfl
    rw [if_neg c3]
    by_cases c4 : hid < 1
    · rw [if_pos c4]; exact e _ rfl
    rw [if_neg c4]
    exact e _ (decide_eq_true (by omega))
  · rw [if_neg c, if_neg (by omega), if_neg (by omega), if_neg (by omega), if_neg (by omega), decide_eq_false (by omega)]
    simp only [model_Shape.j0]
    rw [if_neg (by decide)]
    by_cases c2 : v > 64 ∨ d > 32 ∨ hs > 4 ∨ hid > 64 ∨ ly > 4
    · rw [if_pos c2]
      have e : ∀ b : Bool, b = true → model_Shape.j1 (k + 1) b v d hs hid ly = some 2 := fun b hb => by simp only [model_Shape.j1]; rw [if_pos hb]
      by_cases c1 : v > 64
      · rw [if_pos c1]; exact e _ rfl
      rw [if_neg c1]
      by_cases c3 : d > 32
      · rw [if_pos c3]; exact e _ rfl
      rw [if_neg c3]
      by_cases c4 : hs > 4
      · rw [if_pos c4]; exact e _ rfl
      rw [if_neg c4]
      by_cases c5 : hid > 64
      · rw [if_pos c5]; exact e _ rfl
      rw [if_neg c5]
      exact e _ (decide_eq_true (by omega))
    · rw [if_neg c2, if_neg (by omega), if_neg (by omega), if_neg (by omega), if_neg (by omega), decide_eq_false (by omega)]
      simp only [model_Shape.j1]
      rw [if_neg (by decide), if_neg (by omega), Int.tmod_eq_emod_of_nonneg (by omega)]
      by_cases c3 : d % hs = 0
      · rw [if_pos c3, if_pos c3]
      · rw [if_neg c3, if_neg c3]
theorem shp_ok {v d hs hid ly : Int} (h : shp v d hs hid ly = 0) : (2 ≤ v ∧ v ≤ 64) ∧ (1 ≤ d ∧ d ≤ 32) ∧ (1 ≤ hs ∧ hs ≤ 4) ∧ (1 ≤ hid ∧ hid ≤ 64) ∧ (1 ≤ ly ∧ ly ≤ 4) := by
  unfold shp at h
  split at h
  · cases h
  · split at h
    · cases h
    · omega
/-- What Make answers. -/
theorem make_bad (k : Nat) (v d hs hid ly seed : Int) (h : shp v d hs hid ly ≠ 0) : model_Make.f (k + 2) v d hs hid ly seed = some (0, 0, [], [], [], 0, 0, [], shp v d hs hid ly) := by
  unfold model_Make.f
  rw [shape_eq, Option.bind_some, if_neg h]
theorem make_ok (k : Nat) (v d hid ly : Nat) (hs seed : Int) (hk : 5000 ≤ k) (h : shp v d hs hid ly = 0) : model_Make.f k v d hs hid ly seed =
    some ((v : Int), (d : Int), rowL seed 131072 (v * d), blksOf d hid ly (stI seed (v * d)), gainL (blksSt d hid ly (stI seed (v * d))) d, (v : Int), (d : Int), rowL (stI (blksSt d hid ly (stI seed (v * d))) d) 65536 (v * d), 0) := by
  obtain ⟨⟨_, hv⟩, ⟨_, hd⟩, _, ⟨_, hh⟩, ⟨_, hl⟩⟩ := shp_ok h
  have h1 : v * d ≤ 2048 := Nat.mul_le_mul (show v ≤ 64 by omega) (show d ≤ 32 by omega)
  obtain ⟨k, rfl⟩ : ∃ j, k = j + 2 := ⟨k - 2, by omega⟩
  unfold model_Make.f
  rw [shape_eq, Option.bind_some, if_pos h, if_pos (by omega), side_eq _ _ _ (.inl rfl) v d (by omega) (by omega), Option.bind_some]
  simp only [Int.toNat_natCast]
  rw [blocks_eq _ d hid (by omega) (by omega) hk, Option.bind_some]
  simp only [List.nil_append]
  rw [gains_eq _ _ d (by omega) (by omega), Option.bind_some]
  simp only
  rw [side_eq _ _ _ (.inr (.inl rfl)) v d (by omega) (by omega), Option.bind_some]
theorem rowL_get (seed m : Int) : ∀ (n i : Nat) (j : Nat), i < n → rd (rowL (at_ seed j) m n) (i : Int) = rv (at_ seed (j + i + 1)) m := by
  intro n
  induction n with
  | zero => intro i j hi; omega
  | succ n ih =>
    intro i j hi
    show rd (rv (nx (at_ seed j)) m :: rowL (nx (at_ seed j)) m n) (i : Int) = _
    rw [at_nx]
    cases i with
    | zero => rw [rd_nat (by simp)]; rfl
    | succ i =>
      have h := ih i (j + 1) (by omega)
      rw [rd_nat (by rw [rowL_length]; omega)] at h
      rw [rd_nat (by rw [List.length_cons, rowL_length]; omega), List.getElem_cons_succ, h]
      congr 2
      omega
end Go.Proofs.Ytdlhodbokkaghaa.U
