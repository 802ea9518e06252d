/- model.Make: what it answers, and its boxes. -/
import Derived.Test.YtdlhodbokkaghaaGQx1
import Derived.Test.YtdlhodbokkaghaaGQx2
import Derived.Test.YtdlhodbokkaghaaWApart
import Derived.Test.YtdlhodbokkaghaaWRepsOne
import Derived.LoopN
import Derived.Handy
set_option linter.unusedVariables false
set_option linter.unusedSimpArgs false
namespace Go.Proofs.Ytdlhodbokkaghaa.GQ
open Go.RowKit Go.Proofs.YtdlhodbokkaghaaW.PrintWords Go.Proofs.YtdlhodbokkaghaaW.PrintLast Go.Proofs.YtdlhodbokkaghaaW.PrintMore
abbrev BK := S37
abbrev MT := S27
abbrev kB := k37
/-- One block's numbers, and the state behind them. -/
def mkBlock (k : Nat) (s d h : Int) : Option (BK × Int) :=
  (model_maker_gains.f k s d).bind fun a => (model_maker_side.f k a.2 d d 65536).bind fun q => (model_maker_side.f k q.2.2.2 d d 65536).bind fun u => (model_maker_side.f k u.2.2.2 d d 65536).bind fun v => (model_maker_side.f k v.2.2.2 d d 65536).bind fun o => (model_maker_gains.f k o.2.2.2 d).bind fun b => (model_maker_side.f k b.2 h d 65536).bind fun x => (model_maker_side.f k x.2.2.2 d h 65536).bind fun y =>
    some ((⟨a.1, ⟨q.1, q.2.1, q.2.2.1⟩, ⟨u.1, u.2.1, u.2.2.1⟩, ⟨v.1, v.2.1, v.2.2.1⟩, ⟨o.1, o.2.1, o.2.2.1⟩, b.1, ⟨x.1, x.2.1, x.2.2.1⟩, ⟨y.1, y.2.1, y.2.2.1⟩⟩ : BK), y.2.2.2)
def mkBlocks (k : Nat) (d h : Int) : Nat → Int → List BK → Option (List BK × Int)
  | 0, s, l => some (l, s)
  | n + 1, s, l => (mkBlock k s d h).bind fun b => mkBlocks k d h n b.2 (l ++ [b.1])
def model_Make.f (k : Nat) (a0_0 a0_1 a0_2 a0_3 a0_4 a1 : Int) : Option (Int × Int × List Int × List BK × List Int × Int × Int × List Int × Int) :=
  (model_Shape.f k a0_0 a0_1 a0_2 a0_3 a0_4).bind fun e => if e = 0 then
    (if 0 ≤ a0_4 ∧ a0_4 ≤ 1000 then (model_maker_side.f k a1 a0_0 a0_1 131072).bind fun m => (mkBlocks k a0_1 a0_3 a0_4.toNat m.2.2.2 []).bind fun bs => (model_maker_gains.f k bs.2 a0_1).bind fun g => (model_maker_side.f k g.2 a0_0 a0_1 65536).bind fun o =>
      some (m.1, m.2.1, m.2.2.1, bs.1, g.1, o.1, o.2.1, o.2.2.1, 0) else none)
  else some (0, 0, [], [], [], 0, 0, [], e)
theorem mkBlock.mono (k : Nat) (s d h : Int) : LeO (mkBlock k s d h) (mkBlock (k + 1) s d h) := by
  unfold mkBlock
  repeat' first
    | exact model_maker_gains.mono _ _ _
    | exact model_maker_side.mono _ _ _ _ _
    | exact LeO.refl _
    | refine LeO.bind ?_ (fun _ => ?_)
theorem mkBlocks.mono (k : Nat) (d h : Int) : ∀ (n : Nat) (s : Int) (l : List BK), LeO (mkBlocks k d h n s l) (mkBlocks (k + 1) d h n s l)
  | 0, s, l => LeO.refl _
  | n + 1, s, l => LeO.bind (mkBlock.mono k s d h) (fun _ => mkBlocks.mono k d h n _ _)
theorem model_Make.mono (a0 a1 a2 a3 a4 a5 : Int) (k : Nat) : LeO (model_Make.f k a0 a1 a2 a3 a4 a5) (model_Make.f (k + 1) a0 a1 a2 a3 a4 a5) := by
  unfold model_Make.f
  repeat' first
    | exact model_Shape.mono _ _ _ _ _ _
    | exact model_maker_gains.mono _ _ _
    | exact model_maker_side.mono _ _ _ _ _
    | exact mkBlocks.mono _ _ _ _ _ _
    | exact LeO.refl _
    | exact LeO.none _
    | refine LeO.ite ?_ ?_
    | refine LeO.bind ?_ (fun _ => ?_)
abbrev kI := Kd.int .i32
def Z30 : Array Value := #[.int .i64 0, .int .i64 0, .slice none 0 0, .slice none 0 0, .slice none 0 0, .int .i64 0, .int .i64 0, .slice none 0 0]
/-- The boxes of Make: the configuration, the result, the maker, the numbers under way. -/
structure BF (w W : World) (cf : Array Value) (gm gw : Nat) (s : Int) (wc : Array Value) : Prop where
  c : W.heap[w.heap.size]? = some (.cells cf 23 (0, 0))
  r : W.heap[w.heap.size + 1]? = some (.cells Z30 30 (0, 0))
  m : IsS67 w W gm s
  b : W.heap[gw]? = some (.cells wc 30 (0, 0))
  lo : w.heap.size + 2 ≤ gm
  mw : gm < gw
  bel : Below w.heap.size w W
theorem BF.gw_lt {w W : World} {cf wc : Array Value} {gm gw : Nat} {s : Int} (h : BF w W cf gm gw s wc) : gw < W.heap.size := blk_lt h.b
theorem BF.step {w W W' : World} {cf wc : Array Value} {gm gw : Nat} {s : Int} (h : BF w W cf gm gw s wc) (hb : Below W.heap.size W W') : BF w W' cf gm gw s wc :=
  ⟨blk_below h.c hb, blk_below h.r hb, ⟨blk_below h.m.1 hb, h.m.2⟩, blk_below h.b hb, h.lo, h.mw, h.bel.trans (hb.mono (by have := h.gw_lt; have := h.lo; have := h.mw; omega))⟩
theorem BF.call {w W W' : World} {cf wc : Array Value} {gm gw : Nat} {s s' : Int} (h : BF w W cf gm gw s wc) (hk : KeepBut W W' gm none) (hi : IsS67 w W' gm s') (hb : Below w.heap.size w W') : BF w W' cf gm gw s' wc :=
  ⟨hk.blk h.c (by have := h.lo; omega) (by simp), hk.blk h.r (by have := h.lo; omega) (by simp), hi, hk.blk h.b (by have := h.mw; omega) (by simp), h.lo, h.mw, hb⟩
theorem BF.far {w W : World} {cf wc : Array Value} {gm gw : Nat} {s : Int} (h : BF w W cf gm gw s wc) (g j : Nat) (u : Value) (hg : gw < g) : BF w (W.setCell ⟨g, j, none⟩ u) cf gm gw s wc :=
  have h1 := h.lo
  have h2 := h.mw
  ⟨blk_far (p := ⟨g, j, none⟩) h.c (show w.heap.size ≠ g by omega) u, blk_far (p := ⟨g, j, none⟩) h.r (show w.heap.size + 1 ≠ g by omega) u, ⟨blk_far (p := ⟨g, j, none⟩) h.m.1 (show gm ≠ g by omega) u, h.m.2⟩, blk_far (p := ⟨g, j, none⟩) h.b (show gw ≠ g by omega) u, h1, h2, h.bel.setCell (p := ⟨g, j, none⟩) (show w.heap.size ≤ g by omega) u⟩
/-- A store into the numbers under way. -/
theorem BF.put {w W : World} {cf wc : Array Value} {gm gw : Nat} {s : Int} (h : BF w W cf gm gw s wc) (j : Nat) (u : Value) : BF w (W.setCell ⟨gw, j, none⟩ u) cf gm gw s (wc.setIfInBounds j u) :=
  have h1 := h.lo
  have h2 := h.mw
  ⟨blk_far (p := ⟨gw, j, none⟩) h.c (show w.heap.size ≠ gw by omega) u, blk_far (p := ⟨gw, j, none⟩) h.r (show w.heap.size + 1 ≠ gw by omega) u, ⟨blk_far (p := ⟨gw, j, none⟩) h.m.1 (show gm ≠ gw by omega) u, h.m.2⟩, blk_set h.b j u, h1, h2, h.bel.setCell (p := ⟨gw, j, none⟩) (show w.heap.size ≤ gw by omega) u⟩
end Go.Proofs.Ytdlhodbokkaghaa.GQ
