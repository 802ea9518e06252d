/- A whole struct into a box that is known: one event, one world. -/
import Derived.Test.YtdlhodbokkaghaaWMore
import Derived.Laws.CopyOwn
import Derived.Laws.Tables
set_option linter.unusedVariables false
set_option linter.unusedSimpArgs false
namespace Go.Proofs.YtdlhodbokkaghaaW.PrintWords
open Go.RowKit
theorem keep_setRow (W : World) (g : Nat) (c : Array Value) : KeepBut W (W.setRow g c) g none := ⟨Nat.le_of_eq (setRow_size W g c).symm, fun k _ hk _ => setRow_other W g k c hk⟩
theorem blk_setRow {W : World} {g t : Nat} {c : Array Value} {fr : Nat × Nat} (h : W.heap[g]? = some (.cells c t fr)) (c' : Array Value) : (W.setRow g c').heap[g]? = some (.cells c' t fr) := setRow_heap W g c c' t fr h
theorem blk_setRow_far {W : World} {g k : Nat} {o : Obj} (h : W.heap[k]? = some o) (hne : k ≠ g) (c' : Array Value) : (W.setRow g c').heap[k]? = some o := (setRow_other W g k c' hne).trans h
/-- Cells in a row, told one by one. -/
def CellsAt (W : World) (ad : Addr) : Nat → List Value → Prop
  | _, [] => True
  | j, v :: l => W.cell? (ad.add j) = some v ∧ CellsAt W ad (j + 1) l
theorem CellsAt.get {W : World} {ad : Addr} : ∀ (l : List Value) (i : Nat), CellsAt W ad i l → ∀ j v, l[j]? = some v → W.cell? (ad.add (i + j)) = some v
  | [], _, _, j, v, hj => by simp at hj
  | x :: l, i, h, 0, v, hj => by simp only [List.getElem?_cons_zero, Option.some.injEq] at hj; rw [← hj]; exact h.1
  | x :: l, i, h, j + 1, v, hj => by
    have := CellsAt.get l (i + 1) h.2 j v (by simpa using hj)
    rwa [show i + 1 + j = i + (j + 1) by omega] at this
theorem CellsAt.all {W : World} {ad : Addr} {l : List Value} (h : CellsAt W ad 0 l) : ∀ j v, l[j]? = some v → W.cell? (ad.add j) = some v := fun j v hj => by
  have := CellsAt.get l 0 h j v hj
  rwa [Nat.zero_add] at this
section
variable {P : Program} {ops : Array Oper} {rest : List Oper} {o : Oper} {a : Act} {Q : Exit → Act → World → Prop}
theorem run_loadVar_cells (w : World) (ad : Addr) (ty : TypeId) (cs : List Value) (d : TypeDesc) (hc : ∀ j v, cs[j]? = some v → w.cell? (ad.add j) = some v) (hu : P.underlying ty = some d) (hd : d.isRow = true) (hi : (P.info? ty).map (·.size) = some cs.length) :
    (loadVar ty ad).run P w = .ok (.agg cs.toArray) w := by
  have hl : (loadCells ad cs.length).run P w = .ok cs.toArray w := run_loadCells_list (P := P) w ad cs hc
  cases hq : P.info? ty with
  | none => simp [hq] at hi
  | some i =>
    have hs : i.size = cs.length := by simpa [hq] using hi
    have hagg : (isAgg ty).run P w = .ok true w := by
      unfold isAgg
      rw [Sem.run_bind, run_underlying hu w]
      cases d <;> simp_all
    simp [loadVar, Sem.run_bind, hagg, sizeOf, typeInfo, hq, hs, hl]
theorem gate_load {W : World} {t : TypeId} {p : Tmp} (_ho : o.op = .load t (.tmp p)) (h : wpList P ops Q (o :: rest) a W) : wpList P ops Q (o :: rest) a W := h
/-- A whole element is read, its cells told one by one. -/
theorem load_cells_event {W : World} {ad : Addr} {t N : Nat} {p : Tmp} {d : TypeDesc} (cs : List Value) (hgd : o.guard = none) (ho : o.op = .load t (.tmp p)) (hN : o.dst = some N) (hp : a.eval (.tmp p) = .pointer (some ad)) (hc : CellsAt W ad 0 cs) (hu : P.underlying t = some d) (hd : d.isRow = true) (hi : (P.info? t).map (·.size) = some cs.length)
    (h : wpList P ops Q rest (a.put o.dst (.agg cs.toArray)) W) : wpList P ops Q (o :: rest) a W := by
  refine Kd.event_run (v := .agg cs.toArray) (w1 := W) hgd ?_ h
  have hrun := run_loadVar_cells (P := P) W ad t cs d hc.all hu hd hi
  unfold execOp
  simp only [ho, hp, Instr.loadAt, Instr.sureAddr, Sem.run_bind, Sem.run_pure, Result.andThen_ok, hrun]
/-- A whole value into a box that is known. -/
theorem store_box_event {W : World} {t t' : TypeId} {p : Tmp} {v : Operand} {g : Nat} {c : Array Value} (c' : Array Value) (hgd : o.guard = none) (ho : o.op = .store t (.tmp p) v) (hN : o.dst = none) (hp : a.eval (.tmp p) = .pointer (some ⟨g, 0, none⟩)) (hv : a.eval v = .agg c') (hb : W.heap[g]? = some (.cells c t' (0, 0))) (hi : (P.info? t).map (·.size) = some c'.size) (hs : c.size = c'.size) (h1 : c'.all (·.oneCell') = true)
    (h : wpList P ops Q rest a (W.setRow g c')) : wpList P ops Q (o :: rest) a W := by
  refine store_event (w1 := W.setRow g c') hgd ho hN ?_ (fun w' e => by rw [e]; exact h)
  have hrun := run_storeVar_row (P := P) W g t' t c c' hb hi hs h1
  unfold execOp
  simp only [ho, hp, hv, Instr.storeAt, Instr.sureAddr, Sem.run_bind, Sem.run_pure, Result.andThen_ok, hrun]
theorem store_box_eventW {W : World} {t t' : TypeId} {p : Tmp} {v : Operand} {g : Nat} {c : Array Value} (c' : Array Value) (hgd : o.guard = none) (ho : o.op = .store t (.tmp p) v) (hN : o.dst = none) (hp : a.eval (.tmp p) = .pointer (some ⟨g, 0, none⟩)) (hv : a.eval v = .agg c') (hb : W.heap[g]? = some (.cells c t' (0, 0))) (hi : (P.info? t).map (·.size) = some c'.size) (hs : c.size = c'.size) (h1 : c'.all (·.oneCell') = true)
    (h : ∀ w', w' = W.setRow g c' → wpList P ops Q rest a w') : wpList P ops Q (o :: rest) a W := store_box_event c' hgd ho hN hp hv hb hi hs h1 (h _ rfl)
end
end Go.Proofs.YtdlhodbokkaghaaW.PrintWords
