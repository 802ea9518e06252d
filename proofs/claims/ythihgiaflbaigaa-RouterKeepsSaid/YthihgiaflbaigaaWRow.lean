/- Words of this session: a law's argument of any kind (numbers, texts, slices, structs and what lies in them) is opened by its kind. -/
import Derived.Test.YthihgiaflbaigaaWExtra
import Derived.SizedLaws
import Derived.ChangeSlices
import Derived.ChangeArms
import Derived.Carry
import Derived.Lib.SmallJoins
set_option linter.unusedVariables false
namespace Go.Proofs.YthihgiaflbaigaaW.PrintWords
open Go.RowKit Go.ChangeShapes Go.WideShapes
/-- What a datum of type t reads as: a value of the kind d, within bounds. -/
def Opens (P : Program) (t : TypeId) {α : Type} (d : Kd α) (ok : α → Prop) : Prop :=
  ∀ {H : Type} (enc : TypeId × Value → H) (W : World) (base : Nat) (spare : Nat → Bool) (held : Bool) (fuel : Nat) (cs : List Value) (x : DataW H × List MemPlace),
    DataW.trod enc P W base spare held fuel t cs = some x → (∀ n ∈ x.1.weights P t, n ≤ reachBytes) → ∃ a : α, d.K W a cs ∧ ok a
theorem opens_int {P : Program} {t : TypeId} {k : IntKind} (hu : P.underlying t = some (.int k)) : Opens P t (Kd.int k) (fun n => (Lit.int k n).wf = true) := by
  intro H enc W base spare held fuel cs x h _
  obtain ⟨n, rfl, _, hw⟩ := DataW.trod_int hu h
  exact ⟨n, rfl, hw⟩
theorem opens_bool {P : Program} {t : TypeId} (hu : P.underlying t = some .bool) : Opens P t Kd.bool (fun _ => True) := by
  intro H enc W base spare held fuel cs x h _
  obtain ⟨b, rfl, _⟩ := DataW.trod_bool hu h
  exact ⟨b, rfl, trivial⟩
theorem opens_string {P : Program} {t : TypeId} (hu : P.underlying t = some .string) : Opens P t Kd.string (fun s => s.size ≤ 140737488351232) := by
  intro H enc W base spare held fuel cs x h hw
  obtain ⟨s, rfl, rfl, _⟩ := DataW.trod_string hu h
  refine ⟨s, rfl, ?_⟩
  have := hw s.data.toList.length (by simp [DataW.weights])
  simpa [reachBytes] using this
theorem cells_of {w : World} {base : Nat} {a : Addr} {n : Nat} {c : List Value} (h : w.cells? base a n = some c) : c.length = n ∧ ∀ i u, c[i]? = some u → w.cell? (a.add i) = some u := by
  obtain ⟨_, hl, hc⟩ := World.cells?_some h
  refine ⟨hl, fun i u hi => ?_⟩
  rw [← hi]
  exact hc i (by have := (List.getElem?_eq_some_iff.1 hi).1; omega)
theorem addr_add_add (a : Addr) (i j : Nat) : (a.add i).add j = a.add (i + j) := by
  unfold Addr.add
  by_cases hi : i = 0 <;> by_cases hj : j = 0 <;> simp [hi, hj, Nat.add_assoc]
theorem weights_slice {H : Type} {P : Program} {t e : TypeId} (hu : P.underlying t = some (.slice e)) {el sp : List (DataW H)} {B : Nat} (hw : ∀ n ∈ (DataW.slice el sp).weights P t, n ≤ B) :
    (el.length + sp.length) * P.bytesOf e ≤ B ∧ ∀ d ∈ el, ∀ n ∈ d.weights P e, n ≤ B := by
  simp only [DataW.weights, hu] at hw
  refine ⟨hw _ (by simp), fun d hd n hn => hw n ?_⟩
  refine List.mem_cons_of_mem _ (List.mem_append_left _ ?_)
  clear hw
  induction el with
  | nil => cases hd
  | cons a r ih =>
    simp only [DataW.weightsAll, List.mem_append]
    rcases List.mem_cons.1 hd with rfl | hd
    · exact .inl hn
    · exact .inr (ih hd)
theorem opens_slice {P : Program} {t e : TypeId} {α : Type} {d : Kd α} {ok : α → Prop} (hu : P.underlying t = some (.slice e)) (hc : P.cellsOf e = d.sz) {B : Nat} (hB : P.bytesOf e = B) (h : Opens P e d ok) :
    Opens P t (Kd.slice e d) (fun xs => xs.length * B ≤ 140737488351232 ∧ xs.length ≤ maxLen ∧ ∀ x ∈ xs, ok x) := by
  intro H enc W base spare held fuel cs x hx hw
  rcases DataW.trod_slice hu hx with ⟨rfl, rfl⟩ | ⟨a, len, cap, elems, rest, n, rfl, rfl, rfl, hb, hl, hm, hlen, hel, _⟩
  · exact ⟨[], ⟨none, 0, rfl, Nat.le_refl _, by simp [Kd.C, ReadsRow]⟩, by simp, by simp [maxLen], by simp⟩
  · obtain ⟨hw1, hw2⟩ := weights_slice hu hw
    have hex : ∀ i, i < len → ∃ y : α, ok y ∧ ∃ c, c.length = d.sz ∧ d.K W y c ∧ ∀ j u, c[j]? = some u → W.cell? (a.add (i * d.sz + j)) = some u := by
      intro i hi
      have h1 := hel i hi
      have h2 : elems[i]? = some elems[i] := List.getElem?_eq_getElem (by omega)
      rw [h2] at h1
      obtain ⟨c, hcells, hc2⟩ := Option.bind_eq_some_iff.1 h1
      obtain ⟨hcl, hcc⟩ := cells_of hcells
      obtain ⟨y, hy, hoy⟩ := h enc W base spare held n c elems[i] hc2 (fun k hk => hw2 _ (List.mem_map.2 ⟨_, List.getElem_mem _, rfl⟩) k hk)
      refine ⟨y, hoy, c, by rw [hcl, hc], hy, fun j u hj => ?_⟩
      have h3 := hcc j u hj
      rw [hc] at h3
      rw [← h3, addr_add_add]
    have hfun : ∃ ys : List α, ys.length = len ∧ ∀ i (hi : i < ys.length), ok ys[i] ∧ ∃ c, c.length = d.sz ∧ d.K W ys[i] c ∧ ∀ j u, c[j]? = some u → W.cell? (a.add (i * d.sz + j)) = some u := by
      clear hel hw hw1 hw2 hx hlen
      have : ∀ m, m ≤ len → ∃ ys : List α, ys.length = m ∧ ∀ i (hi : i < ys.length), ok ys[i] ∧ ∃ c, c.length = d.sz ∧ d.K W ys[i] c ∧ ∀ j u, c[j]? = some u → W.cell? (a.add (i * d.sz + j)) = some u := by
        intro m
        induction m with
        | zero => intro _; exact ⟨[], rfl, fun i hi => by simp at hi⟩
        | succ m ih =>
          intro hm2
          obtain ⟨ys, hy1, hy2⟩ := ih (by omega)
          obtain ⟨y, hoy, hyc⟩ := hex m (by omega)
          refine ⟨ys ++ [y], by simp [hy1], fun i hi => ?_⟩
          by_cases hi2 : i < ys.length
          · rw [List.getElem_append_left hi2]; exact hy2 i hi2
          · have : i = ys.length := by simp at hi; omega
            subst this
            simp only [List.getElem_concat_length]
            rw [hy1]
            exact ⟨hoy, hyc⟩
      exact this len (Nat.le_refl _)
    obtain ⟨ys, hy1, hy2⟩ := hfun
    refine ⟨ys, ⟨some a, cap, by rw [hy1], by omega, ?_⟩, ?_, by omega, ?_⟩
    · refine ⟨rfl, by have := hm; simp only [maxLen] at this; omega, fun _ => ⟨a, rfl, fun j p hj => ?_⟩⟩
      obtain ⟨hlt, hp⟩ := List.getElem?_eq_some_iff.1 hj
      subst hp
      obtain ⟨_, c, h1, h2, h3⟩ := hy2 j hlt
      exact ⟨c, h1, h2, h3⟩
    · have h5 : len * P.bytesOf e ≤ reachBytes := Nat.le_trans (Nat.mul_le_mul_right _ (by simp [hlen])) hw1
      rw [hy1, ← hB]
      simpa [reachBytes] using h5
    · intro y hy
      obtain ⟨i, hi, rfl⟩ := List.getElem_of_mem hy
      exact (hy2 i hi).1
/-- The fields of a struct, one behind the other. -/
def OpensSeq (P : Program) (fs : List Field) (off tot : Nat) {α : Type} (d : Kd α) (ok : α → Prop) : Prop :=
  ∀ {H : Type} (enc : TypeId × Value → H) (W : World) (base : Nat) (spare : Nat → Bool) (held : Bool) (fuel : Nat) (cs : List Value) (xs : List (DataW H × List MemPlace)),
    xs.length = fs.length → (∀ (i : Nat) (f : Field), fs[i]? = some f → DataW.trod enc P W base spare held fuel f.type ((cs.drop f.offset).take (P.cellsOf f.type)) = xs[i]?) → cs.length = tot →
    (∀ n ∈ DataW.weightsEach P (fs.map Field.type) (xs.map (·.1)), n ≤ reachBytes) → ∃ a : α, d.K W a (cs.drop off) ∧ ok a
theorem seq_one {P : Program} {f : Field} {off tot : Nat} {α : Type} {d : Kd α} {ok : α → Prop} (ho : f.offset = off) (hn : off + P.cellsOf f.type = tot) (h : Opens P f.type d ok) : OpensSeq P [f] off tot d ok := by
  intro H enc W base spare held fuel cs xs hl hx hc hw
  match xs, hl with
  | [y], _ =>
    have h1 := hx 0 f rfl
    obtain ⟨a, ha, hoa⟩ := h enc W base spare held fuel _ y h1 (fun n hn => hw n (by simpa [DataW.weightsEach] using hn))
    refine ⟨a, ?_, hoa⟩
    rw [ho] at ha
    rwa [List.take_of_length_le (by rw [List.length_drop]; omega)] at ha
theorem seq_cons {P : Program} {f : Field} {fs : List Field} {off off' tot : Nat} {α β : Type} {d : Kd α} {d2 : Kd β} {ok : α → Prop} {ok2 : β → Prop} (ho : f.offset = off) (hn : off + P.cellsOf f.type = off')
    (h : Opens P f.type d ok) (hr : OpensSeq P fs off' tot d2 ok2) : OpensSeq P (f :: fs) off tot (Kd.pair d d2) (fun x => ok x.1 ∧ ok2 x.2) := by
  intro H enc W base spare held fuel cs xs hl hx hc hw
  match xs, hl with
  | y :: ys, hl =>
    have h1 := hx 0 f rfl
    obtain ⟨a, ha, hoa⟩ := h enc W base spare held fuel _ y h1 (fun n hn => hw n (by simp only [List.map_cons, DataW.weightsEach, List.mem_append]; exact .inl hn))
    obtain ⟨b, hb, hob⟩ := hr enc W base spare held fuel cs ys (by simpa using hl) (fun i g hg => by simpa using hx (i + 1) g (by simpa using hg)) hc (fun n hn => hw n (by simp only [List.map_cons, DataW.weightsEach, List.mem_append]; exact .inr hn))
    refine ⟨(a, b), ⟨_, _, ?_, ha, hb⟩, hoa, hob⟩
    rw [ho, ← hn, ← List.drop_drop, List.take_append_drop]
theorem opens_struct {P : Program} {t : TypeId} {fs : Array Field} {l : List Field} {tot : Nat} {α : Type} {d : Kd α} {ok : α → Prop} (hu : P.underlying t = some (.struct fs)) (hfs : fs.toList = l) (hc : P.cellsOf t = tot) (h : OpensSeq P l 0 tot d ok) : Opens P t d ok := by
  intro H enc W base spare held fuel cs x hx hw
  obtain ⟨xs, n, rfl, rfl, hcl, hxl, hxs⟩ := DataW.trod_struct hu hx
  subst hfs
  obtain ⟨a, ha, hoa⟩ := h enc W base spare held n cs xs (by simpa using hxl) (fun i f hf => hxs i f (by simpa using hf)) (hcl.trans hc) (fun k hk => hw k (by simpa [DataW.weights, hu] using hk))
  exact ⟨a, by simpa using ha, hoa⟩
theorem opens_iso {P : Program} {t : TypeId} {α β : Type} {d : Kd α} {ok : α → Prop} (f : β → α) (g : α → β) (hfg : ∀ a, f (g a) = a) (h : Opens P t d ok) : Opens P t (d.iso f) (fun b => ok (f b)) := by
  intro H enc W base spare held fuel cs x hx hw
  obtain ⟨a, ha, hoa⟩ := h enc W base spare held fuel cs x hx hw
  exact ⟨g a, by show d.K W (f (g a)) cs; rw [hfg]; exact ha, by show ok (f (g a)); rw [hfg]; exact hoa⟩
theorem opens_mono {P : Program} {t : TypeId} {α : Type} {d : Kd α} {ok ok' : α → Prop} (h : Opens P t d ok) (hk : ∀ a, ok a → ok' a) : Opens P t d ok' := by
  intro H enc W base spare held fuel cs x hx hw
  obtain ⟨a, ha, hoa⟩ := h enc W base spare held fuel cs x hx hw
  exact ⟨a, ha, hk a hoa⟩
/-- An argument of a row. -/
theorem open_arg {H : Type} {enc : TypeId × Value → H} {P : Program} {W : World} {base : Nat} {spare : Nat → Bool} {held : Bool} {t : TypeId} {v : Value} {x : DataW H} {ps : List MemPlace} {α : Type} {d : Kd α} {ok : α → Prop} (ho : Opens P t d ok)
    {ts : List TypeId} {ds : List (DataW H)} (hsz : (DataW.weightsEach P ts ds).all (· ≤ reachBytes) = true) {j : Nat} (ht : ts[j]? = some t) (hd : ds[j]? = some x) (h : DataW.Trod enc P W base spare held t v x ps) : ∃ a : α, d.K W a v.cells.toList ∧ ok a := by
  obtain ⟨fuel, hf⟩ := h
  exact ho enc W base spare held fuel _ (x, ps) hf (fun n hn => by simpa using List.all_eq_true.1 hsz n (DataW.weights_mem_each ht hd n hn))
end Go.Proofs.YthihgiaflbaigaaW.PrintWords
