/- Rows of numbers in order, and lists of rows with values: plain. -/
set_option linter.unusedVariables false
set_option linter.unusedSimpArgs false
namespace Go.Proofs.Ythihgiaflbaigaa.UTrie
abbrev Row := List Int
/-- Does a row come ahead of another one? -/
def lt : Row → Row → Bool
  | [], [] => false
  | [], _ :: _ => true
  | _ :: _, [] => false
  | a :: s, b :: t => decide (a < b) || (decide (a = b) && lt s t)
theorem lt_cons {a b : Int} {s t : Row} : lt (a :: s) (b :: t) = true ↔ a < b ∨ (a = b ∧ lt s t = true) := by
  simp [lt]
theorem lt_irrefl : ∀ a : Row, lt a a = false
  | [] => rfl
  | a :: s => by simp [lt, lt_irrefl s]
theorem lt_trans : ∀ {a b c : Row}, lt a b = true → lt b c = true → lt a c = true
  | [], [], _, h, _ => by simp [lt] at h
  | [], _ :: _, [], _, h => by simp [lt] at h
  | [], _ :: _, _ :: _, _, _ => rfl
  | _ :: _, [], _, h, _ => by simp [lt] at h
  | _ :: _, _ :: _, [], _, h => by simp [lt] at h
  | a :: s, b :: t, c :: u, h, k => by
    rw [lt_cons] at h k ⊢
    rcases h with h | ⟨rfl, h⟩
    · rcases k with k | ⟨rfl, k⟩
      · exact .inl (by omega)
      · exact .inl h
    · rcases k with k | ⟨rfl, k⟩
      · exact .inl k
      · exact .inr ⟨rfl, lt_trans h k⟩
theorem lt_total : ∀ {a b : Row}, a ≠ b → lt a b = true ∨ lt b a = true
  | [], [], h => absurd rfl h
  | [], _ :: _, _ => .inl rfl
  | _ :: _, [], _ => .inr rfl
  | a :: s, b :: t, h => by
    by_cases e : a = b
    · subst e
      have := lt_total (a := s) (b := t) (fun e => h (by rw [e]))
      rcases this with h | h
      · exact .inl (lt_cons.2 (.inr ⟨rfl, h⟩))
      · exact .inr (lt_cons.2 (.inr ⟨rfl, h⟩))
    · by_cases l : a < b
      · exact .inl (lt_cons.2 (.inl l))
      · exact .inr (lt_cons.2 (.inl (by omega)))
theorem lt_asymm {a b : Row} (h : lt a b = true) : lt b a = false := by
  cases k : lt b a with
  | false => rfl
  | true => have := lt_trans h k; rw [lt_irrefl] at this; cases this
theorem lt_front : ∀ (p : Row) (x : Int) (s : Row), lt p (p ++ x :: s) = true
  | [], _, _ => rfl
  | a :: p, x, s => by rw [List.cons_append]; exact lt_cons.2 (.inr ⟨rfl, lt_front p x s⟩)
theorem lt_apart : ∀ (p : Row) {x y : Int} (s t : Row), x < y → lt (p ++ x :: s) (p ++ y :: t) = true
  | [], _, _, _, _, h => lt_cons.2 (.inl h)
  | a :: p, _, _, s, t, h => by rw [List.cons_append, List.cons_append]; exact lt_cons.2 (.inr ⟨rfl, lt_apart p s t h⟩)
abbrev Ent := Row × Int
def Sorted (l : List Ent) : Prop := l.Pairwise (fun x y => lt x.1 y.1 = true)
theorem sorted_ext : ∀ {l m : List Ent}, Sorted l → Sorted m → (∀ e, e ∈ l ↔ e ∈ m) → l = m
  | [], [], _, _, _ => rfl
  | [], e :: m, _, _, h => absurd ((h e).2 List.mem_cons_self) (by simp)
  | e :: l, [], _, _, h => absurd ((h e).1 List.mem_cons_self) (by simp)
  | e :: l, f :: m, hl, hm, h => by
    obtain ⟨h1, h2⟩ := List.pairwise_cons.1 hl
    obtain ⟨k1, k2⟩ := List.pairwise_cons.1 hm
    have ef : e = f := by
      rcases List.mem_cons.1 ((h e).1 List.mem_cons_self) with r | r
      · exact r
      · rcases List.mem_cons.1 ((h f).2 List.mem_cons_self) with q | q
        · exact q.symm
        · have a := lt_trans (h1 f q) (k1 e r)
          rw [lt_irrefl] at a
          cases a
    subst ef
    congr 1
    refine sorted_ext h2 k2 (fun g => ⟨fun hg => ?_, fun hg => ?_⟩)
    · rcases List.mem_cons.1 ((h g).1 (List.mem_cons_of_mem _ hg)) with r | r
      · have := h1 g hg
        rw [r, lt_irrefl] at this
        cases this
      · exact r
    · rcases List.mem_cons.1 ((h g).2 (List.mem_cons_of_mem _ hg)) with r | r
      · have := k1 g hg
        rw [r, lt_irrefl] at this
        cases this
      · exact r
/-- The rows that begin with a row. -/
def sub (p : Row) (l : List Ent) : List Ent := l.filter (fun e => p.isPrefixOf e.1)
theorem mem_sub {p : Row} {l : List Ent} {e : Ent} : e ∈ sub p l ↔ e ∈ l ∧ ∃ s, e.1 = p ++ s := by
  unfold sub
  rw [List.mem_filter, List.isPrefixOf_iff_prefix]
  constructor
  · rintro ⟨h, s, hs⟩; exact ⟨h, s, hs.symm⟩
  · rintro ⟨h, s, hs⟩; exact ⟨h, s, hs.symm⟩
theorem sub_nil (l : List Ent) : sub [] l = l := by
  unfold sub
  exact List.filter_eq_self.2 (fun e _ => by simp)
theorem sub_sorted {l : List Ent} (h : Sorted l) (p : Row) : Sorted (sub p l) := List.Pairwise.filter _ h
/-- What a function from rows to values has, as a list in order. -/
def Rep (l : List Ent) (val : Row → Option Int) : Prop := Sorted l ∧ ∀ p v, (p, v) ∈ l ↔ val p = some v
def own (val : Row → Option Int) (p : Row) : List Ent := match val p with | some v => [(p, v)] | none => []
theorem mem_own {val : Row → Option Int} {p : Row} {e : Ent} : e ∈ own val p ↔ e.1 = p ∧ val p = some e.2 := by
  unfold own
  cases h : val p with
  | none => simp
  | some v =>
    rw [List.mem_singleton]
    constructor
    · rintro rfl; exact ⟨rfl, rfl⟩
    · rintro ⟨h1, h2⟩
      obtain ⟨a, b⟩ := e
      simp at h1 h2
      rw [h1, h2]
theorem own_sorted (val : Row → Option Int) (p : Row) : Sorted (own val p) := by
  unfold own Sorted
  cases val p <;> simp
theorem flat_sorted {l : List Ent} (hl : Sorted l) (p : Row) : ∀ (keys : List Int), keys.Pairwise (· < ·) → Sorted (keys.flatMap (fun x => sub (p ++ [x]) l))
  | [], _ => List.Pairwise.nil
  | x :: keys, h => by
    obtain ⟨h1, h2⟩ := List.pairwise_cons.1 h
    rw [List.flatMap_cons]
    refine List.pairwise_append.2 ⟨sub_sorted hl _, flat_sorted hl p keys h2, fun a ha b hb => ?_⟩
    obtain ⟨y, hy, hb⟩ := List.mem_flatMap.1 hb
    obtain ⟨_, s, hs⟩ := mem_sub.1 ha
    obtain ⟨_, t, ht⟩ := mem_sub.1 hb
    rw [hs, ht, List.append_assoc, List.append_assoc, List.singleton_append, List.singleton_append]
    exact lt_apart p s t (h1 y hy)
/-- What lies below a row: its own value, then what lies below each one that goes on. -/
theorem sub_walk {l : List Ent} {val : Row → Option Int} (hr : Rep l val) (p : Row) (keys : List Int) (hk : keys.Pairwise (· < ·)) (hin : ∀ x s v, val (p ++ x :: s) = some v → x ∈ keys) :
    sub p l = own val p ++ keys.flatMap (fun x => sub (p ++ [x]) l) := by
  have hl := hr.1
  refine sorted_ext (sub_sorted hl p) (List.pairwise_append.2 ⟨own_sorted _ _, flat_sorted hl p keys hk, fun a ha b hb => ?_⟩) (fun e => ?_)
  · obtain ⟨y, hy, hb⟩ := List.mem_flatMap.1 hb
    obtain ⟨_, t, ht⟩ := mem_sub.1 hb
    obtain ⟨h1, _⟩ := mem_own.1 ha
    rw [h1, ht, List.append_assoc, List.singleton_append]
    exact lt_front p y t
  · rw [mem_sub, List.mem_append, mem_own, List.mem_flatMap]
    constructor
    · rintro ⟨he, s, hs⟩
      have hv := (hr.2 e.1 e.2).1 he
      cases s with
      | nil => exact .inl ⟨by rw [hs, List.append_nil], by rw [hs, List.append_nil] at hv; exact hv⟩
      | cons x s =>
        rw [hs] at hv
        exact .inr ⟨x, hin x s _ hv, mem_sub.2 ⟨he, s, by rw [hs, List.append_assoc, List.singleton_append]⟩⟩
    · rintro (⟨h1, h2⟩ | ⟨x, hx, h⟩)
      · refine ⟨(hr.2 e.1 e.2).2 (by rw [h1]; exact h2), [], by rw [h1, List.append_nil]⟩
      · obtain ⟨he, s, hs⟩ := mem_sub.1 h
        exact ⟨he, x :: s, by rw [hs, List.append_assoc, List.singleton_append]⟩
theorem rep_uniq {l m : List Ent} {val : Row → Option Int} (hl : Rep l val) (hm : Rep m val) : l = m :=
  sorted_ext hl.1 hm.1 (fun e => by rw [show e = (e.1, e.2) from rfl, hl.2, hm.2])
def upd (val : Row → Option Int) (p : Row) (v : Option Int) : Row → Option Int := fun q => if q = p then v else val q
theorem upd_same (val : Row → Option Int) (p : Row) (v : Option Int) : upd val p v p = v := if_pos rfl
theorem upd_ne {val : Row → Option Int} {p q : Row} (h : q ≠ p) (v : Option Int) : upd val p v q = val q := if_neg h
/-- A row put in its place. -/
def ins (p : Row) (v : Int) : List Ent → List Ent
  | [] => [(p, v)]
  | e :: r => if lt p e.1 = true then (p, v) :: e :: r else e :: ins p v r
theorem mem_ins {p : Row} {v : Int} {e : Ent} : ∀ {l : List Ent}, e ∈ ins p v l ↔ e = (p, v) ∨ e ∈ l
  | [] => by simp [ins]
  | f :: r => by
    unfold ins
    split
    · simp
    · rw [List.mem_cons, mem_ins (l := r), List.mem_cons]
      constructor
      · rintro (h | h | h)
        · exact .inr (.inl h)
        · exact .inl h
        · exact .inr (.inr h)
      · rintro (h | h | h)
        · exact .inr (.inl h)
        · exact .inl h
        · exact .inr (.inr h)
theorem ins_sorted {p : Row} {v : Int} : ∀ {l : List Ent}, Sorted l → (∀ e ∈ l, e.1 ≠ p) → Sorted (ins p v l)
  | [], _, _ => by simp [ins, Sorted]
  | f :: r, h, hn => by
    obtain ⟨h1, h2⟩ := List.pairwise_cons.1 h
    unfold ins
    split
    · rename_i hlt
      refine List.pairwise_cons.2 ⟨fun e he => ?_, h⟩
      rcases List.mem_cons.1 he with rfl | he
      · exact hlt
      · exact lt_trans hlt (h1 e he)
    · rename_i hlt
      refine List.pairwise_cons.2 ⟨fun e he => ?_, ins_sorted h2 (fun e he => hn e (List.mem_cons_of_mem _ he))⟩
      rcases mem_ins.1 he with rfl | he
      · rcases lt_total (hn f List.mem_cons_self) with k | k
        · exact k
        · exact absurd k hlt
      · exact h1 e he
theorem ins_length (p : Row) (v : Int) : ∀ l : List Ent, (ins p v l).length = l.length + 1
  | [] => rfl
  | e :: r => by
    unfold ins
    split
    · rfl
    · rw [List.length_cons, ins_length p v r, List.length_cons]
theorem rep_none {l : List Ent} {val : Row → Option Int} (h : Rep l val) {p : Row} : val p = none ↔ ∀ e ∈ l, e.1 ≠ p := by
  constructor
  · rintro hn e he rfl
    have := (h.2 e.1 e.2).1 he
    rw [hn] at this
    cases this
  · intro hn
    cases hv : val p with
    | none => rfl
    | some v => exact absurd rfl (hn (p, v) ((h.2 p v).2 hv))
theorem rep_ins {l : List Ent} {val : Row → Option Int} (h : Rep l val) {p : Row} (hn : val p = none) (v : Int) : Rep (ins p v l) (upd val p (some v)) := by
  have hn' := (rep_none h).1 hn
  refine ⟨ins_sorted h.1 hn', fun q u => ?_⟩
  rw [mem_ins]
  by_cases e : q = p
  · subst e
    rw [upd_same]
    constructor
    · rintro (k | k)
      · simp at k; rw [k]
      · exact absurd rfl (hn' _ k)
    · intro k
      simp at k
      exact .inl (by rw [k])
  · rw [upd_ne e, ← h.2]
    constructor
    · rintro (k | k)
      · simp at k; exact absurd k.1 e
      · exact k
    · exact .inr
/-- A row's value written over. -/
def wr (p : Row) (v : Int) (l : List Ent) : List Ent := l.map (fun e => if e.1 = p then (p, v) else e)
theorem wr_fst (p : Row) (v : Int) (e : Ent) : (if e.1 = p then ((p, v) : Ent) else e).1 = e.1 := by
  split
  · rename_i h; exact h.symm
  · rfl
theorem rep_wr {l : List Ent} {val : Row → Option Int} (h : Rep l val) {p : Row} {u : Int} (hn : val p = some u) (v : Int) : Rep (wr p v l) (upd val p (some v)) := by
  refine ⟨List.Pairwise.map _ (fun a b hab => ?_) h.1, fun q w => ?_⟩
  · rw [wr_fst, wr_fst]; exact hab
  · unfold wr
    rw [List.mem_map]
    by_cases e : q = p
    · subst e
      rw [upd_same]
      constructor
      · rintro ⟨a, ha, hq⟩
        by_cases k : a.1 = q
        · rw [if_pos k] at hq; simp at hq; rw [hq]
        · rw [if_neg k] at hq; rw [hq] at k; exact absurd rfl k
      · intro k
        simp at k
        exact ⟨(q, u), (h.2 _ _).2 hn, by rw [if_pos rfl, k]⟩
    · rw [upd_ne e, ← h.2]
      constructor
      · rintro ⟨a, ha, hq⟩
        by_cases k : a.1 = p
        · rw [if_pos k] at hq; simp at hq; exact absurd hq.1.symm e
        · rw [if_neg k] at hq; rw [← hq]; exact ha
      · intro k
        exact ⟨(q, w), k, by rw [if_neg e]⟩
/-- A row is gone. -/
def del (p : Row) (l : List Ent) : List Ent := l.filter (fun e => !decide (e.1 = p))
theorem rep_del {l : List Ent} {val : Row → Option Int} (h : Rep l val) (p : Row) : Rep (del p l) (upd val p none) := by
  refine ⟨List.Pairwise.filter _ h.1, fun q u => ?_⟩
  unfold del
  rw [List.mem_filter, h.2]
  by_cases e : q = p
  · subst e
    simp [upd_same]
  · rw [upd_ne e]
    simp [e]
theorem sorted_fst_inj : ∀ {l : List Ent}, Sorted l → ∀ {a b : Ent}, a ∈ l → b ∈ l → a.1 = b.1 → a = b
  | [], _, _, _, ha, _, _ => by cases ha
  | f :: r, h, a, b, ha, hb, e => by
    obtain ⟨h1, h2⟩ := List.pairwise_cons.1 h
    rcases List.mem_cons.1 ha with p | p
    · rcases List.mem_cons.1 hb with q | q
      · rw [p, q]
      · have := h1 b q
        rw [← p, e, lt_irrefl] at this
        cases this
    · rcases List.mem_cons.1 hb with q | q
      · have := h1 a p
        rw [← q, e, lt_irrefl] at this
        cases this
      · exact sorted_fst_inj h2 p q e
theorem del_length {l : List Ent} (h : Sorted l) {p : Row} {v : Int} (hm : (p, v) ∈ l) : (del p l).length + 1 = l.length := by
  induction l with
  | nil => cases hm
  | cons f r ih =>
    obtain ⟨h1, h2⟩ := List.pairwise_cons.1 h
    unfold del at ih ⊢
    rw [List.filter_cons]
    rcases List.mem_cons.1 hm with rfl | hm
    · rw [if_neg (by simp), List.filter_eq_self.2 (fun e he => by
        have := h1 e he
        have hne : e.1 ≠ p := fun k => by rw [k, lt_irrefl] at this; cases this
        simp [hne])]
      rfl
    · have := h1 _ hm
      have hne : f.1 ≠ p := fun k => by rw [k, lt_irrefl] at this; cases this
      rw [if_pos (by simp [hne]), List.length_cons, ih h2 hm, List.length_cons]
/-- The rows that have a value are gone. -/
def delV (v : Int) (l : List Ent) : List Ent := l.filter (fun e => !decide (e.2 = v))
def updV (val : Row → Option Int) (v : Int) : Row → Option Int := fun q => if val q = some v then none else val q
theorem rep_delV {l : List Ent} {val : Row → Option Int} (h : Rep l val) (v : Int) : Rep (delV v l) (updV val v) := by
  refine ⟨List.Pairwise.filter _ h.1, fun q u => ?_⟩
  unfold delV updV
  rw [List.mem_filter, h.2]
  by_cases e : val q = some v
  · rw [if_pos e, e]; simp; intro k; exact k.symm
  · rw [if_neg e]
    constructor
    · exact fun k => k.1
    · intro k
      refine ⟨k, ?_⟩
      have : u ≠ v := fun x => e (by rw [k, x])
      simp [this]
/-- The longest row that has a value and begins another one: its length, and its value; beyond a length n. -/
def long (val : Row → Option Int) (t : Row) : Nat → Nat × Int
  | 0 => (0, 0)
  | n + 1 => match val (t.take (n + 1)) with
    | some v => (n + 1, v)
    | none => long val t n
end Go.Proofs.Ythihgiaflbaigaa.UTrie
