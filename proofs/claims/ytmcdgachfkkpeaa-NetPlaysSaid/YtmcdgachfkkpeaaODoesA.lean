/- tillerlaw16.does at any call. -/
import Derived.Test.YtmcdgachfkkpeaaODoes2
import Derived.Test.YtmcdgachfkkpeaaODoes5
import Derived.Test.YtmcdgachfkkpeaaODoes6
import Derived.Test.YtmcdgachfkkpeaaODoesL
import Derived.Test.YtmcdgachfkkpeaaODoesS
import Derived.Test.YtmcdgachfkkpeaaODoesT
set_option linter.unusedVariables false
set_option linter.unusedSimpArgs false
namespace Go.Proofs.Ytmcdgachfkkpeaa.OPlays
open Go.RowKit Go.Proofs.YtmcdgachfkkpeaaW.PrintWords Go.Proofs.YtmcdgachfkkpeaaW.PrintLast Go.Proofs.YtmcdgachfkkpeaaW.PrintMore Go.Proofs.Ytmcdgachfkkpeaa.GQ Go.Proofs.Ytmcdgachfkkpeaa.ONet
structure S52 where
  f0 : Int
  f1 : Int
  f2 : Int
  f3 : ByteArray
  f4 : Int
def k52 : Kd S52 := Kd.iso (Kd.pair (Kd.int .i64) (Kd.pair (Kd.int .i64) (Kd.pair (Kd.int .i64) (Kd.pair Kd.string (Kd.int .u32))))) (fun x : S52 => (x.f0, x.f1, x.f2, x.f3, x.f4))
abbrev AC := S52
abbrev kA := k52
def zA : AC := ⟨0, 0, 0, ⟨#[]⟩, 0⟩
theorem kA_open {w : World} {x : AC} {cs : List Value} (h : kA.K w x cs) : cs = [.int .i64 x.f0, .int .i64 x.f1, .int .i64 x.f2, .string x.f3, .int .u32 x.f4] := by
  obtain ⟨_, _, rfl, rfl, ⟨_, _, rfl, rfl, ⟨_, _, rfl, rfl, ⟨_, _, rfl, rfl, rfl⟩⟩⟩⟩ := h
  exact rfl
def act (l : List AC) (i : Nat) : AC := l.getD i zA
theorem act_mem (l : List AC) (i : Nat) (h : i < l.length) : act l i ∈ l := by
  unfold act
  rw [List.getD_eq_getElem?_getD, List.getElem?_eq_getElem h]
  exact List.getElem_mem h
theorem at_act {w : World} {A : Option Addr} {xs : List AC} (h : Kd.C kA w A xs.length xs) (i : Nat) (hi : i < xs.length) : ∃ ad , A = some ad ∧ w.cell? (ad.add (i * 5)) = some (.int .i64 (act xs i).f0) ∧ w.cell? ⟨(ad.add (i * 5)).block, (ad.add (i * 5)).off + 1, none⟩ = some (.int .i64 (act xs i).f1) ∧ w.cell? ⟨(ad.add (i * 5)).block, (ad.add (i * 5)).off + 2, none⟩ = some (.int .i64 (act xs i).f2) ∧ w.cell? ⟨(ad.add (i * 5)).block, (ad.add (i * 5)).off + 3, none⟩ = some (.string (act xs i).f3) ∧ w.cell? ⟨(ad.add (i * 5)).block, (ad.add (i * 5)).off + 4, none⟩ = some (.int .u32 (act xs i).f4) := by
  obtain ⟨ad, c, e, _, hK, hc0⟩ := Kd.C_get h zA (i : Int) (by omega) (by omega)
  have hc : ∀ j u, c[j]? = some u → w.cell? (ad.add (i * 5 + j)) = some u := fun j u hj => by have h1 := hc0 j u hj; rw [Int.toNat_natCast] at h1; exact h1
  obtain rfl := kA_open hK
  exact ⟨ad, e, hc 0 _ rfl, by rw [← add_field _ _ 1 (by omega)]; exact hc 1 _ rfl, by rw [← add_field _ _ 2 (by omega)]; exact hc 2 _ rfl, by rw [← add_field _ _ 3 (by omega)]; exact hc 3 _ rfl, by rw [← add_field _ _ 4 (by omega)]; exact hc 4 _ rfl⟩
/-- What a call makes of a net. -/
def nDoes (X : NX) (a : AC) : NX :=
  if a.f0 = 1 then (nSend X a.f1 (cut40 a.f3)).1
  else if a.f0 = 2 then (nTake X a.f1).1
  else if a.f0 = 3 then (nLose X a.f1).1
  else if a.f0 = 4 then (nMove X a.f1).1
  else if a.f0 = 5 then (nTurn X a.f1 a.f2 a.f4).1
  else if a.f0 = 6 then (nCut X a.f1).1
  else X
/-- What holds behind i calls. -/
def Inv (i : Nat) (X : NX) : Prop := 0 ≤ X.lost ∧ X.lost ≤ 300 * i ∧ ∀ p ∈ X.way, p.f1.size ≤ 40
theorem pcl_40 (l : List PC) (i : Int) (hf : ∀ p ∈ l, p.f1.size ≤ 40) : (pcl l i).f1.size ≤ 40 := by
  unfold pcl
  rw [List.getD_eq_getElem?_getD]
  rcases hx : l[i.toNat]? with _ | p
  · exact Nat.zero_le _
  · exact hf p (List.mem_of_getElem? hx)
theorem inv_step (i : Nat) (X : NX) (a : AC) (h : Inv i X) (hl : X.way.length ≤ 256) : Inv (i + 1) (nDoes X a) := by
  obtain ⟨h0, h1, h2⟩ := h
  have same : Inv (i + 1) X := ⟨h0, by omega, h2⟩
  unfold nDoes
  split
  · unfold nSend
    split
    · exact same
    · split
      · exact same
      · split
        · exact ⟨by show 0 ≤ X.lost + 1; omega, by show X.lost + 1 ≤ _; omega, h2⟩
        · refine ⟨h0, by show X.lost ≤ _; omega, fun p hp => ?_⟩
          rcases List.mem_append.mp hp with hp | hp
          · exact h2 p hp
          · rw [List.mem_singleton.mp hp]; exact cut40_size _
  split
  · unfold nTake
    split
    · exact same
    · exact ⟨h0, by show X.lost ≤ _; omega, fun p hp => h2 p (List.mem_of_mem_eraseIdx hp)⟩
  split
  · unfold nLose
    split
    · exact same
    · exact ⟨by show 0 ≤ X.lost + 1; omega, by show X.lost + 1 ≤ _; omega, fun p hp => h2 p (List.mem_of_mem_eraseIdx hp)⟩
  split
  · unfold nMove
    split
    · exact same
    · refine ⟨h0, by show X.lost ≤ _; omega, fun p hp => ?_⟩
      rcases List.mem_append.mp hp with hp | hp
      · exact h2 p (List.mem_of_mem_eraseIdx hp)
      · rw [List.mem_singleton.mp hp]; exact pcl_40 _ _ h2
  split
  · unfold nTurn
    split
    · exact same
    · split
      · exact same
      · split
        · exact same
        · refine ⟨h0, by show X.lost ≤ _; omega, fun p hp => ?_⟩
          rcases List.mem_or_eq_of_mem_set hp with hp | hp
          · exact h2 p hp
          · rw [hp]
            show (turned (pcl X.way a.f1).f1 a.f2 a.f4).size ≤ 40
            rw [Go.Proofs.Ytmcdgachfkkpeaa.OTurned.turned_size]
            exact pcl_40 _ _ h2
  split
  · unfold nCut
    have hle : (X.way.filter (keeps a.f1)).length ≤ X.way.length := List.length_filter_le _ _
    refine ⟨?_, ?_, fun p hp => h2 p (List.mem_filter.mp hp).1⟩
    · show 0 ≤ X.lost + ((X.way.length : Int) - ((X.way.filter (keeps a.f1)).length : Int)); omega
    · show X.lost + ((X.way.length : Int) - ((X.way.filter (keeps a.f1)).length : Int)) ≤ _; omega
  · exact same
theorem does_any (base : Nat) (S T : Nat → Prop) (g : Nat) (X : NX) (A : Option Addr) (c : Nat) (a : AC) (w : World) (hN : NetAt base (ap base T) w g X) (hR : Ref S w A c X.way) (hST : ∀ k, S k → T k) (hT : ∀ k, T k → k < w.heap.size) (hb : base ≤ w.heap.size) (i : Nat) (hi : i ≤ 60) (hI : Inv i X) (ha : -9223372036854775808 ≤ a.f2 ∧ a.f2 ≤ 9223372036854775807) (hB : 0 ≤ a.f4 ∧ a.f4 < 4294967296) :
    Calls Try.prog 17 #[.pointer (some ⟨g, 0, none⟩), .agg #[.slice A X.way.length c, .int .i64 X.lost], .agg #[.int .i64 a.f0, .int .i64 a.f1, .int .i64 a.f2, .string a.f3, .int .u32 a.f4]] w (DPost base S T w g (nDoes X a)) := by
  obtain ⟨K, I, At, F, B⟩ := a
  have hl : 0 ≤ X.lost ∧ X.lost ≤ 1000000000 := ⟨hI.1, by have := hI.2.1; omega⟩
  by_cases c1 : K = 1
  · subst c1
    exact does_send base S T g X A c I At F B w hN hR hST hT hb hl
  by_cases c2 : K = 2
  · subst c2
    exact does_take base S T g X A c I At F B w hN hR hST hT hb
  by_cases c3 : K = 3
  · subst c3
    exact does_lose base S T g X A c I At F B w hN hR hST hT hb hl
  by_cases c4 : K = 4
  · subst c4
    exact does_move base S T g X A c I At F B w hN hR hST hT hb
  by_cases c5 : K = 5
  · subst c5
    exact does_turn base S T g X A c I At F B w hN hR hST hT hb ha hB hI.2.2
  by_cases c6 : K = 6
  · subst c6
    exact does_cut base S T g X A c I At F B w hN hR hST hT hb hl
  have e : nDoes X ⟨K, I, At, F, B⟩ = X := by
    unfold nDoes
    rw [if_neg c1, if_neg c2, if_neg c3, if_neg c4, if_neg c5, if_neg c6]
  rw [e]
  exact does_other base S T g X A c K I At F B w hN hR hST hT hb ⟨c1, c2, c3, c4, c5, c6⟩
end Go.Proofs.Ytmcdgachfkkpeaa.OPlays
