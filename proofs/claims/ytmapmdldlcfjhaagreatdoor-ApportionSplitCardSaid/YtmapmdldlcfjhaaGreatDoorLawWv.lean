/-
  How raw arguments are read: rationals, lists of them, lists of items and of obligations, as the argument's type allows them.
-/
import Derived.Test.YtmapmdldlcfjhaaGreatDoorLawWb
namespace Go.Proofs.YtmapmdldlcfjhaaGreatDoor
open Go Go.RowKit Go.Sx Go.ChangeShapes Go.WideShapes

section
variable {H : Type} {enc0 : TypeId × Value → H} {P : Program} {w : World} {sp : Nat → Bool} {held : Bool}
/-- A slice whose elements can be read: as a list. -/
theorem open_sl {α : Type} {enc : α → List Value} {size : Nat} {G : α → Prop} {t e : TypeId} {fuel base : Nat} {cs : List Value} {x : DataW H × List MemPlace} (ht : P.underlying t = some (.slice e)) (hce : P.cellsOf e = size)
    (hel : ∀ (n : Nat) (cs : List Value) (y : DataW H × List MemPlace), DataW.trod enc0 P w base sp held n e cs = some y → ∃ a, cs = enc a ∧ G a)
    (h : DataW.trod enc0 P w base sp held fuel t cs = some x) : ∃ v L, cs = [v] ∧ Sl enc size w v L ∧ ∀ y ∈ L, G y := by
  rcases DataW.trod_slice ht h with ⟨h1, _⟩ | ⟨a, len, cap, elems, rest, n, _, h1, _, _, hlc, hm, hlen, hel2, _, _⟩
  · exact ⟨_, [], h1, Sl.nil _ _ _, fun x hx => by cases hx⟩
  · have each : ∀ i, i < len → ∃ y : α, G y ∧ ∀ j u, (enc y)[j]? = some u → w.cell? (a.add (i * size + j)) = some u := by
      intro i hi
      have h2 := hel2 i hi
      rw [hce, List.getElem?_eq_getElem (by omega : i < elems.length), Option.bind_eq_some_iff] at h2
      obtain ⟨cs2, hcs, htr⟩ := h2
      obtain ⟨_, hcl, hcell⟩ := World.cells?_some hcs
      obtain ⟨y, rfl, hG⟩ := hel _ _ _ htr
      refine ⟨y, hG, fun j u hj => ?_⟩
      have hjl : j < size := by
        rw [← hcl]
        exact (List.getElem?_eq_some_iff.1 hj).1
      rw [← hj, ← hcell j hjl, add_add]
    refine ⟨_, (List.range len).pmap (fun i hi => Classical.choose (each i hi)) (fun i hi => List.mem_range.1 hi), h1, ⟨⟨some a, cap, by simp, by simp; exact hlc, hm, fun q => by cases q⟩, fun i hi => ?_⟩, fun y hy => ?_⟩
    · have hil : i < len := by simpa using hi
      intro j u hu2
      rw [List.getElem_pmap] at hu2
      simp only [List.getElem_range] at hu2
      show w.cell? ((a.add (i * size)).add j) = _
      rw [add_add]
      exact (Classical.choose_spec (each i hil)).2 j u hu2
    · obtain ⟨i, hi, rfl⟩ := List.mem_pmap.1 hy
      exact (Classical.choose_spec (each i (List.mem_range.1 hi))).1
end
section
variable {H : Type} {enc0 : TypeId × Value → H} {w : World} {sp : Nat → Bool} {held : Bool}
theorem list3 {α : Type} {l : List α} (h : l.length = 3) : ∃ a b c, l = [a, b, c] := by
  match l, h with
  | [a, b, c], _ => exact ⟨a, b, c, rfl⟩
theorem cb_bool : Tryz.prog.cellsOf 4 = 1 := by kernel_rfl
theorem cb_string : Tryz.prog.cellsOf 9 = 1 := by kernel_rfl
theorem cb_int : Tryz.prog.cellsOf 3 = 1 := by kernel_rfl
theorem cb_rat : Tryz.prog.cellsOf 37 = 3 := by kernel_rfl
/-- How long a number's texts can be. -/
def rok (r : RR) : Prop := r.num.size ≤ maxLen ∧ r.den.size ≤ maxLen
theorem open_ratc {n base : Nat} {cs : List Value} {y : DataW H × List MemPlace} (h : DataW.trod enc0 Tryz.prog w base sp held n 37 cs = some y) : ∃ r : RR, cs = encR r ∧ rok r := by
  obtain ⟨xs, m, _, _, hl, hxl, hf⟩ := DataW.trod_struct Tryz.underlying37 h
  rw [cb_rat] at hl
  obtain ⟨u0, u1, u2, rfl⟩ := list3 hl
  have h3 : xs.length = 3 := hxl
  have h0 : DataW.trod enc0 Tryz.prog w base sp held m 4 (([u0, u1, u2].drop 0).take (Tryz.prog.cellsOf 4)) = xs[0]? := hf 0 _ rfl
  have h1 : DataW.trod enc0 Tryz.prog w base sp held m 9 (([u0, u1, u2].drop 1).take (Tryz.prog.cellsOf 9)) = xs[1]? := hf 1 _ rfl
  have h2 : DataW.trod enc0 Tryz.prog w base sp held m 9 (([u0, u1, u2].drop 2).take (Tryz.prog.cellsOf 9)) = xs[2]? := hf 2 _ rfl
  rw [cb_bool, List.getElem?_eq_getElem (by omega)] at h0
  rw [cb_string, List.getElem?_eq_getElem (by omega)] at h1 h2
  obtain ⟨b, e0, _⟩ := DataW.trod_bool Tryz.underlying4 h0
  obtain ⟨s, e1, _, hs⟩ := DataW.trod_string Tryz.underlying9 h1
  obtain ⟨d, e2, _, hd⟩ := DataW.trod_string Tryz.underlying9 h2
  obtain rfl : u0 = .bool b := (List.cons.inj e0).1
  obtain rfl : u1 = .string s := (List.cons.inj e1).1
  obtain rfl : u2 = .string d := (List.cons.inj e2).1
  exact ⟨⟨b, s, d⟩, rfl, hs, hd⟩
/-- An argument of type []api.Rat. -/
theorem open_rats {v : Value} {d : DataW H} {ps : List MemPlace} (hval : ∃ a n c, v = .slice a n c) (h : DataW.Trod enc0 Tryz.prog w 0 (fun _ => true) true 22 v d ps) : ∃ L : List RR, Sl encR 3 w v L ∧ ∀ r ∈ L, rok r := by
  obtain ⟨a, n, c, rfl⟩ := hval
  obtain ⟨fuel, hf⟩ := h
  obtain ⟨v, L, e, hS, hG⟩ := open_sl (enc := encR) (G := rok) Tryz.underlying22 cb_rat (fun _ _ _ h => open_ratc h) hf
  simp only [Value.cells, List.cons.injEq, and_true] at e
  rw [e]
  exact ⟨L, hS, hG⟩
end
end Go.Proofs.YtmapmdldlcfjhaaGreatDoor
