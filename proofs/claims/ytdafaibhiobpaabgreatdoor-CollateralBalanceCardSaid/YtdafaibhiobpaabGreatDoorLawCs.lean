/-
  The law of what charges receive in all: its walk.
-/
import Derived.Test.YtdafaibhiobpaabGreatDoorLawCr
namespace Go.Proofs.YtdafaibhiobpaabGreatDoor
open Go Go.RowKit Go.Sx

theorem kapS_lim (cs : List Ch) (ow : Nat → Rat) (J : List Nat) (k : Nat) (hk : k ≤ J.length) : ∀ i ∈ J.take k, (gC cs i).lim = true → (kapS cs ow (J.take k)).cap i ≤ toQ (gC cs i).limit := by
  induction k with
  | zero => intro i hi; rw [List.take_zero] at hi; cases hi
  | succ k ih =>
    have ih := ih (by omega)
    have hlt : k < J.length := by omega
    have htk := take_succ' J k 0 hlt
    obtain ⟨i, hi⟩ : ∃ i, i = J.getD k 0 := ⟨_, rfl⟩
    rw [← hi] at htk
    rw [htk, kapS_snoc]
    intro j hj hl
    show (if j = i then roomQ (gC cs i) ((kapS cs ow (J.take k)).op (clm cs i)) else (kapS cs ow (J.take k)).cap j) ≤ _
    by_cases e : j = i
    · subst e
      rw [if_pos rfl]
      unfold roomQ minQ
      rw [if_pos hl]
      split
      · assumption
      · exact Rat.le_refl
    · rw [if_neg e]
      refine ih j ?_ hl
      rcases List.mem_append.1 hj with h | h
      · exact h
      · exact absurd (List.mem_singleton.1 h) e
theorem kap_lim (cs : List Ch) (ow : Nat → Rat) {i : Nat} (hi : i < cs.length) (hl : (gC cs i).lim = true) : kapQ cs ow i ≤ toQ (gC cs i).limit := by
  have h := kapS_lim cs ow (ordC cs) (ordC cs).length (Nat.le_refl _)
  rw [List.take_of_length_le (Nat.le_refl _)] at h
  exact h i (ordC_mem.2 hi) hl
theorem check_one {X : List It} {owed : List RR} {x : It} (h : checkE X owed = 0) (hx : x ∈ X) : checkE [x] owed = 0 := by
  obtain ⟨h1, h2, h3, h4, h5⟩ := checkE_zero h
  unfold checkE
  rw [if_neg (by simp; omega), if_neg (by rw [h3]; decide)]
  exact firstE_none fun y hy => by rw [List.mem_singleton.1 hy]; exact h4 x hx
theorem B_one {k : Nat} {X : List It} {x : It} (h : ItB k X) (hx : x ∈ X) : ItB k [x] := fun y hy => by rw [List.mem_singleton.1 hy]; exact h x hx
theorem sumL_le {l : List RR} {B : Nat} (h : ∀ r ∈ l, Lr r ≤ B) : sumL l ≤ l.length * (B + 1) := by
  induction l with
  | nil => exact Nat.zero_le _
  | cons r l ih =>
    have h1 := h r List.mem_cons_self
    have h2 := ih fun x hx => h x (List.mem_cons_of_mem _ hx)
    simp only [sumL, List.length_cons, Nat.add_mul]
    omega
theorem sum_tab (n : Nat) (f : Nat → Rat) : sumQ ((tab n fun i => ofQ (f i)).map toQ) = totS f (List.range n) := by
  unfold tab totS
  rw [List.map_map]
  congr 1
  exact List.map_congr_left fun i _ => toQ_ofQ _
end Go.Proofs.YtdafaibhiobpaabGreatDoor
