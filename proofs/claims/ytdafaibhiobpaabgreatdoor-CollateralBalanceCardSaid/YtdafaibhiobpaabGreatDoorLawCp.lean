/-
  Plain facts on what charges receive.
-/
import Derived.Test.YtdafaibhiobpaabGreatDoorLawCg
namespace Go.Proofs.YtdafaibhiobpaabGreatDoor
open Go Go.RowKit Go.Sx

section
variable {cs : List Ch} {ow : Nat → Rat} {m K : Nat}
theorem filt_len (cs : List Ch) (p : Nat → Bool) (h : cs.length ≤ 8) : ((ordC cs).filter p).length ≤ 8 := by
  have h1 := List.length_filter_le p (ordC cs)
  rw [ordC_len] at h1
  omega
theorem sh_L (h : ChOk cs ow m K) {P : Rat} (hP : L P ≤ 2 * K + 1) (i : Nat) : L (shQ cs (kapQ cs ow) P i) ≤ 160 * K + 180 := by
  have h1 := (kap_bound h i).2
  have h2 := mon_L h hP (J := (ordC cs).filter fun j => decide (pr cs j < pr cs i)) (filt_len cs _ h.n8)
  have h3 := L_totS (q := kapQ cs ow) (J := (ordC cs).filter fun j => decide (pr cs j = pr cs i)) (K := 9 * K + 9) fun i _ => (kap_bound h i).2
  have h4 : ((ordC cs).filter fun j => decide (pr cs j = pr cs i)).length * (9 * K + 9 + 1) ≤ 8 * (9 * K + 9 + 1) := Nat.mul_le_mul_right _ (filt_len cs _ h.n8)
  have h5 := L_mul (kapQ cs ow i) (quoQ (monQ cs (kapQ cs ow) P (pr cs i)) (samQ cs (kapQ cs ow) (pr cs i)))
  have h6 := quo_L (m := monQ cs (kapQ cs ow) P (pr cs i)) (s := samQ cs (kapQ cs ow) (pr cs i)) (A := 75 * K + 85) (B := 72 * K + 81) h2 (by unfold samQ; omega)
  unfold shQ
  omega
theorem lef_L (h : ChOk cs ow m K) {P : Rat} (hP : L P ≤ 2 * K + 1) : L (lefQ cs (kapQ cs ow) P) ≤ 75 * K + 85 := mon_L h hP (by rw [ordC_len]; exact h.n8)
theorem mon_nonneg (cs : List Ch) (kp : Nat → Rat) (P : Rat) (p : Int) : 0 ≤ monQ cs kp P p := by
  unfold monQ maxQ; split <;> grind
theorem sam_nonneg {kp : Nat → Rat} (h : ∀ i, 0 ≤ kp i) (cs : List Ch) (p : Int) : 0 ≤ samQ cs kp p := totS_nonneg fun i _ => h i
theorem quo_nonneg {m s : Rat} (hm : 0 ≤ m) : 0 ≤ quoQ m s := by
  unfold quoQ
  split
  · next h =>
    have hs : 0 < s := by grind
    rw [Rat.div_def]
    exact Rat.mul_nonneg hm (Rat.le_of_lt (Rat.inv_pos.2 hs))
  · grind
theorem div_le {a b s : Rat} (hs : 0 < s) (h : a ≤ b) : a / s ≤ b / s := by
  rw [Rat.div_def, Rat.div_def]
  exact Rat.mul_le_mul_of_nonneg_right h (Rat.le_of_lt (Rat.inv_pos.2 hs))
theorem quo_le_one {m s : Rat} (hm : 0 ≤ m) : quoQ m s ≤ 1 := by
  unfold quoQ
  split
  · next h =>
    have hs : 0 < s := by grind
    have h1 := div_le hs (Rat.le_of_lt h)
    have h2 : s / s = 1 := by rw [Rat.div_def]; exact Rat.mul_inv_cancel _ (by grind)
    rw [h2] at h1
    exact h1
  · exact Rat.le_refl
theorem quo_mono {m m' s : Rat} (hm : 0 ≤ m) (h : m ≤ m') : quoQ m s ≤ quoQ m' s := by
  by_cases h1 : m' < s
  · have h2 : m < s := by grind
    have hs : 0 < s := by grind
    unfold quoQ
    rw [if_pos h1, if_pos h2]
    exact div_le hs h
  · have e : quoQ m' s = 1 := if_neg h1
    rw [e]
    exact quo_le_one hm
theorem mon_mono {P P' : Rat} (h : P ≤ P') (kp : Nat → Rat) (p : Int) : monQ cs kp P p ≤ monQ cs kp P' p := by
  unfold monQ maxQ
  split <;> split <;> grind
/-- More proceeds never lower what a charge receives. -/
theorem sh_mono {kp : Nat → Rat} (hk : ∀ i, 0 ≤ kp i) {P P' : Rat} (h : P ≤ P') (i : Nat) : shQ cs kp P i ≤ shQ cs kp P' i := by
  unfold shQ
  exact Rat.mul_le_mul_of_nonneg_left (quo_mono (mon_nonneg _ _ _ _) (mon_mono h kp _)) (hk i)
theorem sh_nonneg {kp : Nat → Rat} (hk : ∀ i, 0 ≤ kp i) (P : Rat) (i : Nat) : 0 ≤ shQ cs kp P i := Rat.mul_nonneg (hk i) (quo_nonneg (mon_nonneg _ _ _ _))
theorem sh_le {kp : Nat → Rat} (hk : ∀ i, 0 ≤ kp i) (P : Rat) (i : Nat) : shQ cs kp P i ≤ kp i := by
  have h1 := Rat.mul_le_mul_of_nonneg_left (quo_le_one (s := samQ cs kp (pr cs i)) (mon_nonneg cs kp P (pr cs i))) (hk i)
  rw [Rat.mul_one] at h1
  exact h1
end
end Go.Proofs.YtdafaibhiobpaabGreatDoor
