/-
  Part 5 of the texts that the law's proof is made of: the framework and the walks.
-/
import Derived.Test.YtblfipdfklpmmaaDoorPo4
namespace Go.Sx
def pvF (A : Mx) (c : Nat) : Nat → Nat → Nat
  | 0, i => i
  | k + 1, i => if A i c = 0 then pvF A c k (i + 1) else i
def pv (A : Mx) (c n r : Nat) : Nat := pvF A c (n - r) r
theorem pvF_spec (A : Mx) (c : Nat) : ∀ k i, i ≤ pvF A c k i ∧ pvF A c k i ≤ i + k ∧ (∀ l, i ≤ l → l < pvF A c k i → A l c = 0) ∧ (pvF A c k i < i + k → A (pvF A c k i) c ≠ 0)
  | 0, i => ⟨Nat.le_refl _, Nat.le_refl _, fun l h1 h2 => absurd (Nat.lt_of_le_of_lt h1 h2) (Nat.lt_irrefl _), fun h => absurd h (Nat.lt_irrefl _)⟩
  | k + 1, i => by
    unfold pvF
    by_cases h : A i c = 0
    · rw [if_pos h]
      obtain ⟨h1, h2, h3, h4⟩ := pvF_spec A c k (i + 1)
      refine ⟨by omega, by omega, fun l g1 g2 => ?_, fun g => h4 (by omega)⟩
      by_cases e : l = i
      · rw [e]; exact h
      · exact h3 l (by omega) g2
    · rw [if_neg h]
      exact ⟨Nat.le_refl _, by omega, fun l g1 g2 => absurd (Nat.lt_of_le_of_lt g1 g2) (Nat.lt_irrefl _), fun _ => h⟩
theorem pv_spec (A : Mx) (c : Nat) {n r : Nat} (h : r ≤ n) : r ≤ pv A c n r ∧ pv A c n r ≤ n ∧ (∀ l, r ≤ l → l < pv A c n r → A l c = 0) ∧ (pv A c n r < n → A (pv A c n r) c ≠ 0) := by
  obtain ⟨h1, h2, h3, h4⟩ := pvF_spec A c (n - r) r
  exact ⟨h1, by unfold pv; omega, h3, fun g => h4 (by unfold pv at g; omega)⟩
theorem pv_uniq {A : Mx} {c n r p : Nat} (h : r ≤ p) (hp : p ≤ n) (hz : ∀ l, r ≤ l → l < p → A l c = 0) (hn : p < n → A p c ≠ 0) : pv A c n r = p := by
  obtain ⟨h1, h2, h3, h4⟩ := pv_spec A c (n := n) (r := r) (by omega)
  rcases Nat.lt_trichotomy (pv A c n r) p with g | g | g
  · exact absurd (hz _ h1 g) (h4 (by omega))
  · exact g
  · exact absurd (h3 _ h g) (hn (by omega))
theorem pv_congr {A B : Mx} {c n r : Nat} (hr : r ≤ n) (h : ∀ i, r ≤ i → i < n → (A i c = 0 ↔ B i c = 0)) : pv A c n r = pv B c n r := by
  obtain ⟨h1, h2, h3, h4⟩ := pv_spec B c (n := n) (r := r) hr
  exact pv_uniq h1 h2 (fun l g1 g2 => (h l g1 (by omega)).2 (h3 l g1 g2)) fun g e => h4 g ((h _ h1 g).1 e)
structure Rd where
  M : Mx
  P : List Nat
  d : Rat
def rstp (n c : Nat) (s : Rd) : Rd :=
  if pv s.M c n s.P.length < n then
    ⟨elim (swpR s.M s.P.length (pv s.M c n s.P.length)) s.P.length (s.M (pv s.M c n s.P.length) c) fun i => swpR s.M s.P.length (pv s.M c n s.P.length) i c, s.P ++ [c],
      (if pv s.M c n s.P.length = s.P.length then s.d else -s.d) * s.M (pv s.M c n s.P.length) c⟩
  else s
def rdc (n : Nat) (A : Mx) : Nat → Rd
  | 0 => ⟨A, [], 1⟩
  | c + 1 => rstp n c (rdc n A c)
theorem swpR_at (A : Mx) (p q j : Nat) : swpR A p q p j = A q j := if_pos rfl
theorem swpR_at2 (A : Mx) (p q j : Nat) : swpR A p q q j = A p j := by
  unfold swpR
  by_cases h : q = p
  · rw [if_pos h, h]
  · rw [if_neg h, if_pos rfl]
theorem swpR_ne (A : Mx) {p q i : Nat} (h1 : i ≠ p) (h2 : i ≠ q) (j : Nat) : swpR A p q i j = A i j := by unfold swpR; rw [if_neg h1, if_neg h2]
theorem swpR_self (A : Mx) (p : Nat) : swpR A p p = A := by
  funext i j
  unfold swpR
  by_cases h : i = p
  · rw [if_pos h, h]
  · rw [if_neg h, if_neg h]
theorem elim_at (A : Mx) (r : Nat) (a : Rat) (f : Nat → Rat) (j : Nat) : elim A r a f r j = A r j / a := if_pos rfl
theorem elim_ne (A : Mx) {r i : Nat} {a : Rat} {f : Nat → Rat} (h : i ≠ r) (j : Nat) : elim A r a f i j = A i j - f i * (A r j / a) := if_neg h
structure RInv (n c : Nat) (s : Rd) : Prop where
  len : s.P.length ≤ n
  inc : s.P.Pairwise (· < ·)
  lt : ∀ p ∈ s.P, p < c
  unit : ∀ l, l < s.P.length → ∀ i, i < n → s.M i (s.P.getD l 0) = dlt i l
  low : ∀ i, s.P.length ≤ i → i < n → ∀ j, j < c → s.M i j = 0
theorem getD_app {l : List Nat} {x d i : Nat} : (l ++ [x]).getD i d = if i < l.length then l.getD i d else if i = l.length then x else d := by
  by_cases h : i < l.length
  · rw [if_pos h, List.getD_eq_getElem?_getD, List.getElem?_append_left h, List.getD_eq_getElem?_getD]
  · rw [if_neg h, List.getD_eq_getElem?_getD, List.getElem?_append_right (by omega)]
    by_cases e : i = l.length
    · rw [if_pos e, e, Nat.sub_self]; rfl
    · rw [if_neg e, List.getElem?_eq_none (by simp; omega)]; rfl
theorem getD_mem' {l : List Nat} {i : Nat} (h : i < l.length) : l.getD i 0 ∈ l := by
  rw [List.getD_eq_getElem?_getD, List.getElem?_eq_getElem h]; exact List.getElem_mem h
theorem rinv (n : Nat) (A : Mx) : ∀ c, RInv n c (rdc n A c)
  | 0 => ⟨Nat.zero_le _, List.Pairwise.nil, fun _ h => (by cases h), fun l h => absurd h (Nat.not_lt_zero _), fun _ _ _ j hj => absurd hj (Nat.not_lt_zero _)⟩
  | c + 1 => by
    have I := rinv n A c
    show RInv n (c + 1) (rstp n c (rdc n A c))
    generalize rdc n A c = s at I
    obtain ⟨hp1, hp2, hp3, hp4⟩ := pv_spec s.M c I.len
    unfold rstp
    by_cases h : pv s.M c n s.P.length < n
    · rw [if_pos h]
      generalize pv s.M c n s.P.length = p at *
      have ha := hp4 h
      generalize hr : s.P.length = r at *
      have hS : ∀ i, i < n → ∀ l, l < r → swpR s.M r p i (s.P.getD l 0) = dlt i l := by
        intro i hi l hl
        by_cases e1 : i = r
        · rw [e1, swpR_at, I.unit l (by omega) p h, dlt_ne (by omega), dlt_ne (by omega)]
        · by_cases e2 : i = p
          · rw [e2, swpR_at2, I.unit l (by omega) r (by omega), dlt_ne (by omega), dlt_ne (by omega)]
          · rw [swpR_ne _ e1 e2, I.unit l (by omega) i hi]
      refine ⟨by simp only [List.length_append, List.length_singleton]; omega, ?_, ?_, ?_, ?_⟩
      · exact List.pairwise_append.2 ⟨I.inc, List.pairwise_singleton _ _, fun a ha b hb => by rw [List.mem_singleton.1 hb]; exact I.lt a ha⟩
      · intro q hq
        rcases List.mem_append.1 hq with g | g
        · have := I.lt q g; omega
        · rw [List.mem_singleton.1 g]; omega
      · intro l hl i hi
        simp only [List.length_append, List.length_singleton, hr] at hl
        dsimp only
        rw [getD_app, hr]
        by_cases g : l < r
        · rw [if_pos g]
          by_cases e : i = r
          · rw [e, elim_at, hS r (by omega) l g, dlt_ne (by omega), Rat.div_def, Rat.zero_mul]
          · rw [elim_ne _ e, hS i hi l g, hS r (by omega) l g, dlt_ne (r := r) (by omega), Rat.div_def]; grind
        · rw [if_neg g, if_pos (by omega)]
          obtain rfl : l = r := by omega
          by_cases e : i = l
          · rw [e, elim_at, swpR_at, dlt_self, Rat.div_def, Rat.mul_inv_cancel _ ha]
          · rw [elim_ne _ e, swpR_at, Rat.div_def, Rat.mul_inv_cancel _ ha, dlt_ne e]; grind
      · intro i hi1 hi j hj
        simp only [List.length_append, List.length_singleton, hr] at hi1
        dsimp only
        rw [elim_ne _ (by omega), swpR_at]
        by_cases g : j = c
        · subst g
          rw [Rat.div_def, Rat.mul_inv_cancel _ ha]; grind
        · have e1 : s.M p j = 0 := I.low p (by omega) h j (by omega)
          have e2 : swpR s.M r p i j = 0 := by
            by_cases e2 : i = p
            · rw [e2, swpR_at2]; exact I.low r (by omega) (by omega) j (by omega)
            · rw [swpR_ne _ (by omega) e2]; exact I.low i (by omega) hi j (by omega)
          rw [e1, e2, Rat.div_def]; grind
    · rw [if_neg h]
      refine ⟨I.len, I.inc, fun q hq => by have := I.lt q hq; omega, I.unit, fun i hi1 hi j hj => ?_⟩
      by_cases g : j = c
      · subst g; exact hp3 i hi1 (by omega)
      · exact I.low i hi1 hi j (by omega)
theorem rdc_len_le (n : Nat) (A : Mx) (c : Nat) : ∀ k, (rdc n A c).P.length ≤ (rdc n A (c + k)).P.length ∧ (rdc n A (c + k)).P.length ≤ (rdc n A c).P.length + k
  | 0 => ⟨Nat.le_refl _, Nat.le_refl _⟩
  | k + 1 => by
    obtain ⟨h1, h2⟩ := rdc_len_le n A c k
    show _ ≤ (rstp n (c + k) (rdc n A (c + k))).P.length ∧ (rstp n (c + k) (rdc n A (c + k))).P.length ≤ _
    generalize rdc n A (c + k) = s at *
    unfold rstp
    split
    · simp only [List.length_append, List.length_singleton]; omega
    · omega
theorem rdc_len (n : Nat) (A : Mx) (c : Nat) : (rdc n A c).P.length ≤ c := by
  have := (rdc_len_le n A 0 c).2
  rw [Nat.zero_add] at this
  exact Nat.le_trans this (by show [].length + c ≤ c; simp)
theorem rdc_full {n : Nat} {A : Mx} {c : Nat} (h : n ≤ (rdc n A c).P.length) : ∀ k, rdc n A (c + k) = rdc n A c
  | 0 => rfl
  | k + 1 => by
    show rstp n (c + k) (rdc n A (c + k)) = _
    rw [rdc_full h k]
    unfold rstp
    rw [if_neg]
    have := (pv_spec (rdc n A c).M (c + k) (rinv n A c).len).1
    omega
/-- Only the first columns count for the first columns. -/
theorem rdc_cols {n m : Nat} {A B : Mx} (h : ∀ i, i < n → ∀ j, j < m → A i j = B i j) : ∀ c, c ≤ m → (∀ i, i < n → ∀ j, j < m → (rdc n A c).M i j = (rdc n B c).M i j) ∧ (rdc n A c).P = (rdc n B c).P ∧ (rdc n A c).d = (rdc n B c).d
  | 0, _ => ⟨h, rfl, rfl⟩
  | c + 1, hc => by
    obtain ⟨h1, h2, h3⟩ := rdc_cols h c (by omega)
    show (∀ i, i < n → ∀ j, j < m → (rstp n c (rdc n A c)).M i j = (rstp n c (rdc n B c)).M i j) ∧ (rstp n c (rdc n A c)).P = (rstp n c (rdc n B c)).P ∧ (rstp n c (rdc n A c)).d = (rstp n c (rdc n B c)).d
    have hl := (rinv n A c).len
    generalize rdc n A c = s at *
    generalize rdc n B c = t at *
    have e : pv s.M c n s.P.length = pv t.M c n t.P.length := by
      rw [h2]; exact pv_congr (by rw [← h2]; exact hl) fun i _ hi => by rw [h1 i hi c (by omega)]
    have hp := (pv_spec s.M c hl).1
    unfold rstp
    rw [← e, ← h2]
    generalize pv s.M c n s.P.length = p at *
    by_cases g : p < n
    · rw [if_pos g, if_pos g]
      have hs : ∀ i, i < n → ∀ j, j < m → swpR s.M s.P.length p i j = swpR t.M s.P.length p i j := by
        intro i hi j hj
        unfold swpR
        rw [h1 p g j hj, h1 s.P.length (by omega) j hj, h1 i hi j hj]
      refine ⟨fun i hi j hj => ?_, rfl, ?_⟩
      · dsimp only
        by_cases e : i = s.P.length
        · rw [e, elim_at, elim_at, hs s.P.length (by omega) j hj, h1 p g c (by omega)]
        · rw [elim_ne _ e, elim_ne _ e, hs s.P.length (by omega) j hj, hs i hi j hj, hs i hi c (by omega), h1 p g c (by omega)]
      · show _ * s.M p c = _ * t.M p c
        rw [h1 p g c (by omega), h3]
    · rw [if_neg g, if_neg g]
      exact ⟨h1, h2, h3⟩
def dotM (A : Mx) (x : Nat → Rat) (m i : Nat) : Rat := sumF (fun j => A i j * x j) m
def Ker (n m : Nat) (A : Mx) (x : Nat → Rat) : Prop := ∀ i, i < n → dotM A x m i = 0
theorem sumF_mul (f : Nat → Rat) (t : Rat) (n : Nat) : sumF (fun i => t * f i) n = t * sumF f n := by
  have := sumF_lin (fun _ => 0) f t n
  rw [sumF_zero (f := fun _ => 0) fun _ _ => rfl, Rat.zero_add] at this
  rw [← this]
  exact sumF_congr fun i _ => (Rat.zero_add _).symm
theorem dot_swp (A : Mx) (x : Nat → Rat) (m p q i : Nat) : dotM (swpR A p q) x m i = if i = p then dotM A x m q else if i = q then dotM A x m p else dotM A x m i := by
  unfold dotM
  by_cases h1 : i = p
  · rw [if_pos h1, h1]; exact sumF_congr fun j _ => by rw [swpR_at]
  · rw [if_neg h1]
    by_cases h2 : i = q
    · rw [if_pos h2, h2]; exact sumF_congr fun j _ => by rw [swpR_at2]
    · rw [if_neg h2]; exact sumF_congr fun j _ => by rw [swpR_ne _ h1 h2]
theorem ker_swp {n m p q : Nat} (hp : p < n) (hq : q < n) (A : Mx) (x : Nat → Rat) : Ker n m (swpR A p q) x ↔ Ker n m A x := by
  constructor
  · intro h i hi
    by_cases h1 : i = p
    · have := h q hq
      rw [dot_swp] at this
      by_cases h2 : q = p
      · rw [if_pos h2] at this; rw [h1, ← h2]; exact this
      · rw [if_neg h2, if_pos rfl] at this; rw [h1]; exact this
    · by_cases h2 : i = q
      · have := h p hp
        rw [dot_swp, if_pos rfl] at this; rw [h2]; exact this
      · have := h i hi
        rw [dot_swp, if_neg h1, if_neg h2] at this; exact this
  · intro h i hi
    rw [dot_swp]
    split
    · exact h q hq
    · split
      · exact h p hp
      · exact h i hi
theorem dot_elim (A : Mx) (x : Nat → Rat) (m r i : Nat) (a : Rat) (f : Nat → Rat) : dotM (elim A r a f) x m i = if i = r then a⁻¹ * dotM A x m r else dotM A x m i + (- (f i * a⁻¹)) * dotM A x m r := by
  unfold dotM
  by_cases h : i = r
  · rw [if_pos h, h, ← sumF_mul]
    refine sumF_congr fun j _ => ?_
    unfold elim
    rw [if_pos rfl, Rat.div_def]; grind
  · rw [if_neg h, ← sumF_lin]
    refine sumF_congr fun j _ => ?_
    unfold elim
    rw [if_neg h, Rat.div_def]; grind
theorem ker_elim {n m r : Nat} (hr : r < n) (A : Mx) (x : Nat → Rat) {a : Rat} (ha : a ≠ 0) (f : Nat → Rat) : Ker n m (elim A r a f) x ↔ Ker n m A x := by
  constructor
  · intro h
    have h0 : dotM A x m r = 0 := by
      have := h r hr
      rw [dot_elim, if_pos rfl] at this
      rcases Rat.mul_eq_zero.1 this with g | g
      · exact absurd (by have := Rat.mul_inv_cancel a ha; rw [g, Rat.mul_zero] at this; exact absurd this (by decide)) ha
      · exact g
    intro i hi
    by_cases e : i = r
    · rw [e]; exact h0
    · have := h i hi
      rw [dot_elim, if_neg e, h0, Rat.mul_zero, Rat.add_zero] at this
      exact this
  · intro h i hi
    rw [dot_elim, h r hr, h i hi]
    split <;> grind
theorem ker_rdc (n m : Nat) (A : Mx) (x : Nat → Rat) : ∀ c, Ker n m (rdc n A c).M x ↔ Ker n m A x
  | 0 => Iff.rfl
  | c + 1 => by
    rw [← ker_rdc n m A x c]
    show Ker n m (rstp n c (rdc n A c)).M x ↔ _
    have hl := (rinv n A c).len
    generalize rdc n A c = s at *
    obtain ⟨h1, h2, h3, h4⟩ := pv_spec s.M c hl
    unfold rstp
    split
    · next h => rw [ker_elim (by omega) _ _ (h4 h), ker_swp (by omega) h]
    · exact Iff.rfl
theorem det_rdc (n : Nat) (A : Mx) : ∀ c, det n A = (rdc n A c).d * det n (rdc n A c).M
  | 0 => (Rat.one_mul _).symm
  | c + 1 => by
    rw [det_rdc n A c]
    show _ = (rstp n c (rdc n A c)).d * det n (rstp n c (rdc n A c)).M
    have hl := (rinv n A c).len
    generalize rdc n A c = s at *
    obtain ⟨h1, h2, h3, h4⟩ := pv_spec s.M c hl
    unfold rstp
    split
    · next h =>
      show _ = ((if pv s.M c n s.P.length = s.P.length then s.d else -s.d) * s.M (pv s.M c n s.P.length) c) * det n (elim _ _ _ _)
      rw [Rat.mul_assoc, ← det_elim (by omega) _ (h4 h)]
      split
      · next e => rw [e, swpR_self]
      · next e => rw [det_swap (by omega) h (fun g => e g.symm)]; grind
    · rfl
end Go.Sx
namespace Go.Sx
theorem inc_range : ∀ {P : List Nat} {a n : Nat}, P.Pairwise (· < ·) → (∀ p ∈ P, a ≤ p ∧ p < a + n) → P.length = n → P = List.range' a n
  | [], a, n, _, _, h => by rw [← h]; rfl
  | q :: P, a, n, hi, hm, hl => by
    obtain ⟨n, rfl⟩ : ∃ k, n = k + 1 := ⟨P.length, by rw [← hl]; rfl⟩
    rw [List.length_cons] at hl
    obtain ⟨h1, h2⟩ := List.pairwise_cons.1 hi
    have hq := hm q (List.mem_cons_self ..)
    have key : ∀ {P : List Nat} {b : Nat}, P.Pairwise (· < ·) → (∀ p ∈ P, b ≤ p ∧ p < a + (n + 1)) → P.length + b ≤ a + (n + 1) ∨ P = [] := by
      intro P
      induction P with
      | nil => exact fun _ _ => .inr rfl
      | cons x P ih =>
        intro b g1 g2
        obtain ⟨g3, g4⟩ := List.pairwise_cons.1 g1
        have gx := g2 x (List.mem_cons_self ..)
        rcases ih (b := x + 1) g4 (fun p hp => ⟨g3 p hp, (g2 p (List.mem_cons_of_mem _ hp)).2⟩) with h | h
        · left; rw [List.length_cons]; omega
        · left; rw [h]; simp only [List.length_cons, List.length_nil]; omega
    have hk := key (b := q + 1) h2 fun p hp => ⟨h1 p hp, (hm p (List.mem_cons_of_mem _ hp)).2⟩
    have hqa : q = a := by
      rcases hk with g | g
      · omega
      · have : n = 0 := by rw [g] at hl; simpa using hl.symm
        omega
    subst hqa
    rw [List.range'_succ, inc_range (a := q + 1) (n := n) h2 (fun p hp => ⟨h1 p hp, by have := (hm p (List.mem_cons_of_mem _ hp)).2; omega⟩) (by omega)]
theorem full_range {n c : Nat} {s : Rd} (I : RInv n c s) (h : s.P.length = c) : s.P = List.range c := by
  rw [List.range_eq_range']
  exact inc_range I.inc (fun p hp => ⟨Nat.zero_le _, by have := I.lt p hp; omega⟩) h
theorem full_unit {n c : Nat} {s : Rd} (I : RInv n c s) (h : s.P.length = c) {l i : Nat} (hl : l < c) (hi : i < n) : s.M i l = dlt i l := by
  have := I.unit l (by omega) i hi
  rwa [full_range I h, List.getD_eq_getElem?_getD, List.getElem?_range hl, Option.getD_some] at this
def detP (n : Nat) (A : Mx) : Rat := if (rdc n A n).P.length = n then (rdc n A n).d else 0
theorem detP_eq (n : Nat) (A : Mx) : detP n A = det n A := by
  have I := rinv n A n
  have hl := rdc_len n A n
  rw [det_rdc n A n]
  unfold detP
  generalize rdc n A n = s at *
  by_cases h : s.P.length = n
  · rw [if_pos h, det_congr (B := dlt) fun i hi j hj => full_unit I h hj hi, det_one, Rat.mul_one]
  · rw [if_neg h, det_zrow (p := n - 1) (by omega) fun j hj => I.low (n - 1) (by omega) (by omega) j hj, Rat.mul_zero]
def kv (P : List Nat) (M : Mx) (f j : Nat) : Rat := if j = f then 1 else if j ∈ P then - M (P.idxOf j) f else 0
theorem inc_nodup {P : List Nat} (h : P.Pairwise (· < ·)) : P.Nodup := h.imp fun g => Nat.ne_of_lt g
theorem kv_piv {P : List Nat} {M : Mx} {f l : Nat} (hi : P.Pairwise (· < ·)) (hf : f ∉ P) (hl : l < P.length) : kv P M f (P.getD l 0) = - M l f := by
  have hm := getD_mem' hl
  unfold kv
  rw [if_neg (fun e => hf (by rw [← e]; exact hm)), if_pos hm]
  congr 2
  rw [List.getD_eq_getElem?_getD, List.getElem?_eq_getElem hl, Option.getD_some]
  exact (inc_nodup hi).idxOf_getElem l hl
theorem getD_inj {P : List Nat} (hi : P.Pairwise (· < ·)) {l k : Nat} (hl : l < P.length) (hk : k < P.length) (h : P.getD l 0 = P.getD k 0) : l = k := by
  rw [List.getD_eq_getElem?_getD, List.getD_eq_getElem?_getD, List.getElem?_eq_getElem hl, List.getElem?_eq_getElem hk, Option.getD_some, Option.getD_some] at h
  exact (List.getElem_inj (inc_nodup hi)).1 h
theorem mem_getD {P : List Nat} {j : Nat} (h : j ∈ P) : ∃ l, l < P.length ∧ P.getD l 0 = j := by
  obtain ⟨l, hl, e⟩ := List.getElem_of_mem h
  exact ⟨l, hl, by rw [List.getD_eq_getElem?_getD, List.getElem?_eq_getElem hl]; exact e⟩
/-- The product of another matrix's row with such a vector. -/
theorem dot_kv {P : List Nat} {M : Mx} {f m : Nat} (hi : P.Pairwise (· < ·)) (hf : f ∉ P) (hm : ∀ p ∈ P, p < m) (hfm : f < m) (A : Mx) (i : Nat) (hu : ∀ l, l < P.length → A i (P.getD l 0) = dlt i l) :
    dotM A (kv P M f) m i = if i < P.length then A i f - M i f else A i f := by
  have e : dotM A (kv P M f) m i = sumF (fun j => (if j = f then A i f else 0) + 1 * (if i < P.length ∧ j = P.getD i 0 then - M i f else 0)) m := by
    refine sumF_congr fun j hj => ?_
    by_cases h1 : j = f
    · rw [if_pos h1, if_neg (fun g => hf (by rw [← h1, g.2]; exact getD_mem' g.1)), h1]
      unfold kv
      rw [if_pos rfl]; grind
    · rw [if_neg h1]
      by_cases h2 : j ∈ P
      · obtain ⟨l, hl, rfl⟩ := mem_getD h2
        rw [kv_piv hi hf hl, hu l hl]
        by_cases h3 : i = l
        · rw [if_pos ⟨by omega, by rw [h3]⟩, h3, dlt_self]; grind
        · rw [if_neg (fun g => h3 (getD_inj hi g.1 hl g.2.symm)), dlt_ne h3]; grind
      · rw [if_neg (fun g => h2 (by rw [g.2]; exact getD_mem' g.1))]
        unfold kv
        rw [if_neg h1, if_neg h2]; grind
  rw [e, sumF_lin, sumF_one (p := f) hfm fun j _ h => if_neg h, if_pos rfl]
  by_cases h : i < P.length
  · rw [if_pos h, sumF_one (p := P.getD i 0) (hm _ (getD_mem' h)) fun j _ g => if_neg fun q => g q.2, if_pos ⟨h, rfl⟩]; grind
  · rw [if_neg h, sumF_zero fun j _ => if_neg fun q => h q.1]; grind
theorem ker_kv {n m : Nat} {s : Rd} (I : RInv n m s) {f : Nat} (hf : f ∉ s.P) (hfm : f < m) : Ker n m s.M (kv s.P s.M f) := by
  intro i hi
  rw [dot_kv I.inc hf I.lt hfm s.M i fun l hl => I.unit l hl i hi]
  split
  · grind
  · exact I.low i (by omega) hi f hfm
theorem ker_cols {n m c : Nat} {A : Mx} (hc : c ≤ m) (x : Nat → Rat) : Ker n m A (fun j => if j < c then x j else 0) ↔ Ker n c A x := by
  have key : ∀ i, ∀ k, c ≤ k → sumF (fun j => A i j * (if j < c then x j else 0)) k = sumF (fun j => A i j * x j) c := by
    intro i k hk
    induction k with
    | zero => obtain rfl : c = 0 := by omega
              rfl
    | succ k ih =>
      by_cases g : c ≤ k
      · show sumF _ k + A i k * _ = _
        rw [ih g, if_neg (by omega), Rat.mul_zero, Rat.add_zero]
      · obtain rfl : c = k + 1 := by omega
        exact sumF_congr fun j hj => by rw [if_pos hj]
  unfold Ker dotM
  constructor
  · intro h i hi; rw [← key i m hc]; exact h i hi
  · intro h i hi; rw [key i m hc]; exact h i hi
theorem ker_congr {n m : Nat} {A : Mx} {x y : Nat → Rat} (h : ∀ j, j < m → x j = y j) : Ker n m A x ↔ Ker n m A y := by
  have : ∀ i, dotM A x m i = dotM A y m i := fun i => sumF_congr fun j hj => by rw [h j hj]
  unfold Ker
  constructor
  · intro g i hi; rw [← this]; exact g i hi
  · intro g i hi; rw [this]; exact g i hi
/-- What a further column changes. -/
theorem rdc_keep {n c : Nat} (A : Mx) : ∀ i, i < n → ∀ j, j < c → (rdc n A (c + 1)).M i j = (rdc n A c).M i j := by
  intro i hi j hj
  have I := rinv n A c
  show (rstp n c (rdc n A c)).M i j = _
  generalize rdc n A c = s at *
  obtain ⟨h1, h2, h3, h4⟩ := pv_spec s.M c I.len
  unfold rstp
  split
  · next h =>
    generalize pv s.M c n s.P.length = p at *
    have e0 : s.M p j = 0 := I.low p h1 h j hj
    dsimp only
    by_cases e : i = s.P.length
    · rw [e, elim_at, swpR_at, e0, I.low _ (Nat.le_refl _) (by omega) j hj, Rat.div_def, Rat.zero_mul]
    · rw [elim_ne _ e, swpR_at, e0]
      by_cases e2 : i = p
      · rw [e2, swpR_at2, e0, I.low _ (Nat.le_refl _) (by omega) j hj, Rat.div_def]; grind
      · rw [swpR_ne _ e e2, Rat.div_def]; grind
  · rfl
theorem rdc_P (n c : Nat) (A : Mx) : (rdc n A (c + 1)).P = if pv (rdc n A c).M c n (rdc n A c).P.length < n then (rdc n A c).P ++ [c] else (rdc n A c).P := by
  show (rstp n c (rdc n A c)).P = _
  unfold rstp
  split <;> rfl
theorem no_piv {n c : Nat} {A : Mx} (h : c ∉ (rdc n A (c + 1)).P) : (rdc n A (c + 1)).P = (rdc n A c).P ∧ (rdc n A (c + 1)).M = (rdc n A c).M := by
  have e : (rdc n A (c + 1)) = rstp n c (rdc n A c) := rfl
  rw [e] at h ⊢
  unfold rstp at h ⊢
  by_cases g : pv (rdc n A c).M c n (rdc n A c).P.length < n
  · rw [if_pos g] at h
    exact absurd (by simp) h
  · rw [if_neg g]; exact ⟨rfl, rfl⟩
theorem uniq_half {n m c : Nat} {A B : Mx} (hc : c < m) (hk : ∀ x, Ker n m B x → Ker n m A x) (hP : (rdc n A c).P = (rdc n B c).P) (hB : c ∉ (rdc n B (c + 1)).P) :
    c ∉ (rdc n A (c + 1)).P ∧ (∀ i, i < n → (rdc n A (c + 1)).M i c = (rdc n B (c + 1)).M i c) := by
  have IB := rinv n B (c + 1)
  have IA := rinv n A (c + 1)
  have hv := ker_kv IB hB (Nat.lt_succ_self c)
  rw [ker_rdc, ← ker_cols (m := m) (by omega)] at hv
  have hv2 := (ker_cols (m := m) (by omega) _).1 (hk _ hv)
  rw [← ker_rdc n (c + 1) A _ (c + 1)] at hv2
  obtain ⟨e1, e2⟩ := no_piv hB
  have hcA : c ∉ (rdc n A (c + 1)).P := by
    intro hA
    rw [rdc_P] at hA
    by_cases g : pv (rdc n A c).M c n (rdc n A c).P.length < n
    · have eP : (rdc n A (c + 1)).P = (rdc n A c).P ++ [c] := by rw [rdc_P, if_pos g]
      have hr : (rdc n A c).P.length < n := Nat.lt_of_le_of_lt (pv_spec _ c (rinv n A c).len).1 g
      have h0 := hv2 _ hr
      rw [dot_kv IB.inc hB IB.lt (by omega) (rdc n A (c + 1)).M _ fun l hl => ?_] at h0
      · rw [e1, ← hP, if_neg (Nat.lt_irrefl _)] at h0
        have := IA.unit (rdc n A c).P.length (by rw [eP]; simp) _ hr
        rw [eP, getD_app, if_neg (Nat.lt_irrefl _), if_pos rfl, dlt_self] at this
        rw [this] at h0
        exact absurd h0 (by decide)
      · have := IA.unit l (by rw [eP, List.length_append]; rw [e1, ← hP] at hl; omega) _ hr
        rw [eP, getD_app, if_pos (by rw [e1, ← hP] at hl; exact hl)] at this
        rw [e1, ← hP]; exact this
    · rw [if_neg g] at hA
      exact absurd ((rinv n A c).lt c hA) (Nat.lt_irrefl _)
  refine ⟨hcA, fun i hi => ?_⟩
  obtain ⟨a1, a2⟩ := no_piv hcA
  have h0 := hv2 i hi
  rw [dot_kv IB.inc hB IB.lt (by omega) (rdc n A (c + 1)).M i fun l hl => ?_] at h0
  · split at h0
    · grind
    · next g =>
      rw [h0]
      exact (IB.low i (by omega) hi c (by omega)).symm
  · have := IA.unit l (by rw [a1, hP, ← e1]; exact hl) i hi
    rwa [a1, hP, ← e1] at this
theorem rref_uniq {n m : Nat} {A B : Mx} (hk : ∀ x, Ker n m A x ↔ Ker n m B x) : ∀ c, c ≤ m → (rdc n A c).P = (rdc n B c).P ∧ ∀ i, i < n → ∀ j, j < c → (rdc n A c).M i j = (rdc n B c).M i j
  | 0, _ => ⟨rfl, fun _ _ j hj => absurd hj (Nat.not_lt_zero _)⟩
  | c + 1, hc => by
    obtain ⟨hP, hM⟩ := rref_uniq hk c (by omega)
    have hold : ∀ i, i < n → ∀ j, j < c → (rdc n A (c + 1)).M i j = (rdc n B (c + 1)).M i j := fun i hi j hj => by rw [rdc_keep A i hi j hj, rdc_keep B i hi j hj]; exact hM i hi j hj
    have hcase : ((rdc n A (c + 1)).P = (rdc n B (c + 1)).P) ∧ ∀ i, i < n → (rdc n A (c + 1)).M i c = (rdc n B (c + 1)).M i c := by
      by_cases hB : c ∈ (rdc n B (c + 1)).P
      · by_cases hA : c ∈ (rdc n A (c + 1)).P
        · have f : ∀ {X : Mx}, c ∈ (rdc n X (c + 1)).P → (rdc n X (c + 1)).P = (rdc n X c).P ++ [c] := by
            intro X hX
            rw [rdc_P] at hX ⊢
            split at hX
            · next g => rw [if_pos g]
            · exact absurd ((rinv n X c).lt c hX) (Nat.lt_irrefl _)
          have eA := f hA
          have eB := f hB
          have IA := rinv n A (c + 1)
          have IB := rinv n B (c + 1)
          refine ⟨by rw [eA, eB, hP], fun i hi => ?_⟩
          have uA := IA.unit (rdc n A c).P.length (by rw [eA]; simp) i hi
          have uB := IB.unit (rdc n B c).P.length (by rw [eB]; simp) i hi
          rw [eA, getD_app, if_neg (Nat.lt_irrefl _), if_pos rfl] at uA
          rw [eB, getD_app, if_neg (Nat.lt_irrefl _), if_pos rfl] at uB
          rw [uA, uB, hP]
        · obtain ⟨h1, _⟩ := uniq_half (by omega) (fun x h => (hk x).1 h) hP.symm hA
          exact absurd hB h1
      · obtain ⟨h1, h2⟩ := uniq_half (by omega) (fun x h => (hk x).2 h) hP hB
        exact ⟨by rw [(no_piv h1).1, (no_piv hB).1, hP], h2⟩
    refine ⟨hcase.1, fun i hi j hj => ?_⟩
    by_cases g : j = c
    · rw [g]; exact hcase.2 i hi
    · exact hold i hi j (by omega)
end Go.Sx
namespace Go.Sx
theorem rdc_back {n k : Nat} {A : Mx} (h : (rdc n A (k + 1)).P.length = k + 1) : (rdc n A k).P.length = k ∧ pv (rdc n A k).M k n k < n := by
  have h1 := (rdc_len_le n A k 1).2
  have h2 := rdc_len n A k
  have e : (rdc n A k).P.length = k := by omega
  refine ⟨e, ?_⟩
  rw [rdc_P, e] at h
  by_cases g : pv (rdc n A k).M k n k < n
  · exact g
  · rw [if_neg g, e] at h; omega
theorem rdc_next {n k : Nat} {A : Mx} (h : (rdc n A k).P.length = k) (hp : pv (rdc n A k).M k n k < n) : (rdc n A (k + 1)).P.length = k + 1 ∧ (rdc n A (k + 1)).M = elim (swpR (rdc n A k).M k (pv (rdc n A k).M k n k)) k ((rdc n A k).M (pv (rdc n A k).M k n k) k) fun i => swpR (rdc n A k).M k (pv (rdc n A k).M k n k) i k := by
  refine ⟨by rw [rdc_P, h, if_pos hp]; simp [h], ?_⟩
  show (rstp n k (rdc n A k)).M = _
  unfold rstp
  rw [h, if_pos hp]
def dd (n : Nat) (B : Mx) : Nat → Rat
  | 0 => 1
  | k + 1 => dd n B k * (rdc n B k).M (pv (rdc n B k).M k n k) k
def WholeMx (B : Mx) : Prop := ∀ i j, ∃ z : Int, B i j = z
def ExInv (n : Nat) (B : Mx) (k : Nat) (B' : Mx) : Prop := WholeMx B' ∧ ∀ (K : Nat) (s σ : Nat → Nat), k ≤ K → (∀ a, a < k → s a = a) → (∀ a, k ≤ a → a < K → k ≤ s a ∧ s a < n) →
  det K (fun a b => B' (s a) (σ b)) = dd n B k * det K fun a b => (rdc n B k).M (s a) (σ b)
theorem ex_inv {n : Nat} {B : Mx} (hB : WholeMx B) : ∀ k, (rdc n B k).P.length = k → ∃ B', ExInv n B k B'
  | 0, _ => ⟨B, hB, fun K s σ _ _ _ => (Rat.one_mul _).symm⟩
  | k + 1, h => by
    obtain ⟨hk, hp⟩ := rdc_back h
    obtain ⟨B', hB', hI⟩ := ex_inv hB k hk
    obtain ⟨_, eM⟩ := rdc_next hk hp
    have hlen := (rinv n B k).len
    obtain ⟨h1, _, _, h4⟩ := pv_spec (rdc n B k).M k (n := n) (r := k) (by omega)
    have ha := h4 hp
    unfold ExInv
    rw [eM]
    show ∃ B', WholeMx B' ∧ ∀ (K : Nat) (s σ : Nat → Nat), k + 1 ≤ K → (∀ a, a < k + 1 → s a = a) → (∀ a, k + 1 ≤ a → a < K → k + 1 ≤ s a ∧ s a < n) → det K (fun a b => B' (s a) (σ b)) = (dd n B k * (rdc n B k).M (pv (rdc n B k).M k n k) k) * _
    generalize pv (rdc n B k).M k n k = p at *
    generalize (rdc n B k).M = N at *
    refine ⟨swpR B' k p, fun i j => ?_, fun K s σ hK hs1 hs2 => ?_⟩
    · unfold swpR
      split
      · exact hB' _ _
      · split
        · exact hB' _ _
        · exact hB' _ _
    · have hsw : ∀ X : Mx, (fun a b => swpR X k p (s a) (σ b)) = fun a b => X (if s a = k then p else if s a = p then k else s a) (σ b) := by
        intro X
        funext a b
        unfold swpR
        split
        · rfl
        · split <;> rfl
      have e := hI K (fun a => if s a = k then p else if s a = p then k else s a) σ (by omega) (fun a ha => by
        have := hs1 a (by omega)
        show (if s a = k then p else if s a = p then k else s a) = a
        rw [this, if_neg (by omega), if_neg (by omega)]) fun a h1' h2' => by
          show k ≤ (if s a = k then p else if s a = p then k else s a) ∧ (if s a = k then p else if s a = p then k else s a) < n
          by_cases g : a = k
          · rw [hs1 a (by omega), if_pos g]; omega
          · have := hs2 a (by omega) h2'
            rw [if_neg (by omega)]
            split <;> omega
      rw [hsw B', e, Rat.mul_assoc]
      congr 1
      rw [← hsw N]
      have hsk := hs1 k (by omega)
      have ed := det_elim (n := K) (r := k) (by omega) (fun a b => swpR N k p (s a) (σ b)) ha fun a => swpR N k p (s a) k
      rw [ed]
      congr 1
      refine det_congr fun a ha' b _ => ?_
      by_cases g : a = k
      · rw [g, elim_at, hsk, elim_at]
      · have hne : s a ≠ k := by
          by_cases g2 : a < k
          · rw [hs1 a (by omega)]; exact g
          · have := hs2 a (by omega) ha'; omega
        rw [elim_ne _ g, elim_ne _ hne, hsk]
theorem ex_int {n : Nat} {B : Mx} (hB : WholeMx B) {k : Nat} (hk : (rdc n B k).P.length = k) {i : Nat} (hi : i < n) (j : Nat) : ∃ z : Int, dd n B k * (rdc n B k).M i j = z := by
  obtain ⟨B', hB', hI⟩ := ex_inv hB k hk
  have I := rinv n B k
  have hlen := I.len
  have hu : ∀ {l i : Nat}, l < k → i < n → (rdc n B k).M i l = dlt i l := fun hl hi => full_unit I hk hl hi
  by_cases g : i < k
  · have e := hI k (fun a => a) (fun b => if b = i then j else b) (Nat.le_refl _) (fun a _ => rfl) fun a h1 h2 => absurd h2 (by omega)
    rw [det_congr (A := fun a b => (rdc n B k).M a (if b = i then j else b)) (B := ucol i fun a => (rdc n B k).M a j) fun a ha b hb => ?_, det_ucol _ g] at e
    · rw [← e]; exact det_int fun a _ b _ => hB' _ _
    · unfold ucol
      by_cases h : b = i
      · rw [if_pos h, if_pos h]
      · rw [if_neg h, if_neg h]; exact hu hb (by omega)
  · have e := hI (k + 1) (fun a => if a < k then a else i) (fun b => if b < k then b else j) (by omega) (fun a ha => if_pos ha) fun a h1 h2 => by
      show k ≤ (if a < k then a else i) ∧ (if a < k then a else i) < n
      rw [if_neg (by omega)]; omega
    rw [det_congr (A := fun a b => (rdc n B k).M (if a < k then a else i) (if b < k then b else j)) (B := ucol k fun a => (rdc n B k).M (if a < k then a else i) j) fun a ha b hb => ?_, det_ucol _ (by omega), if_neg (Nat.lt_irrefl _)] at e
    · rw [← e]; exact det_int fun a _ b _ => hB' _ _
    · unfold ucol
      by_cases h : b = k
      · rw [if_neg (show ¬ b < k by omega), if_pos h]
      · rw [if_pos (show b < k by omega), if_neg h]
        by_cases h2 : a < k
        · rw [if_pos h2]; exact hu (by omega) (by omega)
        · rw [if_neg h2, hu (by omega) hi, dlt_ne (by omega), dlt_ne (by omega)]
theorem dd_ne {n : Nat} {B : Mx} : ∀ k, (rdc n B k).P.length = k → dd n B k ≠ 0
  | 0, _ => by show (1 : Rat) ≠ 0; decide
  | k + 1, h => by
    obtain ⟨hk, hp⟩ := rdc_back h
    have hlen := (rinv n B k).len
    intro e
    rcases Rat.mul_eq_zero.1 e with g | g
    · exact dd_ne k hk g
    · exact (pv_spec (rdc n B k).M k (n := n) (r := k) (by omega)).2.2.2 hp g
/-- One step of the elimination in whole numbers. -/
def swpZ (W : Nat → Nat → Int) (p q : Nat) : Nat → Nat → Int := fun i j => if i = p then W q j else if i = q then W p j else W i j
def stepZ (W : Nat → Nat → Int) (k : Nat) (last : Int) : Nat → Nat → Int := fun i j => if i = k then W k j else if j = k then 0 else (W k k * W i j - W i k * W k j).tdiv last
def RepZ (n m : Nat) (B : Mx) (k : Nat) (W : Nat → Nat → Int) : Prop := ∀ i, i < n → ∀ j, j < m → ((W i j : Int) : Rat) = dd n B k * (rdc n B k).M i j
theorem rep_zero {n m k : Nat} {B : Mx} {W : Nat → Nat → Int} (h : RepZ n m B k W) (hk : (rdc n B k).P.length = k) {i j : Nat} (hi : i < n) (hj : j < m) : W i j = 0 ↔ (rdc n B k).M i j = 0 := by
  have e := h i hi j hj
  constructor
  · intro g
    rw [g] at e
    rcases Rat.mul_eq_zero.1 e.symm with q | q
    · exact absurd q (dd_ne k hk)
    · exact q
  · intro g
    rw [g, Rat.mul_zero] at e
    exact Rat.intCast_inj.1 e
theorem rep_step {n m k : Nat} {B : Mx} {W : Nat → Nat → Int} (hB : WholeMx B) (h : RepZ n m B k W) (hk : (rdc n B k).P.length = k) (hkm : k < m) (hp : pv (rdc n B k).M k n k < n) {last : Int} (hl : ((last : Int) : Rat) = dd n B k) :
    RepZ n m B (k + 1) (stepZ (swpZ W k (pv (rdc n B k).M k n k)) k last) ∧ ((stepZ (swpZ W k (pv (rdc n B k).M k n k)) k last k k : Int) : Rat) = dd n B (k + 1) := by
  obtain ⟨hk1, eM⟩ := rdc_next hk hp
  have hlen := (rinv n B k).len
  obtain ⟨h1, _, _, h4⟩ := pv_spec (rdc n B k).M k (n := n) (r := k) (by omega)
  have ha := h4 hp
  have hd : dd n B (k + 1) = dd n B k * (rdc n B k).M (pv (rdc n B k).M k n k) k := rfl
  have hd0 := dd_ne k hk
  have hex := fun i (hi : i < n) j => ex_int hB hk1 hi j
  have hW : ∀ i, i < n → ∀ j, j < m → ((swpZ W k (pv (rdc n B k).M k n k) i j : Int) : Rat) = dd n B k * swpR (rdc n B k).M k (pv (rdc n B k).M k n k) i j := by
    intro i hi j hj
    unfold swpZ swpR
    split
    · exact h _ hp j hj
    · split
      · exact h _ (by omega) j hj
      · exact h _ hi j hj
  unfold RepZ
  rw [eM] at hex ⊢
  rw [hd] at hex ⊢
  generalize hpp : pv (rdc n B k).M k n k = p at *
  generalize (rdc n B k).M = N at *
  generalize swpZ W k p = V at *
  generalize dd n B k = D at *
  have hkk : ((V k k : Int) : Rat) = D * N p k := by rw [hW k (by omega) k hkm, swpR_at]
  refine ⟨fun i hi j hj => ?_, by unfold stepZ; rw [if_pos rfl]; exact hkk⟩
  unfold stepZ
  by_cases g : i = k
  · rw [if_pos g, g, hW k (by omega) j hj, elim_at]
    rw [Rat.div_def]
    have := Rat.mul_inv_cancel _ ha
    grind
  · rw [if_neg g]
    by_cases g2 : j = k
    · rw [if_pos g2, g2, elim_ne _ g, swpR_at, Rat.div_def, Rat.mul_inv_cancel _ ha]
      show ((0 : Int) : Rat) = _
      grind
    · rw [if_neg g2]
      obtain ⟨z, hz⟩ := hex i hi j
      have e : V k k * V i j - V i k * V k j = last * z := by
        refine Rat.intCast_inj.1 ?_
        rw [Rat.intCast_sub, Rat.intCast_mul, Rat.intCast_mul, Rat.intCast_mul, hkk, hW i hi j hj, hW i hi k hkm, hW k (by omega) j hj, hl, ← hz, elim_ne _ g, swpR_at, Rat.div_def]
        have := Rat.mul_inv_cancel _ ha
        grind
      have hl0 : last ≠ 0 := fun q => hd0 (by rw [← hl, q]; rfl)
      rw [e, Int.mul_tdiv_cancel_left _ hl0, ← hz]
theorem rdc_scaled {n : Nat} {A B : Mx} {c : Nat → Rat} (hc : ∀ i, i < n → c i ≠ 0) (hB : ∀ i, i < n → ∀ j, B i j = c i * A i j) : ∀ k, (rdc n A k).P.length = k →
    (rdc n B k).P.length = k ∧ ∃ c' : Nat → Rat, (∀ i, i < n → c' i ≠ 0) ∧ ∀ i, i < n → ∀ j, (rdc n B k).M i j = (if i < k then 1 else c' i) * (rdc n A k).M i j
  | 0, _ => ⟨rfl, c, hc, fun i hi j => by rw [if_neg (Nat.not_lt_zero _)]; exact hB i hi j⟩
  | k + 1, h => by
    obtain ⟨hk, hp⟩ := rdc_back h
    obtain ⟨hkB, c', hc', hM⟩ := rdc_scaled hc hB k hk
    obtain ⟨hk1, eA⟩ := rdc_next hk hp
    have hlen := (rinv n A k).len
    have ep : pv (rdc n B k).M k n k = pv (rdc n A k).M k n k := pv_congr (by omega) fun i h1 h2 => by
      rw [hM i h2, if_neg (by omega)]
      constructor
      · intro g
        rcases Rat.mul_eq_zero.1 g with q | q
        · exact absurd q (hc' i h2)
        · exact q
      · intro g; rw [g, Rat.mul_zero]
    obtain ⟨hk2, eB⟩ := rdc_next hkB (by rw [ep]; exact hp)
    refine ⟨hk2, ?_⟩
    rw [eA, eB, ep]
    obtain ⟨h1, _, _, h4⟩ := pv_spec (rdc n A k).M k (n := n) (r := k) (by omega)
    have ha := h4 hp
    generalize pv (rdc n A k).M k n k = p at *
    generalize (rdc n A k).M = M at *
    generalize (rdc n B k).M = N at *
    have hcp := hc' p hp
    have hr : ∀ j, N p j / N p k = M p j / M p k := by
      intro j
      rw [hM p hp j, hM p hp k, if_neg (by omega), Rat.div_def, Rat.div_def]
      have e1 := Rat.mul_inv_cancel _ ha
      have e2 := Rat.mul_inv_cancel _ hcp
      have e3 : (c' p * M p k)⁻¹ = (c' p)⁻¹ * (M p k)⁻¹ := by
        have h0 : c' p * M p k ≠ 0 := fun q => by
          rcases Rat.mul_eq_zero.1 q with w | w
          · exact hcp w
          · exact ha w
        have e4 := Rat.mul_inv_cancel _ h0
        grind
      rw [e3]; grind
    refine ⟨fun i => if i = p then c' k else c' i, fun i hi => ?_, fun i hi j => ?_⟩
    · show (if i = p then c' k else c' i) ≠ 0
      split
      · exact hc' k (by omega)
      · exact hc' i hi
    · by_cases g : i = k
      · rw [g, elim_at, elim_at, swpR_at, swpR_at, hr, if_pos (by omega), Rat.one_mul]
      · rw [elim_ne _ g, elim_ne _ g, swpR_at, swpR_at, hr]
        by_cases g2 : i = p
        · have f1 : swpR N k p p j = c' k * M k j := by rw [swpR_at2, hM k (by omega), if_neg (by omega)]
          have f2 : swpR N k p p k = c' k * M k k := by rw [swpR_at2, hM k (by omega), if_neg (by omega)]
          have f3 : swpR M k p p j = M k j := by rw [swpR_at2]
          have f4 : swpR M k p p k = M k k := by rw [swpR_at2]
          dsimp only
          rw [g2, f1, f2, f3, f4, if_neg (by omega), if_pos rfl]
          grind
        · have f1 := hM i hi j
          have f2 := hM i hi k
          rw [swpR_ne N g g2, swpR_ne M g g2]
          dsimp only
          have q1 : swpR N k p i k = N i k := swpR_ne _ g g2 _
          have q2 : swpR M k p i k = M i k := swpR_ne _ g g2 _
          rw [q1, q2]
          by_cases g3 : i < k
          · rw [if_pos g3] at f1 f2
            rw [f1, f2, if_pos (by omega)]
            grind
          · rw [if_neg g3] at f1 f2
            rw [f1, f2, if_neg (by omega), if_neg g2]
            grind
end Go.Sx
namespace Go.Sx
open Go Go.RowKit Go.Proofs.YtblfipdfklpmmaaDoor
structure Rw (α : Type) where
  b : Nat
  cap : Nat
  X : List α
  sp : List Value
def zRw {α : Type} : Rw α := ⟨0, 0, [], []⟩
def Rw.v {α : Type} (r : Rw α) : Value := .slice (some ⟨r.b, 0, none⟩) r.X.length r.cap
def Rw.blk {α : Type} (enc : α → List Value) (t : TypeId) (r : Rw α) : Blk := (r.b, t, r.X.flatMap enc ++ r.sp)
def Rw.put {α : Type} (r : Rw α) (j : Nat) (u : α) : Rw α := ⟨r.b, r.cap, r.X.set j u, r.sp⟩
def mB {α : Type} (enc : α → List Value) (t tS : TypeId) (bo : Nat) (R : List (Rw α)) (H : List Blk) : List Blk := (bo, tS, R.map Rw.v) :: (R.map (Rw.blk enc t) ++ H)
theorem getD_ge {α : Type} (l : List α) (d : α) {i : Nat} (h : i < l.length) : l.getD i d = l[i] := by
  rw [List.getD_eq_getElem?_getD, List.getElem?_eq_getElem h]; rfl
theorem getD_setL {α : Type} (l : List α) (d u : α) {i j : Nat} (hi : i < l.length) : (l.set i u).getD j d = if j = i then u else l.getD j d := by
  rw [List.getD_eq_getElem?_getD, List.getElem?_set, List.getD_eq_getElem?_getD]
  by_cases h : j = i
  · subst h; simp [hi]
  · rw [if_neg (fun e => h e.symm), if_neg h]
theorem mB_at {α : Type} {enc : α → List Value} {t tS : TypeId} {bo : Nat} {R : List (Rw α)} {H : List Blk} {i : Nat} (hi : i < R.length) : (mB enc t tS bo R H)[i + 1]? = some ((R.getD i zRw).b, t, (R.getD i zRw).X.flatMap enc ++ (R.getD i zRw).sp) := by
  unfold mB
  rw [List.getElem?_cons_succ, List.getElem?_append_left (by rw [List.length_map]; exact hi), List.getElem?_map, List.getElem?_eq_getElem hi, getD_ge R zRw hi]; rfl
theorem mB_row {α : Type} {R : List (Rw α)} {i : Nat} (hi : i < R.length) : (R.map Rw.v)[i]? = some (R.getD i zRw).v := by
  rw [List.getElem?_map, List.getElem?_eq_getElem hi, getD_ge R zRw hi]; rfl
theorem put_v {α : Type} (r : Rw α) (j : Nat) (u : α) : (r.put j u).v = r.v := by
  unfold Rw.v Rw.put; rw [List.length_set]
theorem map_put_v {α : Type} (R : List (Rw α)) {i : Nat} (j : Nat) (u : α) (hi : i < R.length) : (R.set i ((R.getD i zRw).put j u)).map Rw.v = R.map Rw.v := by
  rw [List.map_set, put_v, getD_ge R zRw hi]
  refine List.ext_getElem (by simp) fun k h1 h2 => ?_
  rw [List.getElem_set]
  split
  · next h => subst h; rw [List.getElem_map]
  · rfl
theorem mB_put {α : Type} {enc : α → List Value} {t tS : TypeId} {bo : Nat} {R : List (Rw α)} {H : List Blk} {i : Nat} (j : Nat) (u : α) (hi : i < R.length) :
    (mB enc t tS bo R H).set (i + 1) ((R.getD i zRw).b, t, ((R.getD i zRw).X.set j u).flatMap enc ++ (R.getD i zRw).sp) = mB enc t tS bo (R.set i ((R.getD i zRw).put j u)) H := by
  unfold mB
  rw [map_put_v R j u hi, List.set_cons_succ, List.set_append_left _ _ (by rw [List.length_map]; exact hi), List.map_set]; rfl
def swpL {α : Type} (R : List (Rw α)) (i j : Nat) : List (Rw α) := (R.set i (R.getD j zRw)).set j (R.getD i zRw)
theorem swpL_len {α : Type} (R : List (Rw α)) (i j : Nat) : (swpL R i j).length = R.length := by unfold swpL; rw [List.length_set, List.length_set]
theorem swpL_get {α : Type} (R : List (Rw α)) {i j : Nat} (hi : i < R.length) (hj : j < R.length) (k : Nat) : (swpL R i j).getD k zRw = if k = j then R.getD i zRw else if k = i then R.getD j zRw else R.getD k zRw := by
  unfold swpL
  rw [getD_setL _ _ _ (by rw [List.length_set]; exact hj), getD_setL _ _ _ hi]
/-- What a matrix in memory holds. -/
structure MatG {α : Type} (R : List (Rw α)) (n m : Nat) (f : Nat → Nat → α) : Prop where
  len : R.length = n
  row : ∀ i, i < n → (R.getD i zRw).X = tab m (f i)
  cap : ∀ i, i < n → m ≤ (R.getD i zRw).cap ∧ (R.getD i zRw).cap ≤ 9223372036854775807
section
variable {α : Type} {R : List (Rw α)} {n m : Nat} {f g : Nat → Nat → α}
theorem MatG.xlen (h : MatG R n m f) {i : Nat} (hi : i < n) : (R.getD i zRw).X.length = m := by rw [h.row i hi, tab_len]
theorem MatG.v (h : MatG R n m f) {i : Nat} (hi : i < n) : (R.getD i zRw).v = .slice (some ⟨(R.getD i zRw).b, 0, none⟩) m (R.getD i zRw).cap := by unfold Rw.v; rw [h.xlen hi]
theorem MatG.get (h : MatG R n m f) {i j : Nat} (hi : i < n) (hj : j < m) (d : α) : (R.getD i zRw).X.getD j d = f i j := by rw [h.row i hi]; exact tab_get _ _ hj
theorem MatG.congr (h : MatG R n m f) (e : ∀ i, i < n → ∀ j, j < m → f i j = g i j) : MatG R n m g := ⟨h.len, fun i hi => by rw [h.row i hi]; exact tab_congr fun j hj => e i hi j hj, h.cap⟩
theorem MatG.put (h : MatG R n m f) {i : Nat} (hi : i < n) (j : Nat) (u : α) : MatG (R.set i ((R.getD i zRw).put j u)) n m fun a b => if a = i ∧ b = j then u else f a b := by
  have hl : i < R.length := by rw [h.len]; exact hi
  refine ⟨by rw [List.length_set, h.len], fun a ha => ?_, fun a ha => ?_⟩
  · rw [getD_setL _ _ _ hl]
    by_cases e : a = i
    · rw [if_pos e]
      show (R.getD i zRw).X.set j u = _
      rw [h.row i hi, tab_set, e]
      exact tab_congr fun b _ => by
        by_cases q : b = j
        · rw [if_pos q, if_pos ⟨rfl, q⟩]
        · rw [if_neg q, if_neg fun z => q z.2]
    · rw [if_neg e, h.row a ha]
      exact tab_congr fun b _ => by rw [if_neg fun z => e z.1]
  · rw [getD_setL _ _ _ hl]
    by_cases e : a = i
    · rw [if_pos e]; exact h.cap i hi
    · rw [if_neg e]; exact h.cap a ha
theorem MatG.swp (h : MatG R n m f) {i j : Nat} (hi : i < n) (hj : j < n) : MatG (swpL R i j) n m fun a b => if a = j then f i b else if a = i then f j b else f a b := by
  have hi' : i < R.length := by rw [h.len]; exact hi
  have hj' : j < R.length := by rw [h.len]; exact hj
  refine ⟨by rw [swpL_len, h.len], fun a ha => ?_, fun a ha => ?_⟩
  · rw [swpL_get R hi' hj']
    by_cases e1 : a = j
    · simp only [if_pos e1]; exact h.row i hi
    · by_cases e2 : a = i
      · simp only [if_neg e1, if_pos e2]; exact h.row j hj
      · simp only [if_neg e1, if_neg e2]; exact h.row a ha
  · rw [swpL_get R hi' hj']
    split
    · exact h.cap i hi
    · split
      · exact h.cap j hj
      · exact h.cap a ha
theorem MatG.sl {enc : α → List Value} {size : Nat} {t tS : TypeId} {bo : Nat} {H : List Blk} {w0 w : World} (h : MatG R n m f) (hS : St w0 w (mB enc t tS bo R H)) (hu : ∀ x, (enc x).length = size) {i : Nat} (hi : i < n) : Sl enc size w (R.getD i zRw).v (tab m (f i)) := by
  have hl : i < R.length := by rw [h.len]; exact hi
  have := hS.slg (mB_at hl) hu (n := m) (cap := (R.getD i zRw).cap) (by rw [h.xlen hi]; omega) (h.cap i hi).1 (h.cap i hi).2
  rwa [h.row i hi, List.take_of_length_le (by rw [tab_len]; omega), ← h.v hi] at this
/-- The rows' slices, read. -/
def enV (v : Value) : List Value := [v]
theorem enV_flat (l : List Value) : l.flatMap enV = l := by
  induction l with
  | nil => rfl
  | cons a l ih => rw [List.flatMap_cons, ih]; rfl
theorem MatG.outer {enc : α → List Value} {t tS : TypeId} {bo : Nat} {H : List Blk} {w0 w : World} (h : MatG R n m f) (hS : St w0 w (mB enc t tS bo R H)) {cap : Nat} (h1 : n ≤ cap) (h2 : cap ≤ 9223372036854775807) : Sl enV 1 w (.slice (some ⟨bo, 0, none⟩) n cap) (R.map Rw.v) := by
  have hk : (mB enc t tS bo R H)[0]? = some (bo, tS, R.map Rw.v) := rfl
  rw [← enV_flat (R.map Rw.v)] at hk
  have := hS.sle hk (fun _ => rfl) (n := n) (cap := cap) (by rw [List.length_map, h.len]; omega) h1 h2
  rwa [List.take_of_length_le (by rw [List.length_map, h.len]; omega)] at this
end
/-- A matrix that is read: a slice of slices. -/
structure Mts {α : Type} (enc : α → List Value) (size : Nat) (w : World) (v : Value) (A : List (List α)) (vs : List Value) : Prop where
  len : vs.length = A.length
  sl : Sl enV 1 w v vs
  row : ∀ i, i < A.length → Sl enc size w (vs.getD i undef) (A.getD i [])
theorem Mts.below {α : Type} {enc : α → List Value} {size : Nat} {w w' : World} {v : Value} {A : List (List α)} {vs : List Value} (h : Mts enc size w v A vs) (hb : Below w.heap.size w w') : Mts enc size w' v A vs := ⟨h.len, h.sl.below hb, fun i hi => (h.row i hi).below hb⟩
def tabM {α : Type} (n m : Nat) (f : Nat → Nat → α) : List (List α) := tab n fun i => tab m (f i)
theorem tabM_len {α : Type} (n m : Nat) (f : Nat → Nat → α) : (tabM n m f).length = n := tab_len _ _
theorem tabM_row {α : Type} {n m : Nat} (f : Nat → Nat → α) {i : Nat} (hi : i < n) : (tabM n m f).getD i [] = tab m (f i) := tab_get _ _ hi
theorem MatG.mts {α : Type} {R : List (Rw α)} {n m : Nat} {f : Nat → Nat → α} {enc : α → List Value} {size : Nat} {t tS : TypeId} {bo : Nat} {H : List Blk} {w0 w : World} (h : MatG R n m f) (hS : St w0 w (mB enc t tS bo R H)) (hu : ∀ x, (enc x).length = size) {cap : Nat} (h1 : n ≤ cap) (h2 : cap ≤ 9223372036854775807) :
    Mts enc size w (.slice (some ⟨bo, 0, none⟩) n cap) (tabM n m f) (R.map Rw.v) := by
  refine ⟨by rw [List.length_map, h.len, tabM_len], h.outer hS h1 h2, fun i hi => ?_⟩
  rw [tabM_len] at hi
  rw [tabM_row f hi, List.getD_eq_getElem?_getD, mB_row (by rw [h.len]; exact hi)]
  exact h.sl hS hu hi
section
variable {P : Program} {N : Nat} {ρ : Nat → Value} {w0 w w' : World} {d : Option Tmp} {ty : TypeId} {pos : String} {aft : Array Edge} {g : Option (Nat × Bool)} {x y z : Operand} {t t' e : TypeId} {H : List Blk} {k b o : Nat} {v : Value} {K : Value → Prop} {K2 : Value → World → Prop}
  {α : Type} {enc : α → List Value} {size : Nat} {R : List (Rw α)} {tR tS : TypeId} {bo : Nat} {zz : List Value}
end
end Go.Sx
namespace Go.Proofs.YtblfipdfklpmmaaDoor
open Go Go.RowKit Go.Sx
def colsA (A : List (List RR)) : Nat := (A.getD 0 []).length
def evenA (A : List (List RR)) : Bool := A.all fun r => decide (r.length = colsA A)
def shpE (A : List (List RR)) : Int := if A.length = 0 ∨ colsA A = 0 then 4 else if evenA A = false then 4 else if 16 < A.length ∨ 16 < colsA A then 2 else 0
def sqE (A : List (List RR)) : Int := if shpE A ≠ 0 then shpE A else if A.length ≠ colsA A then 4 else 0
theorem shpE_zero {A : List (List RR)} (h : shpE A = 0) : 1 ≤ A.length ∧ A.length ≤ 16 ∧ 1 ≤ colsA A ∧ colsA A ≤ 16 ∧ ∀ i, i < A.length → (A.getD i []).length = colsA A := by
  unfold shpE at h
  split at h
  · cases h
  · next h1 =>
    split at h
    · cases h
    · next h2 =>
      split at h
      · cases h
      · next h3 =>
        refine ⟨by omega, by omega, by omega, by omega, fun i hi => ?_⟩
        have h4 : evenA A = true := by cases q : evenA A with
          | true => rfl
          | false => exact absurd q h2
        have := List.all_eq_true.1 h4 _ (getD_mem A i [] hi)
        exact of_decide_eq_true this
theorem all_step {α : Type} (f : α → Bool) (l : List α) (d : α) {i : Nat} (hi : i < l.length) (h : (l.take i).all f = true) :
    (f (l.getD i d) = true → (l.take (i + 1)).all f = true) ∧ (f (l.getD i d) = false → l.all f = false) := by
  have e : l.take (i + 1) = l.take i ++ [l.getD i d] := by
    rw [List.take_succ_eq_append_getElem hi, List.getD_eq_getElem?_getD, List.getElem?_eq_getElem hi]; rfl
  constructor
  · intro g
    rw [e, List.all_append, h, List.all_cons, g]; rfl
  · intro g
    rw [List.all_eq_false]
    exact ⟨_, getD_mem l i d hi, by rw [g]; simp⟩
theorem lcheck_ok (v : Value) (A : List (List RR)) (vs : List Value) (w : World) (hA : Mts encR 3 w v A vs) :
    Ret Tryd.prog 29 #[v] w fun r w' => r = .int .i64 (shpE A) ∧ Below w.heap.size w w' := by
  have hS := St.init w
  have hmx := hA.sl.maxLen
  have hlen := hA.len
  refine enter Tryd.func29 rfl Tryd.ntmps29 rfl ?_
  repeat (with_reducible first | refine c_seq ?_ | refine c_block ?_ | refine c_skip ?_ | refine x_then ?_ | refine x_block ?_)
  refine c_reg ?_
  refine l_pure rfl (s_asg  rfl ?_)
  refine l_nil ?_
  repeat (with_reducible first | refine c_seq ?_ | refine c_block ?_ | refine c_skip ?_ | refine x_then ?_ | refine x_block ?_)
  by_cases h0 : A.length = 0
  · have he : shpE A = 4 := if_pos (.inl h0)
    rw [he]
    repeat (with_reducible first | refine c_seq ?_ | refine c_block ?_ | refine c_skip ?_ | refine x_then ?_ | refine x_block ?_)
    refine c_reg ?_
    refine l_pure rfl (s_move  rfl ?_)
    refine l_pure rfl (s_lenr  rfl (hA.sl.below hS.below) ⟨_, Tryd.underlying24⟩ ?_)
    refine l_pure rfl (s_eql  rfl rfl ?_)
    refine l_pure rfl (s_move  rfl ?_)
    refine l_no (gno_yes 8 (by kernel_rfl) rfl (decide_eq_true (by omega))) ?_
    refine l_no (gno_yes 8 (by kernel_rfl) rfl (decide_eq_true (by omega))) ?_
    refine l_no (gno_yes 8 (by kernel_rfl) rfl (decide_eq_true (by omega))) ?_
    refine l_no (gno_yes 8 (by kernel_rfl) rfl (decide_eq_true (by omega))) ?_
    refine l_no (gno_yes 8 (by kernel_rfl) rfl (decide_eq_true (by omega))) ?_
    refine l_pure rfl (s_pick (vb rfl (decide_eq_true (by omega))) rfl ?_)
    refine l_nil ?_
    repeat (with_reducible first | refine c_seq ?_ | refine c_block ?_ | refine c_skip ?_ | refine x_then ?_ | refine x_block ?_)
    refine c_yes rfl (rfl) ?_
    repeat (with_reducible first | refine c_seq ?_ | refine c_block ?_ | refine c_skip ?_ | refine x_then ?_ | refine x_block ?_)
    refine c_reg ?_
    refine l_pure rfl (s_asg  rfl ?_)
    refine l_nil ?_
    repeat (with_reducible first | refine c_seq ?_ | refine c_block ?_ | refine c_skip ?_ | refine x_then ?_ | refine x_block ?_)
    refine c_ret ?_
    repeat (with_reducible first | refine x_then_ret ?_ | refine x_block_ret ?_)
    refine r_one rfl rfl ?_
    exact ⟨rfl, hS.below⟩
  have hr0 := hA.row 0 (by omega)
  have hm0 := hr0.maxLen
  repeat (with_reducible first | refine c_seq ?_ | refine c_block ?_ | refine c_skip ?_ | refine x_then ?_ | refine x_block ?_)
  refine c_reg ?_
  refine l_pure rfl (s_move  rfl ?_)
  refine l_pure rfl (s_lenr  rfl (hA.sl.below hS.below) ⟨_, Tryd.underlying24⟩ ?_)
  refine l_pure rfl (s_eql  rfl rfl ?_)
  refine l_pure rfl (s_move  rfl ?_)
  refine l_pure (gd_yes 8 (by kernel_rfl) rfl (decide_eq_false (by omega))) (s_move  rfl ?_)
  refine l_pure (gd_yes 8 (by kernel_rfl) rfl (decide_eq_false (by omega))) (s_ixr (i := 0)  rfl rfl (hA.sl.below hS.below) (by omega) (by first | omega | (simp; done) | (simp; omega)) si_24 ?_)
  refine l_read (gd_yes 8 (by kernel_rfl) rfl (decide_eq_false (by omega))) (s_lde (i := 0) undef  rfl vi_30 (hA.sl.below hS.below) (by first | omega | (simp; done) | (simp; omega)) rfl rfl (.inr rfl) ?_)
  refine l_pure (gd_yes 8 (by kernel_rfl) rfl (decide_eq_false (by omega))) (s_lenr  rfl (hr0.below hS.below) ⟨_, Tryd.underlying30⟩ ?_)
  refine l_pure (gd_yes 8 (by kernel_rfl) rfl (decide_eq_false (by omega))) (s_eql  rfl rfl ?_)
  refine l_pure rfl (s_pick (vb rfl (decide_eq_false (by omega))) rfl ?_)
  refine l_nil ?_
  repeat (with_reducible first | refine c_seq ?_ | refine c_block ?_ | refine c_skip ?_ | refine x_then ?_ | refine x_block ?_)
  have hc0 : colsA A = (A.getD 0 []).length := rfl
  by_cases h1 : colsA A = 0
  · have he : shpE A = 4 := if_pos (.inr h1)
    rw [he]
    refine c_yes rfl (decide_eq_true (by omega)) ?_
    repeat (with_reducible first | refine c_seq ?_ | refine c_block ?_ | refine c_skip ?_ | refine x_then ?_ | refine x_block ?_)
    refine c_reg ?_
    refine l_pure rfl (s_asg  rfl ?_)
    refine l_nil ?_
    repeat (with_reducible first | refine c_seq ?_ | refine c_block ?_ | refine c_skip ?_ | refine x_then ?_ | refine x_block ?_)
    refine c_ret ?_
    repeat (with_reducible first | refine x_then_ret ?_ | refine x_block_ret ?_)
    refine r_one rfl rfl ?_
    exact ⟨rfl, hS.below⟩
  refine c_no rfl (decide_eq_false (by omega)) ?_
  repeat (with_reducible first | refine c_seq ?_ | refine c_block ?_ | refine c_skip ?_ | refine x_then ?_ | refine x_block ?_)
  have e1 : shpE A = if evenA A = false then 4 else if 16 < A.length ∨ 16 < colsA A then 2 else 0 := if_neg (by omega)
  repeat (with_reducible first | refine c_seq ?_ | refine c_block ?_ | refine c_skip ?_ | refine x_then ?_ | refine x_block ?_)
  refine c_reg ?_
  refine l_pure rfl (s_move  rfl ?_)
  refine l_pure rfl (s_lenr  rfl (hA.sl.below hS.below) ⟨_, Tryd.underlying24⟩ ?_)
  refine l_pure rfl (s_move  rfl ?_)
  refine l_nil ?_
  repeat (with_reducible first | refine c_seq ?_ | refine c_skip ?_ | refine x_then ?_ | refine x_block ?_)
  refine c_cut1 (fun ρ w' => evenA A = true ∧ ρ 0 = v ∧ St w w' []) ?_ ?_
  · repeat (with_reducible first | refine c_seq ?_ | refine c_block ?_ | refine c_skip ?_ | refine x_then ?_ | refine x_block ?_)
    refine c_loop (σ := Nat) (fun i ρ w' => i ≤ A.length ∧ (A.take i).all (fun r => decide (r.length = colsA A)) = true ∧ ρ 0 = v ∧ ρ 15 = v ∧ ρ 16 = .int .i64 A.length ∧ ρ 17 = .int .i64 i ∧ St w w' []) (fun i => A.length - i) 0
      ⟨Nat.zero_le _, by simp, rfl, rfl, vi rfl (by omega), rfl, hS⟩ ?_
    clear hS
    rintro i ρ w2 ⟨hi, hall, h0', h15, h16, h17, hS⟩
    repeat (with_reducible first | refine c_seq ?_ | refine c_block ?_ | refine c_skip ?_ | refine x_then ?_ | refine x_block ?_)
    refine c_reg ?_
    refine l_pure rfl (s_lss  h17 h16 ?_)
    refine l_nil ?_
    repeat (with_reducible first | refine c_seq ?_ | refine c_block ?_ | refine c_skip ?_ | refine x_then ?_ | refine x_block ?_)
    by_cases hlt : i < A.length
    · refine c_yes rfl (decide_eq_true (by omega)) ?_
      repeat (with_reducible first | refine c_seq ?_ | refine c_block ?_ | refine c_skip ?_ | refine x_then ?_ | refine x_block ?_)
      have hri := hA.row i hlt
      have hmi := hri.maxLen
      have hd : (A.getD i []).length = colsA A ↔ decide ((A.getD i []).length = colsA A) = true := (decide_eq_true_iff).symm
      repeat (with_reducible first | refine c_seq ?_ | refine c_block ?_ | refine c_skip ?_ | refine x_then ?_ | refine x_block ?_)
      refine c_reg ?_
      refine l_pure rfl (s_ixr (i := i)  h15 h17 (hA.sl.below hS.below) (by omega) (by first | omega | (simp; done) | (simp; omega)) si_24 ?_)
      refine l_read rfl (s_lde (i := i) undef  rfl vi_30 (hA.sl.below hS.below) (by first | omega | (simp; done) | (simp; omega)) rfl rfl (.inr rfl) ?_)
      refine l_pure rfl (s_asg  rfl ?_)
      refine l_nil ?_
      repeat (with_reducible first | refine c_seq ?_ | refine c_block ?_ | refine c_skip ?_ | refine x_then ?_ | refine x_block ?_)
      refine c_reg ?_
      refine l_pure rfl (s_move  rfl ?_)
      refine l_pure rfl (s_lenr  rfl (hri.below hS.below) ⟨_, Tryd.underlying30⟩ ?_)
      refine l_pure rfl (s_move  h0' ?_)
      refine l_pure rfl (s_ixr (i := 0)  rfl rfl (hA.sl.below hS.below) (by omega) (by first | omega | (simp; done) | (simp; omega)) si_24 ?_)
      refine l_read rfl (s_lde (i := 0) undef  rfl vi_30 (hA.sl.below hS.below) (by first | omega | (simp; done) | (simp; omega)) rfl rfl (.inr rfl) ?_)
      refine l_pure rfl (s_lenr  rfl (hr0.below hS.below) ⟨_, Tryd.underlying30⟩ ?_)
      refine l_pure rfl (s_neq  rfl rfl ?_)
      refine l_nil ?_
      repeat (with_reducible first | refine c_seq ?_ | refine c_block ?_ | refine c_skip ?_ | refine x_then ?_ | refine x_block ?_)
      by_cases hne : (A.getD i []).length = colsA A
      · refine c_no rfl (decide_eq_false (by omega)) ?_
        repeat (with_reducible first | refine c_seq ?_ | refine c_block ?_ | refine c_skip ?_ | refine x_then ?_ | refine x_block ?_)
        refine c_reg ?_
        refine l_pure rfl (s_add  h17 rfl (IntWalk.i64_in _ (by omega)) ?_)
        refine l_pure rfl (s_move  rfl ?_)
        refine l_nil ?_
        repeat (with_reducible first | refine c_seq ?_ | refine c_block ?_ | refine c_skip ?_ | refine x_then ?_ | refine x_block ?_)
        exact ⟨i + 1, _, rfl, ⟨hlt, (all_step (fun r : List RR => decide (r.length = colsA A)) A [] hlt hall).1 (hd.1 hne), by assumption, by assumption, by assumption, vi rfl (by omega), hS⟩, by omega⟩
      · refine c_yes rfl (decide_eq_true (by omega)) ?_
        repeat (with_reducible first | refine c_seq ?_ | refine c_block ?_ | refine c_skip ?_ | refine x_then ?_ | refine x_block ?_)
        have he : shpE A = 4 := by
          have hev : evenA A = false := (all_step (fun r : List RR => decide (r.length = colsA A)) A [] hlt hall).2 (decide_eq_false hne)
          rw [e1, if_pos hev]
        rw [he]
        repeat (with_reducible first | refine c_seq ?_ | refine c_block ?_ | refine c_skip ?_ | refine x_then ?_ | refine x_block ?_)
        refine c_reg ?_
        refine l_pure rfl (s_asg  rfl ?_)
        refine l_nil ?_
        repeat (with_reducible first | refine c_seq ?_ | refine c_block ?_ | refine c_skip ?_ | refine x_then ?_ | refine x_block ?_)
        refine c_ret ?_
        repeat (with_reducible first | refine x_then_ret ?_ | refine x_block_ret ?_)
        refine r_one rfl rfl ?_
        exact ⟨rfl, hS.below⟩
    · refine c_no rfl (decide_eq_false (by omega)) ?_
      repeat (with_reducible first | refine c_seq ?_ | refine c_block ?_ | refine c_skip ?_ | refine x_then ?_ | refine x_block ?_)
      refine c_exit ?_
      repeat (with_reducible first | refine x_then_exit ?_ | refine x_block_exit ?_ | refine x_block_pass rfl ?_)
      repeat (with_reducible first | refine c_seq ?_ | refine c_block ?_ | refine c_skip ?_ | refine x_then ?_ | refine x_block ?_)
      obtain rfl : i = A.length := by omega
      rw [List.take_length] at hall
      exact ⟨_, rfl, hall, h0', hS⟩
  clear hS
  rintro ρ w2 ⟨hev, h0', hS⟩
  repeat (with_reducible first | refine c_seq ?_ | refine c_block ?_ | refine c_skip ?_ | refine x_then ?_ | refine x_block ?_)
  have e2 : shpE A = if 16 < A.length ∨ 16 < colsA A then 2 else 0 := by rw [e1, if_neg (by rw [hev]; simp)]
  rw [e2]
  by_cases h3 : 16 < A.length
  · rw [if_pos (.inl h3)]
    repeat (with_reducible first | refine c_seq ?_ | refine c_block ?_ | refine c_skip ?_ | refine x_then ?_ | refine x_block ?_)
    refine c_reg ?_
    refine l_pure rfl (s_move  h0' ?_)
    refine l_pure rfl (s_lenr  rfl (hA.sl.below hS.below) ⟨_, Tryd.underlying24⟩ ?_)
    refine l_pure rfl (s_gtr  rfl rfl ?_)
    refine l_pure rfl (s_move  rfl ?_)
    refine l_no (gno_yes 32 (by kernel_rfl) rfl (decide_eq_true (by omega))) ?_
    refine l_no (gno_yes 32 (by kernel_rfl) rfl (decide_eq_true (by omega))) ?_
    refine l_no (gno_yes 32 (by kernel_rfl) rfl (decide_eq_true (by omega))) ?_
    refine l_no (gno_yes 32 (by kernel_rfl) rfl (decide_eq_true (by omega))) ?_
    refine l_no (gno_yes 32 (by kernel_rfl) rfl (decide_eq_true (by omega))) ?_
    refine l_pure rfl (s_pick (vb rfl (decide_eq_true (by omega))) rfl ?_)
    refine l_nil ?_
    repeat (with_reducible first | refine c_seq ?_ | refine c_block ?_ | refine c_skip ?_ | refine x_then ?_ | refine x_block ?_)
    refine c_yes rfl (rfl) ?_
    repeat (with_reducible first | refine c_seq ?_ | refine c_block ?_ | refine c_skip ?_ | refine x_then ?_ | refine x_block ?_)
    refine c_reg ?_
    refine l_pure rfl (s_asg  rfl ?_)
    refine l_nil ?_
    repeat (with_reducible first | refine c_seq ?_ | refine c_block ?_ | refine c_skip ?_ | refine x_then ?_ | refine x_block ?_)
    refine c_ret ?_
    repeat (with_reducible first | refine x_then_ret ?_ | refine x_block_ret ?_)
    refine r_one rfl rfl ?_
    exact ⟨rfl, hS.below⟩
  repeat (with_reducible first | refine c_seq ?_ | refine c_block ?_ | refine c_skip ?_ | refine x_then ?_ | refine x_block ?_)
  refine c_reg ?_
  refine l_pure rfl (s_move  h0' ?_)
  refine l_pure rfl (s_lenr  rfl (hA.sl.below hS.below) ⟨_, Tryd.underlying24⟩ ?_)
  refine l_pure rfl (s_gtr  rfl rfl ?_)
  refine l_pure rfl (s_move  rfl ?_)
  refine l_pure (gd_yes 32 (by kernel_rfl) rfl (decide_eq_false (by omega))) (s_move  h0' ?_)
  refine l_pure (gd_yes 32 (by kernel_rfl) rfl (decide_eq_false (by omega))) (s_ixr (i := 0)  rfl rfl (hA.sl.below hS.below) (by omega) (by first | omega | (simp; done) | (simp; omega)) si_24 ?_)
  refine l_read (gd_yes 32 (by kernel_rfl) rfl (decide_eq_false (by omega))) (s_lde (i := 0) undef  rfl vi_30 (hA.sl.below hS.below) (by first | omega | (simp; done) | (simp; omega)) rfl rfl (.inr rfl) ?_)
  refine l_pure (gd_yes 32 (by kernel_rfl) rfl (decide_eq_false (by omega))) (s_lenr  rfl (hr0.below hS.below) ⟨_, Tryd.underlying30⟩ ?_)
  refine l_pure (gd_yes 32 (by kernel_rfl) rfl (decide_eq_false (by omega))) (s_gtr  rfl rfl ?_)
  refine l_pure rfl (s_pick (vb rfl (decide_eq_false (by omega))) rfl ?_)
  refine l_nil ?_
  repeat (with_reducible first | refine c_seq ?_ | refine c_block ?_ | refine c_skip ?_ | refine x_then ?_ | refine x_block ?_)
  by_cases h4 : 16 < colsA A
  · rw [if_pos (.inr h4)]
    refine c_yes rfl (decide_eq_true (by omega)) ?_
    repeat (with_reducible first | refine c_seq ?_ | refine c_block ?_ | refine c_skip ?_ | refine x_then ?_ | refine x_block ?_)
    refine c_reg ?_
    refine l_pure rfl (s_asg  rfl ?_)
    refine l_nil ?_
    repeat (with_reducible first | refine c_seq ?_ | refine c_block ?_ | refine c_skip ?_ | refine x_then ?_ | refine x_block ?_)
    refine c_ret ?_
    repeat (with_reducible first | refine x_then_ret ?_ | refine x_block_ret ?_)
    refine r_one rfl rfl ?_
    exact ⟨rfl, hS.below⟩
  rw [if_neg (by omega)]
  refine c_no rfl (decide_eq_false (by omega)) ?_
  repeat (with_reducible first | refine c_seq ?_ | refine c_block ?_ | refine c_skip ?_ | refine x_then ?_ | refine x_block ?_)
  refine c_reg ?_
  refine l_pure rfl (s_asg  rfl ?_)
  refine l_nil ?_
  repeat (with_reducible first | refine c_seq ?_ | refine c_block ?_ | refine c_skip ?_ | refine x_then ?_ | refine x_block ?_)
  refine c_ret ?_
  repeat (with_reducible first | refine x_then_ret ?_ | refine x_block_ret ?_)
  refine r_one rfl rfl ?_
  exact ⟨rfl, hS.below⟩
theorem lsquare_ok (v : Value) (A : List (List RR)) (vs : List Value) (w : World) (hA : Mts encR 3 w v A vs) :
    Ret Tryd.prog 34 #[v] w fun r w' => r = .int .i64 (sqE A) ∧ Below w.heap.size w w' := by
  have hS := St.init w
  have hmx := hA.sl.maxLen
  have hlen := hA.len
  refine enter Tryd.func34 rfl Tryd.ntmps34 rfl ?_
  repeat (with_reducible first | refine c_seq ?_ | refine c_block ?_ | refine c_skip ?_ | refine x_then ?_ | refine x_block ?_)
  refine c_reg ?_
  refine l_pure rfl (s_asg  rfl ?_)
  refine l_nil ?_
  repeat (with_reducible first | refine c_seq ?_ | refine c_block ?_ | refine c_skip ?_ | refine x_then ?_ | refine x_block ?_)
  refine c_reg ?_
  refine l_pure rfl (s_move  rfl ?_)
  refine l_heavy rfl (s_call Tryd.call29 rfl (lcheck_ok v A vs _ (hA.below hS.below)) ?_)
  rintro _ wc1 ⟨rfl, hBc1⟩
  replace hS := hS.grow hBc1
  refine l_pure rfl (s_asg  rfl ?_)
  refine l_nil ?_
  repeat (with_reducible first | refine c_seq ?_ | refine c_block ?_ | refine c_skip ?_ | refine x_then ?_ | refine x_block ?_)
  refine c_reg ?_
  refine l_pure rfl (s_move  rfl ?_)
  refine l_pure rfl (s_neq  rfl rfl ?_)
  refine l_nil ?_
  repeat (with_reducible first | refine c_seq ?_ | refine c_block ?_ | refine c_skip ?_ | refine x_then ?_ | refine x_block ?_)
  by_cases h0 : shpE A = 0
  · refine c_no rfl (decide_eq_false (by omega)) ?_
    repeat (with_reducible first | refine c_seq ?_ | refine c_block ?_ | refine c_skip ?_ | refine x_then ?_ | refine x_block ?_)
    obtain ⟨h1, h2, h3, h4, h5⟩ := shpE_zero h0
    have hr0 := hA.row 0 (by omega)
    have hc0 : colsA A = (A.getD 0 []).length := rfl
    have e1 : sqE A = if A.length ≠ colsA A then 4 else 0 := if_neg (by omega)
    rw [e1]
    repeat (with_reducible first | refine c_seq ?_ | refine c_block ?_ | refine c_skip ?_ | refine x_then ?_ | refine x_block ?_)
    refine c_reg ?_
    refine l_pure rfl (s_move  rfl ?_)
    refine l_pure rfl (s_lenr  rfl (hA.sl.below hS.below) ⟨_, Tryd.underlying24⟩ ?_)
    refine l_pure rfl (s_move  rfl ?_)
    refine l_pure rfl (s_ixr (i := 0)  rfl rfl (hA.sl.below hS.below) (by omega) (by first | omega | (simp; done) | (simp; omega)) si_24 ?_)
    refine l_read rfl (s_lde (i := 0) undef  rfl vi_30 (hA.sl.below hS.below) (by first | omega | (simp; done) | (simp; omega)) rfl rfl (.inr rfl) ?_)
    refine l_pure rfl (s_lenr  rfl (hr0.below hS.below) ⟨_, Tryd.underlying30⟩ ?_)
    refine l_pure rfl (s_neq  rfl rfl ?_)
    refine l_nil ?_
    repeat (with_reducible first | refine c_seq ?_ | refine c_block ?_ | refine c_skip ?_ | refine x_then ?_ | refine x_block ?_)
    by_cases h6 : A.length = colsA A
    · rw [if_neg (by omega)]
      refine c_no rfl (decide_eq_false (by omega)) ?_
      repeat (with_reducible first | refine c_seq ?_ | refine c_block ?_ | refine c_skip ?_ | refine x_then ?_ | refine x_block ?_)
      refine c_reg ?_
      refine l_pure rfl (s_asg  rfl ?_)
      refine l_nil ?_
      repeat (with_reducible first | refine c_seq ?_ | refine c_block ?_ | refine c_skip ?_ | refine x_then ?_ | refine x_block ?_)
      refine c_ret ?_
      repeat (with_reducible first | refine x_then_ret ?_ | refine x_block_ret ?_)
      refine r_one rfl rfl ?_
      exact ⟨rfl, hS.below⟩
    · rw [if_pos h6]
      refine c_yes rfl (decide_eq_true (by omega)) ?_
      repeat (with_reducible first | refine c_seq ?_ | refine c_block ?_ | refine c_skip ?_ | refine x_then ?_ | refine x_block ?_)
      refine c_reg ?_
      refine l_pure rfl (s_asg  rfl ?_)
      refine l_nil ?_
      repeat (with_reducible first | refine c_seq ?_ | refine c_block ?_ | refine c_skip ?_ | refine x_then ?_ | refine x_block ?_)
      refine c_ret ?_
      repeat (with_reducible first | refine x_then_ret ?_ | refine x_block_ret ?_)
      refine r_one rfl rfl ?_
      exact ⟨rfl, hS.below⟩
  · have e1 : sqE A = shpE A := if_pos h0
    rw [e1]
    refine c_yes rfl (decide_eq_true (by omega)) ?_
    repeat (with_reducible first | refine c_seq ?_ | refine c_block ?_ | refine c_skip ?_ | refine x_then ?_ | refine x_block ?_)
    refine c_reg ?_
    refine l_pure rfl (s_move  rfl ?_)
    refine l_pure rfl (s_asg  rfl ?_)
    refine l_nil ?_
    repeat (with_reducible first | refine c_seq ?_ | refine c_block ?_ | refine c_skip ?_ | refine x_then ?_ | refine x_block ?_)
    refine c_ret ?_
    repeat (with_reducible first | refine x_then_ret ?_ | refine x_block_ret ?_)
    refine r_one rfl rfl ?_
    exact ⟨rfl, hS.below⟩
theorem isZero_ok (q : Rat) (w : World) : Ret Tryd.prog 56 #[aggR (ofQ q)] w fun r w' => r = .bool (decide (q = 0)) ∧ Below w.heap.size w w' := by
  have hS := St.init w
  refine enter Tryd.func56 rfl Tryd.ntmps56 rfl ?_
  repeat (with_reducible first | refine c_seq ?_ | refine c_block ?_ | refine c_skip ?_ | refine x_then ?_ | refine x_block ?_)
  refine c_reg ?_
  refine l_heavy rfl (s_box (new := encR (ofQ q))  rfl rfl hS ?_)
  intro b1 wz2 hS hBz2
  refine l_pure rfl (s_asg  rfl ?_)
  refine l_nil ?_
  repeat (with_reducible first | refine c_seq ?_ | refine c_block ?_ | refine c_skip ?_ | refine x_then ?_ | refine x_block ?_)
  refine c_reg ?_
  refine l_pure rfl (s_fld  rfl fo_27_1 ?_)
  refine l_read rfl (s_ldo (k := 0)  rfl vi_9 hS rfl rfl rfl (.inr rfl) ?_)
  refine l_pure rfl (s_eqs  rfl rfl ?_)
  refine l_pure rfl (s_asg  rfl ?_)
  refine l_nil ?_
  repeat (with_reducible first | refine c_seq ?_ | refine c_block ?_ | refine c_skip ?_ | refine x_then ?_ | refine x_block ?_)
  refine c_ret ?_
  repeat (with_reducible first | refine x_then_ret ?_ | refine x_block_ret ?_)
  refine r_one rfl rfl ?_
  exact ⟨congrArg Value.bool (decide_eq_decide.2 ofQ_num_nil), hS.below⟩
end Go.Proofs.YtblfipdfklpmmaaDoor
namespace Go.Proofs.YtblfipdfklpmmaaDoor
open Go Go.RowKit Go.Sx
def RM (A : List (List RR)) : Mx := fun i j => toQ ((A.getD i []).getD j zRR)
def RBM (k : Nat) (A : List (List RR)) : Prop := ∀ a ∈ A, RB k a
theorem RBM_at {k : Nat} {A : List (List RR)} (h : RBM k A) {i j : Nat} (hi : i < A.length) (hj : j < (A.getD i []).length) : Lr ((A.getD i []).getD j zRR) ≤ k := h _ (getD_mem A i [] hi) _ (getD_mem _ j zRR hj)
theorem RM_L {k : Nat} {A : List (List RR)} (h : RBM k A) {i j : Nat} (hi : i < A.length) (hj : j < (A.getD i []).length) : L (RM A i j) ≤ k := Nat.le_trans (L_toQ _) (RBM_at h hi hj)
abbrev qM (M : Mx) : Nat → Nat → RR := fun i j => ofQ (M i j)
theorem mid_get {α : Type} (l : List α) (x : α) (r : List α) {i : Nat} (h : l.length = i) : (l ++ x :: r)[i]? = some x := by
  subst h
  rw [List.getElem?_append_right (Nat.le_refl _), Nat.sub_self]; rfl
theorem mid_set {α : Type} (l : List α) (x y : α) (r : List α) {i : Nat} (h : l.length = i) : (l ++ x :: r).set i y = l ++ y :: r := by
  subst h
  rw [List.set_append_right _ _ (Nat.le_refl _), Nat.sub_self]; rfl
theorem Gl_blk {α : Type} {enc : α → List Value} {e : TypeId} {size : Nat} {v : Value} {X : List α} {Lb : List Blk} (h : Gl enc e size v X Lb) (hX : X ≠ []) : ∃ r : Rw α, r.X = X ∧ v = r.v ∧ Lb = [r.blk enc e] ∧ r.X.length ≤ r.cap ∧ r.cap ≤ 9223372036854775807 ∧ (r.X.flatMap enc ++ r.sp).length = r.cap * size := by
  obtain ⟨_, ⟨_, h2, _⟩ | ⟨b, cap, sp, h1, h2, h3, h4, h5⟩⟩ := h
  · exact absurd (List.length_eq_zero_iff.1 h2) hX
  · exact ⟨⟨b, cap, X, sp⟩, rfl, h1, h2, h3, by unfold Go.maxLen at h4; omega, h5⟩
theorem MatG_snoc {α : Type} {R : List (Rw α)} {i m : Nat} {f : Nat → Nat → α} (h : MatG R i m f) {r : Rw α} (hX : r.X = tab m (f i)) (hc : m ≤ r.cap ∧ r.cap ≤ 9223372036854775807) : MatG (R ++ [r]) (i + 1) m f := by
  have hg : ∀ a, (R ++ [r]).getD a zRw = if a < i then R.getD a zRw else if a = i then r else zRw := by
    intro a
    rw [List.getD_eq_getElem?_getD]
    by_cases e : a < i
    · rw [if_pos e, List.getElem?_append_left (by rw [h.len]; exact e), List.getD_eq_getElem?_getD]
    · rw [if_neg e, List.getElem?_append_right (by rw [h.len]; omega), h.len]
      by_cases e2 : a = i
      · rw [if_pos e2, e2, Nat.sub_self]; rfl
      · rw [if_neg e2, List.getElem?_eq_none (by simp; omega)]; rfl
  refine ⟨by rw [List.length_append, h.len]; rfl, fun a ha => ?_, fun a ha => ?_⟩
  · rw [hg]
    by_cases e : a < i
    · rw [if_pos e]; exact h.row a e
    · obtain rfl : a = i := by omega
      rw [if_neg e, if_pos rfl]; exact hX
  · rw [hg]
    by_cases e : a < i
    · rw [if_pos e]; exact h.cap a e
    · obtain rfl : a = i := by omega
      rw [if_neg e, if_pos rfl]; exact hc
/-- The rows' blocks are as long as their slices can grow. -/
def RwFull (R : List (Rw RR)) : Prop := ∀ r ∈ R, (r.X.flatMap encR ++ r.sp).length = r.cap * 3
def nilS : Value := .slice none 0 0
theorem rep_nil (n : Nat) : rep n [nilS] = List.replicate n nilS := by
  induction n with
  | zero => rfl
  | succ n ih => rw [rep_succ, ih]; rfl
set_option maxHeartbeats 2000000 in
theorem lclean_ok (v : Value) (A : List (List RR)) (vs : List Value) (m K : Nat) (w : World) (hA : Mts encR 3 w v A vs) (hn1 : 1 ≤ A.length) (hn : A.length ≤ 1000) (hm1 : 1 ≤ m) (hm : m ≤ 1000) (hev : ∀ i, i < A.length → (A.getD i []).length = m) (hB : RBM K A) (hK : K ≤ MX) :
    Ret Tryd.prog 30 #[v] w fun r w' => (∃ bo R, r = .slice (some ⟨bo, 0, none⟩) A.length A.length ∧ MatG R A.length m (qM (RM A)) ∧ RwFull R ∧ St w w' (mB encR 27 30 bo R [])) ∧ Below w.heap.size w w' := by
  have hM : MX = 1099511627776 := rfl
  obtain ⟨n, hn'⟩ : ∃ n, n = A.length := ⟨_, rfl⟩
  rw [← hn'] at hn1 hn hev ⊢
  have hS := St.init w
  have hlen := hA.len
  refine enter Tryd.func30 rfl Tryd.ntmps30 rfl ?_
  repeat (with_reducible first | refine c_seq ?_ | refine c_block ?_ | refine c_skip ?_ | refine x_then ?_ | refine x_block ?_)
  refine c_reg ?_
  refine l_pure rfl (s_asg  rfl ?_)
  refine l_nil ?_
  repeat (with_reducible first | refine c_seq ?_ | refine c_block ?_ | refine c_skip ?_ | refine x_then ?_ | refine x_block ?_)
  refine c_reg ?_
  refine l_pure rfl (s_move  rfl ?_)
  refine l_pure rfl (s_lenr  rfl (hA.sl.below hS.below) ⟨_, Tryd.underlying24⟩ ?_)
  refine l_heavy rfl (s_make (n := n)  rfl rfl si_24 (by omega) (by omega) (by omega) (by omega) hS ?_)
  intro bo wz1 hS hBz1
  refine l_pure rfl (s_asg  rfl ?_)
  refine l_nil ?_
  repeat (with_reducible first | refine c_seq ?_ | refine c_block ?_ | refine c_skip ?_ | refine x_then ?_ | refine x_block ?_)
  replace hS : St w _ [(bo, 30, rep n [nilS])] := hS
  rw [rep_nil] at hS
  repeat (with_reducible first | refine c_seq ?_ | refine c_block ?_ | refine c_skip ?_ | refine x_then ?_ | refine x_block ?_)
  refine c_reg ?_
  refine l_pure rfl (s_move  rfl ?_)
  refine l_pure rfl (s_lenr  rfl (hA.sl.below hS.below) ⟨_, Tryd.underlying24⟩ ?_)
  refine l_pure rfl (s_move  rfl ?_)
  refine l_nil ?_
  repeat (with_reducible first | refine c_seq ?_ | refine c_skip ?_ | refine x_then ?_ | refine x_block ?_)
  refine c_cut1 (fun ρ w' => ρ 3 = .slice (some ⟨bo, 0, none⟩) n n ∧ ∃ R, MatG R n m (qM (RM A)) ∧ RwFull R ∧ St w w' (mB encR 27 30 bo R [])) ?_ ?_
  · repeat (with_reducible first | refine c_seq ?_ | refine c_block ?_ | refine c_skip ?_ | refine x_then ?_ | refine x_block ?_)
    refine c_loop (σ := Nat) (fun i ρ w' => i ≤ n ∧ ρ 3 = .slice (some ⟨bo, 0, none⟩) n n ∧ ρ 11 = v ∧ ρ 12 = .int .i64 n ∧ ρ 13 = .int .i64 i ∧ ∃ R, MatG R i m (qM (RM A)) ∧ RwFull R ∧ St w w' ((bo, 30, R.map Rw.v ++ List.replicate (n - i) nilS) :: R.map (Rw.blk encR 27))) (fun i => n - i) 0
      ⟨Nat.zero_le _, rfl, rfl, vi rfl (by omega), rfl, [], ⟨rfl, fun i hi => absurd hi (Nat.not_lt_zero _), fun i hi => absurd hi (Nat.not_lt_zero _)⟩, (fun _ h => by cases h), hS⟩ ?_
    clear hS
    rintro i ρ w2 ⟨hi, h3, h11, h12, h13, R, hR, hF, hS⟩
    repeat (with_reducible first | refine c_seq ?_ | refine c_block ?_ | refine c_skip ?_ | refine x_then ?_ | refine x_block ?_)
    refine c_reg ?_
    refine l_pure rfl (s_lss  h13 h12 ?_)
    refine l_nil ?_
    repeat (with_reducible first | refine c_seq ?_ | refine c_block ?_ | refine c_skip ?_ | refine x_then ?_ | refine x_block ?_)
    by_cases hlt : i < n
    · refine c_yes rfl (decide_eq_true (by omega)) ?_
      repeat (with_reducible first | refine c_seq ?_ | refine c_block ?_ | refine c_skip ?_ | refine x_then ?_ | refine x_block ?_)
      have hri := hA.row i (by omega)
      have hli := hev i hlt
      obtain ⟨row, hrow⟩ : ∃ row, row = A.getD i [] := ⟨_, rfl⟩
      obtain ⟨vr, hvr⟩ : ∃ vr, vr = vs.getD i undef := ⟨_, rfl⟩
      rw [← hrow] at hri hli
      rw [← hvr] at hri
      obtain ⟨d, hd⟩ : ∃ d, n - i = d + 1 := ⟨n - i - 1, by omega⟩
      rw [hd, List.replicate_succ] at hS
      repeat (with_reducible first | refine c_seq ?_ | refine c_block ?_ | refine c_skip ?_ | refine x_then ?_ | refine x_block ?_)
      refine c_reg ?_
      refine l_pure rfl (s_move  h13 ?_)
      refine l_pure rfl (s_ixr (i := i)  h11 h13 (hA.sl.below hS.below) (by omega) (by first | omega | (simp; done) | (simp; omega)) si_24 ?_)
      refine l_read rfl (s_lde (i := i) undef  rfl vi_30 (hA.sl.below hS.below) (by first | omega | (simp; done) | (simp; omega)) rfl rfl (.inr rfl) ?_)
      refine l_pure rfl (s_asg  rfl ?_)
      refine l_pure rfl (s_asg  rfl ?_)
      refine l_nil ?_
      repeat (with_reducible first | refine c_seq ?_ | refine c_block ?_ | refine c_skip ?_ | refine x_then ?_ | refine x_block ?_)
      rw [← hvr]
      repeat (with_reducible first | refine c_seq ?_ | refine c_block ?_ | refine c_skip ?_ | refine x_then ?_ | refine x_block ?_)
      refine c_reg ?_
      refine l_pure rfl (s_move  rfl ?_)
      refine l_pure rfl (s_lenr  rfl (hri.below hS.below) ⟨_, Tryd.underlying30⟩ ?_)
      refine l_pure rfl (s_move  rfl ?_)
      refine l_nil ?_
      repeat (with_reducible first | refine c_seq ?_ | refine c_skip ?_ | refine x_then ?_ | refine x_block ?_)
      refine c_cut1 (fun ρ w' => ρ 3 = .slice (some ⟨bo, 0, none⟩) n n ∧ ρ 11 = v ∧ ρ 12 = .int .i64 n ∧ ρ 13 = .int .i64 i ∧ ∃ vi_ Li, Gl encR 27 3 vi_ (tab m (qM (RM A) i)) Li ∧ St w w' (((bo, 30, R.map Rw.v ++ vi_ :: List.replicate d nilS) :: R.map (Rw.blk encR 27)) ++ Li)) ?_ ?_
      · repeat (with_reducible first | refine c_seq ?_ | refine c_block ?_ | refine c_skip ?_ | refine x_then ?_ | refine x_block ?_)
        refine c_loop (σ := Nat) (fun j ρ w' => j ≤ m ∧ ρ 3 = .slice (some ⟨bo, 0, none⟩) n n ∧ ρ 4 = .int .i64 i ∧ ρ 11 = v ∧ ρ 12 = .int .i64 n ∧ ρ 13 = .int .i64 i ∧ ρ 18 = vr ∧ ρ 19 = .int .i64 m ∧ ρ 20 = .int .i64 j ∧ ∃ vi_ Li, Gl encR 27 3 vi_ (tab j (qM (RM A) i)) Li ∧ St w w' (((bo, 30, R.map Rw.v ++ vi_ :: List.replicate d nilS) :: R.map (Rw.blk encR 27)) ++ Li)) (fun j => m - j) 0
          ⟨Nat.zero_le _, by assumption, rfl, by assumption, by assumption, by assumption, rfl, vi rfl (by omega), rfl, nilS, [], Gl.nil _ _ _, by rw [List.append_nil]; exact hS⟩ ?_
        clear hS
        rintro j ρ w3 ⟨hj, h3, h4, h11, h12, h13, h18, h19, h20, vi_, Li, hG, hS⟩
        have htl := tab_len j (qM (RM A) i)
        repeat (with_reducible first | refine c_seq ?_ | refine c_block ?_ | refine c_skip ?_ | refine x_then ?_ | refine x_block ?_)
        refine c_reg ?_
        refine l_pure rfl (s_lss  h20 h19 ?_)
        refine l_nil ?_
        repeat (with_reducible first | refine c_seq ?_ | refine c_block ?_ | refine c_skip ?_ | refine x_then ?_ | refine x_block ?_)
        by_cases hjl : j < m
        · refine c_yes rfl (decide_eq_true (by omega)) ?_
          repeat (with_reducible first | refine c_seq ?_ | refine c_block ?_ | refine c_skip ?_ | refine x_then ?_ | refine x_block ?_)
          have hLr := RBM_at hB (i := i) (j := j) (by omega) (by rw [← hrow, hli]; exact hjl)
          rw [← hrow] at hLr
          obtain ⟨r, hr⟩ : ∃ r, r = row.getD j zRR := ⟨_, rfl⟩
          have hq : ofQ (RM A i j) = fx r := by rw [hr, hrow]; rfl
          rw [← hr] at hLr
          have hlenR : (R.map Rw.v).length = i := by rw [List.length_map, hR.len]
          have hfit : i < (R.map Rw.v ++ vi_ :: List.replicate d nilS).length := by rw [List.length_append, hlenR, List.length_cons]; omega
          repeat (with_reducible first | refine c_seq ?_ | refine c_block ?_ | refine c_skip ?_ | refine x_then ?_ | refine x_block ?_)
          refine c_reg ?_
          refine l_pure rfl (s_ixr (i := j)  h18 h20 (hri.below hS.below) (by omega) (by first | omega | (simp; done) | (simp; omega)) si_30 ?_)
          refine l_read rfl (s_lde (i := j) zRR  rfl vi_27 (hri.below hS.below) (by first | omega | (simp; done) | (simp; omega)) rfl rfl (.inl rfl) ?_)
          refine l_heavy rfl (s_alloc  vi_27 hS ?_)
          intro b7 wz2 hS hBz2
          refine l_heavy rfl (s_sta (k := 0)  rfl rfl vi_27 hS rfl rfl rfl (Nat.le_of_ble_eq_true rfl) rfl ?_)
          intro wz3 hS
          refine l_nil ?_
          repeat (with_reducible first | refine c_seq ?_ | refine c_block ?_ | refine c_skip ?_ | refine x_then ?_ | refine x_block ?_)
          rw [← hr] at hS
          replace hS : St w _ ((b7, 27, encR r) :: (((bo, 30, R.map Rw.v ++ vi_ :: List.replicate d nilS) :: R.map (Rw.blk encR 27)) ++ Li)) := hS
          repeat (with_reducible first | refine c_seq ?_ | refine c_block ?_ | refine c_skip ?_ | refine x_then ?_ | refine x_block ?_)
          refine c_reg ?_
          refine l_read rfl (s_ldo (k := 0)  rfl vi_27 hS rfl rfl rfl (.inl rfl) ?_)
          refine l_heavy rfl (s_call Tryd.call48 rfl (Valid_ok r _ (by omega)) ?_)
          rintro _ wc4 ⟨rfl, hBc4⟩
          replace hS := hS.grow hBc4
          refine l_pure rfl (s_not  rfl ?_)
          refine l_nil ?_
          repeat (with_reducible first | refine c_seq ?_ | refine c_block ?_ | refine c_skip ?_ | refine x_then ?_ | refine x_block ?_)
          refine c_cut1 (fun ρ w' => ρ 3 = .slice (some ⟨bo, 0, none⟩) n n ∧ ρ 4 = .int .i64 i ∧ ρ 7 = .pointer (some ⟨b7, 0, none⟩) ∧ ρ 11 = v ∧ ρ 12 = .int .i64 n ∧ ρ 13 = .int .i64 i ∧ ρ 18 = vr ∧ ρ 19 = .int .i64 m ∧ ρ 20 = .int .i64 j ∧ St w w' (((b7, 27, encR (fx r)) :: (bo, 30, R.map Rw.v ++ vi_ :: List.replicate d nilS) :: R.map (Rw.blk encR 27)) ++ Li)) ?_ ?_
          · by_cases hv : Vld r
            · refine c_no rfl (by rw [decide_eq_true hv]; rfl) ?_
              repeat (with_reducible first | refine c_seq ?_ | refine c_block ?_ | refine c_skip ?_ | refine x_then ?_ | refine x_block ?_)
              have e : fx r = r := ofQ_toQ hv
              rw [e]
              exact ⟨_, rfl, by assumption, by assumption, rfl, by assumption, by assumption, by assumption, by assumption, by assumption, by assumption, hS⟩
            · refine c_yes rfl (by rw [decide_eq_false hv]; rfl) ?_
              repeat (with_reducible first | refine c_seq ?_ | refine c_block ?_ | refine c_skip ?_ | refine x_then ?_ | refine x_block ?_)
              have e : fx r = zRR := by unfold fx; rw [toQ_bad hv, ofQ_zero]; rfl
              rw [e]
              repeat (with_reducible first | refine c_seq ?_ | refine c_block ?_ | refine c_skip ?_ | refine x_then ?_ | refine x_block ?_)
              refine c_reg ?_
              refine l_pure rfl (s_build  rfl bz_27 ?_)
              refine l_heavy rfl (s_sta (k := 0)  rfl rfl vi_27 hS rfl rfl rfl (Nat.le_of_ble_eq_true rfl) rfl ?_)
              intro wz5 hS
              refine l_nil ?_
              repeat (with_reducible first | refine c_seq ?_ | refine c_block ?_ | refine c_skip ?_ | refine x_then ?_ | refine x_block ?_)
              exact ⟨_, rfl, by assumption, by assumption, rfl, by assumption, by assumption, by assumption, by assumption, by assumption, by assumption, hS⟩
          clear hS
          rintro ρ w4 ⟨h3, h4, h7, h11, h12, h13, h18, h19, h20, hS⟩
          repeat (with_reducible first | refine c_seq ?_ | refine c_block ?_ | refine c_skip ?_ | refine x_then ?_ | refine x_block ?_)
          refine c_draw [(0, .pure), (1, .pure), (2, .pure), (3, .pure), (4, .pure), (5, .read), (6, .read), (7, .grow), (8, .free), (9, .pure), (10, .free)] (by kernel_rfl) (by kernel_rfl) hS ?_
          intro wz6 hS hBz6
          refine w_pure rfl rfl (s_move  h3 ?_)
          refine w_pure rfl rfl (s_move  h4 ?_)
          refine w_pure rfl rfl (s_move  h3 ?_)
          refine w_pure rfl rfl (s_move  h4 ?_)
          refine w_pure rfl rfl (s_ixo (i := i)  rfl rfl (by omega) (by first | omega | (simp; done) | (simp; omega)) si_24 ?_)
          refine w_read rfl rfl (s_ldc (k := 1)  rfl vi_30 hS rfl (by rw [Nat.zero_add, Nat.mul_one]; exact mid_get _ _ _ hlenR) ?_)
          refine w_read rfl rfl (s_ldo (k := 0)  h7 vi_27 hS rfl rfl rfl (.inl rfl) ?_)
          refine w_grow rfl rfl (s_bsl (vs := [aggR (fx r)])  rfl si_30 rfl (by decide) (by decide) (by decide) (by simp [Value.cells, aggR]) rfl hS ?_)
          intro b35 wz7 hS hBz7
          refine ⟨hBz7, ?_⟩
          refine w_free rfl rfl (s_appl [fx r]  rfl rfl si_30 (by decide) hG hS rfl rfl encR_len (encR_one [fx r]) (by first | omega | (simp only [List.length_cons, List.length_nil]; omega)) (by first | omega | (simp only [List.length_cons, List.length_nil]; omega)) ?_)
          intro va8 La8 wa8 hG hS hga8
          refine w_pure rfl rfl (s_ixo (i := i)  rfl rfl (by omega) (by first | omega | (simp; done) | (simp; omega)) si_24 ?_)
          refine w_free rfl rfl (s_stc (k := 1)  rfl rfl vi_30 hS rfl (by rw [Nat.zero_add, Nat.mul_one]; exact hfit) (by obtain ⟨a, c, rfl⟩ := hG.len; rfl) ?_)
          intro wz9 hS
          refine w_end ?_
          repeat (with_reducible first | refine c_seq ?_ | refine c_block ?_ | refine c_skip ?_ | refine x_then ?_ | refine x_block ?_)
          rw [← hq, ← tab_succ] at hG
          repeat (with_reducible first | refine c_seq ?_ | refine c_block ?_ | refine c_skip ?_ | refine x_then ?_ | refine x_block ?_)
          refine c_reg ?_
          refine l_pure rfl (s_add  h20 rfl (IntWalk.i64_in _ (by omega)) ?_)
          refine l_pure rfl (s_move  rfl ?_)
          refine l_nil ?_
          repeat (with_reducible first | refine c_seq ?_ | refine c_block ?_ | refine c_skip ?_ | refine x_then ?_ | refine x_block ?_)
          refine ⟨j + 1, _, rfl, ⟨hjl, by assumption, by assumption, by assumption, by assumption, by assumption, by assumption, by assumption, vi rfl (by omega), _, _, hG, ?_⟩, by omega⟩
          have hS2 := hS.drop (List.sublist_cons_self _ _)
          rw [Nat.zero_add, Nat.mul_one, mid_set _ _ _ _ hlenR] at hS2
          exact hS2
        · refine c_no rfl (decide_eq_false (by omega)) ?_
          repeat (with_reducible first | refine c_seq ?_ | refine c_block ?_ | refine c_skip ?_ | refine x_then ?_ | refine x_block ?_)
          refine c_exit ?_
          repeat (with_reducible first | refine x_then_exit ?_ | refine x_block_exit ?_ | refine x_block_pass rfl ?_)
          repeat (with_reducible first | refine c_seq ?_ | refine c_block ?_ | refine c_skip ?_ | refine x_then ?_ | refine x_block ?_)
          obtain rfl : j = m := by omega
          exact ⟨_, rfl, h3, h11, h12, h13, vi_, Li, hG, hS⟩
      clear hS
      rintro ρ w3 ⟨h3, h11, h12, h13, vi_, Li, hG, hS⟩
      repeat (with_reducible first | refine c_seq ?_ | refine c_block ?_ | refine c_skip ?_ | refine x_then ?_ | refine x_block ?_)
      refine c_reg ?_
      refine l_pure rfl (s_add  h13 rfl (IntWalk.i64_in _ (by omega)) ?_)
      refine l_pure rfl (s_move  rfl ?_)
      refine l_nil ?_
      repeat (with_reducible first | refine c_seq ?_ | refine c_block ?_ | refine c_skip ?_ | refine x_then ?_ | refine x_block ?_)
      obtain ⟨r, hX, rfl, rfl, hc1, hc2, hc3⟩ := Gl_blk hG (by intro e; have := congrArg List.length e; rw [tab_len] at this; simp at this; omega)
      have hR' := MatG_snoc hR hX ⟨by rw [hX, tab_len] at hc1; exact hc1, hc2⟩
      refine ⟨i + 1, _, rfl, ⟨hlt, by assumption, by assumption, by assumption, vi rfl (by omega), R ++ [r], hR', (fun x hx => (List.mem_append.1 hx).elim (hF x) fun g => by rw [List.mem_singleton.1 g]; exact hc3), ?_⟩, by omega⟩
      rw [List.map_append, List.map_append, show n - (i + 1) = d by omega, List.append_assoc]
      exact hS
    · refine c_no rfl (decide_eq_false (by omega)) ?_
      repeat (with_reducible first | refine c_seq ?_ | refine c_block ?_ | refine c_skip ?_ | refine x_then ?_ | refine x_block ?_)
      refine c_exit ?_
      repeat (with_reducible first | refine x_then_exit ?_ | refine x_block_exit ?_ | refine x_block_pass rfl ?_)
      repeat (with_reducible first | refine c_seq ?_ | refine c_block ?_ | refine c_skip ?_ | refine x_then ?_ | refine x_block ?_)
      obtain rfl : i = n := by omega
      rw [Nat.sub_self, List.replicate_zero, List.append_nil] at hS
      refine ⟨_, rfl, h3, R, hR, hF, ?_⟩
      unfold mB
      rw [List.append_nil]; exact hS
  clear hS
  rintro ρ w2 ⟨h3, R, hR, hF, hS⟩
  repeat (with_reducible first | refine c_seq ?_ | refine c_block ?_ | refine c_skip ?_ | refine x_then ?_ | refine x_block ?_)
  refine c_reg ?_
  refine l_pure rfl (s_move  h3 ?_)
  refine l_pure rfl (s_asg  rfl ?_)
  refine l_nil ?_
  repeat (with_reducible first | refine c_seq ?_ | refine c_block ?_ | refine c_skip ?_ | refine x_then ?_ | refine x_block ?_)
  refine c_ret ?_
  repeat (with_reducible first | refine x_then_ret ?_ | refine x_block_ret ?_)
  refine r_one rfl rfl ?_
  exact ⟨⟨bo, R, rfl, hR, hF, hS⟩, hS.below⟩
def VX (X : List RR) (k : Nat) : Rat := toQ (X.getD k zRR)
theorem tabQ_set {n : Nat} (f : Nat → Rat) (i : Nat) (q : Rat) : (tab n fun j => ofQ (f j)).set i (ofQ q) = tab n fun j => ofQ (if j = i then q else f j) := by
  rw [tab_set]
  exact tab_congr fun j _ => by by_cases h : j = i <;> simp only [h, if_true, if_false]
end Go.Proofs.YtblfipdfklpmmaaDoor
namespace Go.Sx
open Go Go.RowKit Go.Proofs.YtblfipdfklpmmaaDoor
section
variable {P : Program} {N : Nat} {ρ : Nat → Value} {w0 w w' : World} {d : Option Tmp} {ty : TypeId} {pos : String} {aft : Array Edge} {g : Option (Nat × Bool)} {x y z : Operand} {t t' e : TypeId} {H : List Blk} {k b o : Nat} {v : Value} {K : Value → Prop} {K2 : Value → World → Prop}
  {α : Type} {enc : α → List Value} {size : Nat} {R : List (Rw α)} {tR tS : TypeId} {bo : Nat} {zz : List Value}
theorem preAt (pre : List Blk) (T : List Blk) (k : Nat) : (pre ++ T)[pre.length + k]? = T[k]? := by
  rw [List.getElem?_append_right (by omega)]; congr 1; omega
theorem preSet (pre : List Blk) (T : List Blk) (k : Nat) (u : Blk) : (pre ++ T).set (pre.length + k) u = pre ++ T.set k u := by
  rw [List.set_append_right _ _ (by omega)]; congr 2; omega
/-- A matrix behind further blocks: a row's slice, an element, stores. -/
theorem s_mrowP (pre : List Blk) {i : Nat} (hx : ev N ρ x = .pointer (some ⟨bo, o, none⟩)) (ht : vinfo P t = some (1, false, zz)) (hS : St w0 w (pre ++ mB enc tR tS bo R H)) (ho : o = i) (hi : i < R.length) (h : K (R.getD i zRw).v) : Read1 P N ρ w ⟨d, .load t x, ty, pos, aft, g⟩ K := by
  subst ho
  exact s_ldc (k := pre.length + 0) hx ht hS (by rw [preAt]; rfl) (mB_row hi) h
theorem s_mldP (pre : List Blk) {i j : Nat} {agg : Bool} (dd : α) (hu : ∀ x, (enc x).length = size) (hx : ev N ρ x = .pointer (some ⟨b, o, none⟩)) (ht : vinfo P t = some (size, agg, zz)) (hS : St w0 w (pre ++ mB enc tR tS bo R H)) (hb : (R.getD i zRw).b = b) (hi : i < R.length)
    (ho : o = j * size) (hj : j < (R.getD i zRw).X.length) (hv : mkv agg (enc ((R.getD i zRw).X.getD j dd)) = v) (hagg : agg = true ∨ size = 1) (h : K v) : Read1 P N ρ w ⟨d, .load t x, ty, pos, aft, g⟩ K := by
  subst hb
  exact s_ldS (k := pre.length + (i + 1)) dd hu hx ht hS (by rw [preAt]; exact mB_at hi) ho hj hv hagg h
theorem s_mstP (pre : List Blk) {i j : Nat} {agg : Bool} (u : α) (hu : ∀ x, (enc x).length = size) (hx : ev N ρ x = .pointer (some ⟨b, o, none⟩)) (hy : ev N ρ y = v) (ht : vinfo P t = some (size, agg, zz)) (hS : St w0 w (pre ++ mB enc tR tS bo R H)) (hb : (R.getD i zRw).b = b) (hi : i < R.length)
    (ho : o = j * size) (hj : j < (R.getD i zRw).X.length) (hv : v.cells.toList = enc u) (h1 : (enc u).all (·.oneCell') = true) (h : ∀ w', St w0 w' (pre ++ mB enc tR tS bo (R.set i ((R.getD i zRw).put j u)) H) → K2 undef w') : Hup1 P N ρ w ⟨d, .store t x y, ty, pos, aft, g⟩ K2 := by
  subst hb
  refine s_stS (k := pre.length + (i + 1)) u hu hx hy ht hS (by rw [preAt]; exact mB_at hi) ho hj hv h1 fun w' hS' => ?_
  rw [preSet, mB_put j u hi] at hS'
  exact h w' hS'
theorem s_mrowstP (pre : List Blk) {cs : List Value} {T : List Blk} {i : Nat} (hx : ev N ρ x = .pointer (some ⟨bo, o, none⟩)) (hy : ev N ρ y = v) (ht : vinfo P t = some (1, false, zz)) (hS : St w0 w (pre ++ (bo, tS, cs) :: T)) (ho : o = i) (hi : i < cs.length) (h1 : v.oneCell' = true) (h : ∀ w', St w0 w' (pre ++ (bo, tS, cs.set i v) :: T) → K2 undef w') :
    Hup1 P N ρ w ⟨d, .store t x y, ty, pos, aft, g⟩ K2 := by
  subst ho
  refine s_stc (k := pre.length + 0) hx hy ht hS (by rw [preAt]; rfl) hi h1 fun w' hS' => ?_
  rw [preSet] at hS'
  exact h w' hS'
theorem mB_app (L : List Blk) : mB enc tR tS bo R H ++ L = mB enc tR tS bo R (H ++ L) := by unfold mB; rw [List.cons_append, List.append_assoc]
theorem mB_swpP (pre : List Blk) {i j : Nat} (hi : i < R.length) (hj : j < R.length) (h : St w0 w (pre ++ (bo, tS, ((R.map Rw.v).set i (R.getD j zRw).v).set j (R.getD i zRw).v) :: (R.map (Rw.blk enc tR) ++ H))) : St w0 w (pre ++ mB enc tR tS bo (swpL R i j) H) := by
  have e : ((R.map Rw.v).set i (R.getD j zRw).v).set j (R.getD i zRw).v = (swpL R i j).map Rw.v := by
    unfold swpL; rw [List.map_set, List.map_set]
  rw [e] at h
  refine h.perm (List.Perm.append_left _ (List.Perm.cons _ (List.Perm.append_right _ (List.Perm.map _ ?_))))
  unfold swpL
  rw [getD_ge R zRw hi, getD_ge R zRw hj]
  exact (List.set_set_perm hi hj).symm
theorem Rw_one (r : Rw α) : r.v.oneCell' = true := rfl
end
end Go.Sx
namespace Go.Proofs.YtblfipdfklpmmaaDoor
open Go Go.RowKit Go.Sx
def minF (M : Mx) (i r : Nat) (x : Rat) (k a b : Nat) : Rat := if a = i ∧ b < k then M i b - x * M r b else M a b
set_option maxHeartbeats 2000000 in
theorem lminus_ok {R : List (Rw RR)} {n m : Nat} {M : Mx} {w0 : World} {bo : Nat} {H : List Blk} (i r : Nat) (x : Rat) (K : Nat) (w : World) (hR : MatG R n m (qM M)) (hm : m ≤ 1000) (hi : i < n) (hr : r < n) (hir : i ≠ r) (hL : ∀ j, j < m → L (M i j) ≤ K ∧ L (M r j) ≤ K) (hx : L x ≤ K) (hK : 4 * K + 4 ≤ MX) (hS : St w0 w (mB encR 27 30 bo R H)) :
    Ret Tryd.prog 57 #[(R.getD i zRw).v, (R.getD r zRw).v, aggR (ofQ x)] w fun v w' => v = .tuple #[] ∧ ∃ R', MatG R' n m (qM fun a b => if a = i then M i b - x * M r b else M a b) ∧ St w0 w' (mB encR 27 30 bo R' H) := by
  have hM : MX = 1099511627776 := rfl
  have hvi := hR.v hi
  have hvr := hR.v hr
  obtain ⟨bi, hbi⟩ : ∃ b, b = (R.getD i zRw).b := ⟨_, rfl⟩
  obtain ⟨br, hbr⟩ : ∃ b, b = (R.getD r zRw).b := ⟨_, rfl⟩
  obtain ⟨ci, hci⟩ : ∃ b, b = (R.getD i zRw).cap := ⟨_, rfl⟩
  obtain ⟨cr, hcr⟩ : ∃ b, b = (R.getD r zRw).cap := ⟨_, rfl⟩
  rw [← hbi, ← hci] at hvi
  rw [← hbr, ← hcr] at hvr
  rw [hvi, hvr]
  refine enter Tryd.func57 rfl Tryd.ntmps57 rfl ?_
  repeat (with_reducible first | refine c_seq ?_ | refine c_block ?_ | refine c_skip ?_ | refine x_then ?_ | refine x_block ?_)
  refine c_reg ?_
  refine l_heavy rfl (s_box (new := encR (ofQ x))  rfl rfl hS ?_)
  intro b5 wz1 hS hBz1
  refine l_nil ?_
  repeat (with_reducible first | refine c_seq ?_ | refine c_block ?_ | refine c_skip ?_ | refine x_then ?_ | refine x_block ?_)
  replace hS : St w0 _ ([(b5, 27, encR (ofQ x))] ++ mB encR 27 30 bo R H) := hS
  repeat (with_reducible first | refine c_seq ?_ | refine c_block ?_ | refine c_skip ?_ | refine x_then ?_ | refine x_block ?_)
  refine c_reg ?_
  refine l_pure rfl (s_move  rfl ?_)
  refine l_pure rfl (s_leno  rfl ⟨_, Tryd.underlying30⟩ ?_)
  refine l_pure rfl (s_move  rfl ?_)
  refine l_nil ?_
  repeat (with_reducible first | refine c_seq ?_ | refine c_skip ?_ | refine x_then ?_ | refine x_block ?_)
  refine c_cut1 (fun ρ w' => ∃ R', MatG R' n m (qM (minF M i r x m)) ∧ St w0 w' ([(b5, 27, encR (ofQ x))] ++ mB encR 27 30 bo R' H)) ?_ ?_
  · repeat (with_reducible first | refine c_seq ?_ | refine c_block ?_ | refine c_skip ?_ | refine x_then ?_ | refine x_block ?_)
    refine c_loop (σ := Nat) (fun k ρ w' => k ≤ m ∧ ρ 0 = .slice (some ⟨bi, 0, none⟩) m ci ∧ ρ 1 = .slice (some ⟨br, 0, none⟩) m cr ∧ ρ 5 = .pointer (some ⟨b5, 0, none⟩) ∧ ρ 8 = .int .i64 m ∧ ρ 9 = .int .i64 k ∧
        ∃ R', (R'.getD i zRw).b = bi ∧ (R'.getD r zRw).b = br ∧ MatG R' n m (qM (minF M i r x k)) ∧ St w0 w' ([(b5, 27, encR (ofQ x))] ++ mB encR 27 30 bo R' H)) (fun k => m - k) 0
      ⟨Nat.zero_le _, rfl, rfl, rfl, rfl, rfl, R, hbi.symm, hbr.symm, hR.congr fun a _ b _ => by show ofQ (M a b) = ofQ (minF M i r x 0 a b); unfold minF; rw [if_neg (by omega)], hS⟩ ?_
    clear hS
    rintro k ρ w2 ⟨hk, h0, h1, h5, h8, h9, R', hb1, hb2, hR', hS⟩
    have hli : i < R'.length := by rw [hR'.len]; exact hi
    have hlr : r < R'.length := by rw [hR'.len]; exact hr
    repeat (with_reducible first | refine c_seq ?_ | refine c_block ?_ | refine c_skip ?_ | refine x_then ?_ | refine x_block ?_)
    refine c_reg ?_
    refine l_pure rfl (s_lss  h9 h8 ?_)
    refine l_nil ?_
    repeat (with_reducible first | refine c_seq ?_ | refine c_block ?_ | refine c_skip ?_ | refine x_then ?_ | refine x_block ?_)
    by_cases hlt : k < m
    · refine c_yes rfl (decide_eq_true (by omega)) ?_
      repeat (with_reducible first | refine c_seq ?_ | refine c_block ?_ | refine c_skip ?_ | refine x_then ?_ | refine x_block ?_)
      have hxi : k < (R'.getD i zRw).X.length := by rw [hR'.xlen hi]; exact hlt
      have hxr : k < (R'.getD r zRw).X.length := by rw [hR'.xlen hr]; exact hlt
      have hgi : (R'.getD i zRw).X.getD k zRR = ofQ (M i k) := by rw [hR'.get hi hlt]; show ofQ (minF M i r x k i k) = _; unfold minF; rw [if_neg (by omega)]
      have hgr : (R'.getD r zRw).X.getD k zRR = ofQ (M r k) := by rw [hR'.get hr hlt]; show ofQ (minF M i r x k r k) = _; unfold minF; rw [if_neg (by omega)]
      obtain ⟨hL1, hL2⟩ := hL k hlt
      have hLm := L_mul x (M r k)
      repeat (with_reducible first | refine c_seq ?_ | refine c_block ?_ | refine c_skip ?_ | refine x_then ?_ | refine x_block ?_)
      refine c_reg ?_
      refine l_pure rfl (s_move  h9 ?_)
      refine l_pure rfl (s_asg  rfl ?_)
      refine l_nil ?_
      repeat (with_reducible first | refine c_seq ?_ | refine c_block ?_ | refine c_skip ?_ | refine x_then ?_ | refine x_block ?_)
      refine c_reg ?_
      refine l_pure rfl (s_move  h1 ?_)
      refine l_pure rfl (s_move  rfl ?_)
      refine l_pure rfl (s_ixo (i := k)  rfl rfl (by omega) (by first | omega | (simp; done) | (simp; omega)) si_30 ?_)
      refine l_read rfl (s_mldP [_] (i := r) (j := k) zRR encR_len  rfl vi_27 hS hb2 hlr (by omega) hxr rfl (.inl rfl) ?_)
      rw [hgr]
      refine l_heavy rfl (s_call Tryd.call56 rfl (isZero_ok _ _) ?_)
      rintro _ wc2 ⟨rfl, hBc2⟩
      replace hS := hS.grow hBc2
      refine l_pure rfl (s_not  rfl ?_)
      refine l_nil ?_
      repeat (with_reducible first | refine c_seq ?_ | refine c_block ?_ | refine c_skip ?_ | refine x_then ?_ | refine x_block ?_)
      by_cases hz : M r k = 0
      · refine c_no rfl (by rw [decide_eq_true hz]; rfl) ?_
        repeat (with_reducible first | refine c_seq ?_ | refine c_block ?_ | refine c_skip ?_ | refine x_then ?_ | refine x_block ?_)
        refine c_reg ?_
        refine l_pure rfl (s_add  h9 rfl (IntWalk.i64_in _ (by omega)) ?_)
        refine l_pure rfl (s_move  rfl ?_)
        refine l_nil ?_
        repeat (with_reducible first | refine c_seq ?_ | refine c_block ?_ | refine c_skip ?_ | refine x_then ?_ | refine x_block ?_)
        refine ⟨k + 1, _, rfl, ⟨hlt, by assumption, by assumption, by assumption, by assumption, vi rfl (by omega), R', hb1, hb2, hR'.congr fun a _ b _ => ?_, hS⟩, by omega⟩
        show ofQ (minF M i r x k a b) = ofQ (minF M i r x (k + 1) a b)
        congr 1
        unfold minF
        by_cases g : a = i ∧ b < k
        · rw [if_pos g, if_pos (by omega)]
        · rw [if_neg g]
          by_cases g2 : a = i ∧ b < k + 1
          · obtain rfl : b = k := by omega
            rw [if_pos g2, hz, g2.1, Rat.mul_zero, Rat.sub_eq_add_neg, Rat.neg_zero, Rat.add_zero]
          · rw [if_neg g2]
      · have hmul := fun w => QMultiply_ok (ofQ x) (ofQ (M r k)) w (by rw [Lr_ofQ, Lr_ofQ]; omega)
        rw [toQ_ofQ, toQ_ofQ] at hmul
        have hsub := fun w => QSubtract_ok (ofQ (M i k)) (ofQ (x * M r k)) w (by rw [Lr_ofQ, Lr_ofQ]; omega)
        rw [toQ_ofQ, toQ_ofQ] at hsub
        refine c_yes rfl (by rw [decide_eq_false hz]; rfl) ?_
        repeat (with_reducible first | refine c_seq ?_ | refine c_block ?_ | refine c_skip ?_ | refine x_then ?_ | refine x_block ?_)
        refine c_draw [(0, .pure), (1, .pure), (2, .pure), (3, .pure), (4, .pure), (5, .read), (6, .read), (7, .pure), (8, .pure), (9, .pure), (10, .read), (11, .grow), (12, .grow), (13, .pure), (14, .free)] (by kernel_rfl) (by kernel_rfl) hS ?_
        intro wz3 hS hBz3
        refine w_pure rfl rfl (s_move  h0 ?_)
        refine w_pure rfl rfl (s_move  rfl ?_)
        refine w_pure rfl rfl (s_move  h0 ?_)
        refine w_pure rfl rfl (s_move  rfl ?_)
        refine w_pure rfl rfl (s_ixo (i := k)  rfl rfl (by omega) (by first | omega | (simp; done) | (simp; omega)) si_30 ?_)
        refine w_read rfl rfl (s_mldP [_] (i := i) (j := k) zRR encR_len  rfl vi_27 hS hb1 hli (by omega) hxi rfl (.inl rfl) ?_)
        refine w_read rfl rfl (s_ldo (k := 0)  h5 vi_27 hS rfl rfl rfl (.inl rfl) ?_)
        refine w_pure rfl rfl (s_move  h1 ?_)
        refine w_pure rfl rfl (s_move  rfl ?_)
        refine w_pure rfl rfl (s_ixo (i := k)  rfl rfl (by omega) (by first | omega | (simp; done) | (simp; omega)) si_30 ?_)
        refine w_read rfl rfl (s_mldP [_] (i := r) (j := k) zRR encR_len  rfl vi_27 hS hb2 hlr (by omega) hxr rfl (.inl rfl) ?_)
        rw [hgi, hgr]
        refine w_grow rfl rfl (s_call Tryd.call10 rfl (hmul _) ?_)
        rintro _ wc4 ⟨rfl, hBc4⟩
        replace hS := hS.grow hBc4
        refine ⟨hBc4, ?_⟩
        refine w_grow rfl rfl (s_call Tryd.call72 rfl (hsub _) ?_)
        rintro _ wc5 ⟨rfl, hBc5⟩
        replace hS := hS.grow hBc5
        refine ⟨hBc5, ?_⟩
        refine w_pure rfl rfl (s_ixo (i := k)  rfl rfl (by omega) (by first | omega | (simp; done) | (simp; omega)) si_30 ?_)
        refine w_free rfl rfl (s_mstP [_] (i := i) (j := k) (ofQ (M i k - x * M r k)) encR_len  rfl rfl vi_27 hS hb1 hli (by omega) hxi rfl rfl ?_)
        intro wz6 hS
        refine w_end ?_
        repeat (with_reducible first | refine c_seq ?_ | refine c_block ?_ | refine c_skip ?_ | refine x_then ?_ | refine x_block ?_)
        refine c_reg ?_
        refine l_pure rfl (s_add  h9 rfl (IntWalk.i64_in _ (by omega)) ?_)
        refine l_pure rfl (s_move  rfl ?_)
        refine l_nil ?_
        repeat (with_reducible first | refine c_seq ?_ | refine c_block ?_ | refine c_skip ?_ | refine x_then ?_ | refine x_block ?_)
        refine ⟨k + 1, _, rfl, ⟨hlt, by assumption, by assumption, by assumption, by assumption, vi rfl (by omega), _, ?_, ?_, (hR'.put hi k (ofQ (M i k - x * M r k))).congr fun a _ b _ => ?_, hS⟩, by omega⟩
        · rw [getD_setL _ _ _ hli, if_pos rfl]; exact hb1
        · rw [getD_setL _ _ _ hli, if_neg (fun e => hir e.symm)]; exact hb2
        · show (if a = i ∧ b = k then ofQ (M i k - x * M r k) else ofQ (minF M i r x k a b)) = ofQ (minF M i r x (k + 1) a b)
          unfold minF
          by_cases g : a = i ∧ b = k
          · rw [if_pos g, if_pos (by omega), g.2]
          · rw [if_neg g]
            by_cases g2 : a = i ∧ b < k
            · rw [if_pos g2, if_pos (by omega)]
            · rw [if_neg g2, if_neg (by omega)]
    · refine c_no rfl (decide_eq_false (by omega)) ?_
      repeat (with_reducible first | refine c_seq ?_ | refine c_block ?_ | refine c_skip ?_ | refine x_then ?_ | refine x_block ?_)
      refine c_exit ?_
      repeat (with_reducible first | refine x_then_exit ?_ | refine x_block_exit ?_ | refine x_block_pass rfl ?_)
      repeat (with_reducible first | refine c_seq ?_ | refine c_block ?_ | refine c_skip ?_ | refine x_then ?_ | refine x_block ?_)
      obtain rfl : k = m := by omega
      exact ⟨_, rfl, R', hR', hS⟩
  clear hS
  rintro ρ w2 ⟨R', hR', hS⟩
  repeat (with_reducible first | refine c_seq ?_ | refine c_block ?_ | refine c_skip ?_ | refine x_then ?_ | refine x_block ?_)
  exact r_none rfl ⟨rfl, R', hR'.congr fun a _ b hb => by
    show ofQ (minF M i r x m a b) = ofQ (if a = i then M i b - x * M r b else M a b)
    unfold minF
    congr 1
    by_cases g : a = i
    · rw [if_pos ⟨g, hb⟩, if_pos g]
    · rw [if_neg (fun e => g e.1), if_neg g], hS.drop (List.sublist_cons_self _ _)⟩
def pvI (M : Mx) (c n r : Nat) : Int := if pv M c n r < n then (pv M c n r : Int) else -1
theorem lpivot_ok (v : Value) (vs : List Value) (n m : Nat) (M : Mx) (r c : Nat) (w : World) (hA : Mts encR 3 w v (tabM n m (qM M)) vs) (hr : r ≤ n) (hc : c < m) :
    Ret Tryd.prog 54 #[v, .int .i64 r, .int .i64 c] w fun u w' => u = .int .i64 (pvI M c n r) ∧ Below w.heap.size w w' := by
  have hmx := hA.sl.maxLen
  have hlen := hA.len
  rw [tabM_len] at hlen
  obtain ⟨_, hp2, _, _⟩ := pv_spec M c hr
  have hS := St.init w
  refine enter Tryd.func54 rfl Tryd.ntmps54 rfl ?_
  repeat (with_reducible first | refine c_seq ?_ | refine c_block ?_ | refine c_skip ?_ | refine x_then ?_ | refine x_block ?_)
  refine c_reg ?_
  refine l_pure rfl (s_asg  rfl ?_)
  refine l_nil ?_
  repeat (with_reducible first | refine c_seq ?_ | refine c_block ?_ | refine c_skip ?_ | refine x_then ?_ | refine x_block ?_)
  refine c_reg ?_
  refine l_pure rfl (s_move  rfl ?_)
  refine l_pure rfl (s_asg  rfl ?_)
  refine l_nil ?_
  repeat (with_reducible first | refine c_seq ?_ | refine c_skip ?_ | refine x_then ?_ | refine x_block ?_)
  refine c_cut1 (fun ρ w' => pvI M c n r = -1 ∧ St w w' []) ?_ ?_
  · repeat (with_reducible first | refine c_seq ?_ | refine c_block ?_ | refine c_skip ?_ | refine x_then ?_ | refine x_block ?_)
    refine c_loop (σ := Nat) (fun i ρ w' => r ≤ i ∧ i ≤ n ∧ (∀ l, r ≤ l → l < i → M l c = 0) ∧ ρ 0 = v ∧ ρ 2 = .int .i64 c ∧ ρ 7 = .int .i64 i ∧ St w w' []) (fun i => n - i) r
      ⟨Nat.le_refl _, hr, fun l h1 h2 => absurd h2 (by omega), rfl, rfl, rfl, hS⟩ ?_
    clear hS
    rintro i ρ w2 ⟨hri, hi, hz, h0, h2, h7, hS⟩
    repeat (with_reducible first | refine c_seq ?_ | refine c_block ?_ | refine c_skip ?_ | refine x_then ?_ | refine x_block ?_)
    refine c_reg ?_
    refine l_pure rfl (s_move  h7 ?_)
    refine l_pure rfl (s_move  h0 ?_)
    refine l_pure rfl (s_lenr  rfl (hA.sl.below hS.below) ⟨_, Tryd.underlying24⟩ ?_)
    refine l_pure rfl (s_lss  rfl rfl ?_)
    refine l_nil ?_
    repeat (with_reducible first | refine c_seq ?_ | refine c_block ?_ | refine c_skip ?_ | refine x_then ?_ | refine x_block ?_)
    by_cases hlt : i < n
    · refine c_yes rfl (decide_eq_true (by omega)) ?_
      repeat (with_reducible first | refine c_seq ?_ | refine c_block ?_ | refine c_skip ?_ | refine x_then ?_ | refine x_block ?_)
      have hrow := hA.row i (by rw [tabM_len]; exact hlt)
      rw [tabM_row _ hlt] at hrow
      have htl := tab_len m (qM M i)
      have hg : (tab m (qM M i)).getD c zRR = ofQ (M i c) := tab_get _ _ hc
      repeat (with_reducible first | refine c_seq ?_ | refine c_block ?_ | refine c_skip ?_ | refine x_then ?_ | refine x_block ?_)
      refine c_reg ?_
      refine l_pure rfl (s_move  h0 ?_)
      refine l_pure rfl (s_move  h7 ?_)
      refine l_pure rfl (s_ixr (i := i)  rfl rfl (hA.sl.below hS.below) (by omega) (by first | omega | (simp; done) | (simp; omega)) si_24 ?_)
      refine l_read rfl (s_lde (i := i) undef  rfl vi_30 (hA.sl.below hS.below) (by first | omega | (simp; done) | (simp; omega)) rfl rfl (.inr rfl) ?_)
      refine l_pure rfl (s_move  h2 ?_)
      refine l_pure rfl (s_ixr (i := c)  rfl rfl (hrow.below hS.below) (by omega) (by first | omega | (simp; done) | (simp; omega)) si_30 ?_)
      refine l_read rfl (s_lde (i := c) zRR  rfl vi_27 (hrow.below hS.below) (by first | omega | (simp; done) | (simp; omega)) rfl rfl (.inl rfl) ?_)
      rw [hg]
      refine l_heavy rfl (s_call Tryd.call56 rfl (isZero_ok _ _) ?_)
      rintro _ wc1 ⟨rfl, hBc1⟩
      replace hS := hS.grow hBc1
      refine l_pure rfl (s_not  rfl ?_)
      refine l_nil ?_
      repeat (with_reducible first | refine c_seq ?_ | refine c_block ?_ | refine c_skip ?_ | refine x_then ?_ | refine x_block ?_)
      by_cases hne : M i c = 0
      · refine c_no rfl (by rw [decide_eq_true hne]; rfl) ?_
        repeat (with_reducible first | refine c_seq ?_ | refine c_block ?_ | refine c_skip ?_ | refine x_then ?_ | refine x_block ?_)
        refine c_reg ?_
        refine l_pure rfl (s_move  h7 ?_)
        refine l_pure rfl (s_add  rfl rfl (IntWalk.i64_in _ (by omega)) ?_)
        refine l_pure rfl (s_asg  rfl ?_)
        refine l_nil ?_
        repeat (with_reducible first | refine c_seq ?_ | refine c_block ?_ | refine c_skip ?_ | refine x_then ?_ | refine x_block ?_)
        exact ⟨i + 1, _, rfl, ⟨by omega, hlt, fun l h1 h2 => by
          by_cases e : l = i
          · rw [e]; exact hne
          · exact hz l h1 (by omega), by assumption, by assumption, vi rfl (by omega), hS⟩, by omega⟩
      · refine c_yes rfl (by rw [decide_eq_false hne]; rfl) ?_
        repeat (with_reducible first | refine c_seq ?_ | refine c_block ?_ | refine c_skip ?_ | refine x_then ?_ | refine x_block ?_)
        have hp : pv M c n r = i := pv_uniq hri hi hz fun _ => hne
        have he : pvI M c n r = i := by unfold pvI; rw [hp, if_pos hlt]
        rw [he]
        repeat (with_reducible first | refine c_seq ?_ | refine c_block ?_ | refine c_skip ?_ | refine x_then ?_ | refine x_block ?_)
        refine c_reg ?_
        refine l_pure rfl (s_move  h7 ?_)
        refine l_pure rfl (s_asg  rfl ?_)
        refine l_nil ?_
        repeat (with_reducible first | refine c_seq ?_ | refine c_block ?_ | refine c_skip ?_ | refine x_then ?_ | refine x_block ?_)
        refine c_ret ?_
        repeat (with_reducible first | refine x_then_ret ?_ | refine x_block_ret ?_)
        refine r_one rfl rfl ?_
        exact ⟨rfl, hS.below⟩
    · refine c_no rfl (decide_eq_false (by omega)) ?_
      repeat (with_reducible first | refine c_seq ?_ | refine c_block ?_ | refine c_skip ?_ | refine x_then ?_ | refine x_block ?_)
      refine c_exit ?_
      repeat (with_reducible first | refine x_then_exit ?_ | refine x_block_exit ?_ | refine x_block_pass rfl ?_)
      repeat (with_reducible first | refine c_seq ?_ | refine c_block ?_ | refine c_skip ?_ | refine x_then ?_ | refine x_block ?_)
      obtain rfl : i = n := by omega
      have hp : pv M c i r = i := pv_uniq hri hi hz fun h => absurd h (Nat.lt_irrefl _)
      exact ⟨_, rfl, by unfold pvI; rw [hp, if_neg (Nat.lt_irrefl _)], hS⟩
  clear hS
  rintro ρ w2 ⟨he, hS⟩
  repeat (with_reducible first | refine c_seq ?_ | refine c_block ?_ | refine c_skip ?_ | refine x_then ?_ | refine x_block ?_)
  rw [he]
  repeat (with_reducible first | refine c_seq ?_ | refine c_block ?_ | refine c_skip ?_ | refine x_then ?_ | refine x_block ?_)
  refine c_reg ?_
  refine l_pure rfl (s_asg  rfl ?_)
  refine l_nil ?_
  repeat (with_reducible first | refine c_seq ?_ | refine c_block ?_ | refine c_skip ?_ | refine x_then ?_ | refine x_block ?_)
  refine c_ret ?_
  repeat (with_reducible first | refine x_then_ret ?_ | refine x_block_ret ?_)
  refine r_one rfl rfl ?_
  exact ⟨rfl, hS.below⟩
end Go.Proofs.YtblfipdfklpmmaaDoor
namespace Go.Proofs.YtblfipdfklpmmaaDoor
open Go Go.RowKit Go.Sx
def nI (L : List Nat) : List Int := L.map fun i : Nat => (i : Int)
theorem nI_len (L : List Nat) : (nI L).length = L.length := List.length_map _
theorem nI_snoc (L : List Nat) (c : Nat) : nI (L ++ [c]) = nI L ++ [(c : Int)] := by unfold nI; rw [List.map_append]; rfl
def BB (K r : Nat) : Nat := 4 ^ r * (K + 1)
theorem BB_succ (K r : Nat) : BB K (r + 1) = 4 * BB K r := by unfold BB; rw [Nat.pow_succ]; rw [Nat.mul_comm (4 ^ r) 4, Nat.mul_assoc]
theorem BB_mono (K : Nat) {r s : Nat} (h : r ≤ s) : BB K r ≤ BB K s := Nat.mul_le_mul_right _ (Nat.pow_le_pow_right (by decide) h)
theorem L_swp {M : Mx} {n m r p b : Nat} (hp : p < n) (hr : r < n) (h : ∀ i, i < n → ∀ j, j < m → L (M i j) ≤ b) : ∀ i, i < n → ∀ j, j < m → L (swpR M r p i j) ≤ b := by
  intro i hi j hj
  unfold swpR
  split
  · exact h _ hp j hj
  · split
    · exact h _ hr j hj
    · exact h _ hi j hj
theorem rdc_L {n m : Nat} {M : Mx} {K : Nat} (h : ∀ i, i < n → ∀ j, j < m → L (M i j) ≤ K) : ∀ c, c ≤ m → (∀ i, i < n → ∀ j, j < m → L ((rdc n M c).M i j) + 1 ≤ BB K (rdc n M c).P.length) ∧ L (rdc n M c).d ≤ BB K (rdc n M c).P.length
  | 0, _ => by
    refine ⟨fun i hi j hj => ?_, ?_⟩
    · have := h i hi j hj
      show L (M i j) + 1 ≤ BB K 0
      unfold BB; omega
    · show L 1 ≤ BB K 0
      have : L (((1 : Int) : Rat)) ≤ 1 := L_int 1 (by decide) (by decide)
      unfold BB
      have e : ((1 : Int) : Rat) = 1 := rfl
      rw [e] at this; omega
  | c + 1, hc => by
    obtain ⟨h1, h2⟩ := rdc_L h c (by omega)
    show (∀ i, i < n → ∀ j, j < m → L ((rstp n c (rdc n M c)).M i j) + 1 ≤ BB K (rstp n c (rdc n M c)).P.length) ∧ L (rstp n c (rdc n M c)).d ≤ BB K (rstp n c (rdc n M c)).P.length
    have hlen := (rinv n M c).len
    generalize rdc n M c = s at *
    obtain ⟨q1, _, _, _⟩ := pv_spec s.M c hlen
    unfold rstp
    by_cases g : pv s.M c n s.P.length < n
    · rw [if_pos g]
      generalize pv s.M c n s.P.length = p at *
      dsimp only
      rw [List.length_append, List.length_singleton, BB_succ]
      have hs := L_swp (M := s.M) (m := m) (r := s.P.length) (b := BB K s.P.length - 1) g (by omega) (fun i hi j hj => by have := h1 i hi j hj; omega)
      have hap := h1 p g c (by omega)
      refine ⟨fun i hi j hj => ?_, ?_⟩
      · have hr := hs s.P.length (by omega) j hj
        have hd := L_div (swpR s.M s.P.length p s.P.length j) (s.M p c)
        by_cases e : i = s.P.length
        · rw [e, elim_at]; omega
        · rw [elim_ne _ e]
          have hi' := hs i hi j hj
          have hc' := hs i hi c (by omega)
          have hm := L_mul (swpR s.M s.P.length p i c) (swpR s.M s.P.length p s.P.length j / s.M p c)
          have hsb := L_sub (swpR s.M s.P.length p i j) (swpR s.M s.P.length p i c * (swpR s.M s.P.length p s.P.length j / s.M p c))
          omega
      · split
        · have := L_mul s.d (s.M p c); omega
        · have := L_mul (-s.d) (s.M p c)
          have := L_neg s.d
          omega
    · rw [if_neg g]; exact ⟨h1, h2⟩
/-- What stands in the matrix while the pivot's row is divided, and while its multiples are taken off. -/
def divF (X : Mx) (r : Nat) (a : Rat) (k : Nat) : Mx := fun i j => if i = r ∧ j < k then X r j / a else X i j
def elF (X : Mx) (r c : Nat) (a : Rat) (k : Nat) : Mx := fun i j => if i = r then X r j / a else if i < k then X i j - X i c * (X r j / a) else X i j
theorem elF_elim (X : Mx) (r c : Nat) (a : Rat) {n i : Nat} (hi : i < n) (j : Nat) : elF X r c a n i j = elim X r a (fun i => X i c) i j := by
  unfold elF
  by_cases e : i = r
  · rw [if_pos e, e, elim_at]
  · rw [if_neg e, if_pos hi, elim_ne _ e]
theorem swp_map (M : Mx) (r p a b : Nat) : (if a = p then M r b else if a = r then M p b else M a b) = swpR M r p a b := by
  by_cases h2 : a = p
  · rw [if_pos h2, h2, swpR_at2]
  · rw [if_neg h2]
    by_cases h1 : a = r
    · rw [if_pos h1, h1, swpR_at]
    · rw [if_neg h1, swpR_ne M h1 h2]
theorem mB_pull {α : Type} {enc : α → List Value} {tR tS : TypeId} {bo : Nat} {R : List (Rw α)} (pre H : List Blk) : (pre ++ mB enc tR tS bo R H).Perm (mB enc tR tS bo R (pre ++ H)) := by
  unfold mB
  refine List.perm_middle.trans (List.Perm.cons _ ?_)
  rw [← List.append_assoc, ← List.append_assoc]
  exact List.Perm.append_right _ List.perm_append_comm
theorem rstp_no {n c : Nat} {M : Mx} (h : ¬ pv (rdc n M c).M c n (rdc n M c).P.length < n) : rdc n M (c + 1) = rdc n M c := by
  show rstp n c (rdc n M c) = _
  unfold rstp; rw [if_neg h]
theorem rstp_yes {n c : Nat} {M : Mx} (h : pv (rdc n M c).M c n (rdc n M c).P.length < n) : rdc n M (c + 1) = ⟨elim (swpR (rdc n M c).M (rdc n M c).P.length (pv (rdc n M c).M c n (rdc n M c).P.length)) (rdc n M c).P.length ((rdc n M c).M (pv (rdc n M c).M c n (rdc n M c).P.length) c) fun i => swpR (rdc n M c).M (rdc n M c).P.length (pv (rdc n M c).M c n (rdc n M c).P.length) i c, (rdc n M c).P ++ [c],
      (if pv (rdc n M c).M c n (rdc n M c).P.length = (rdc n M c).P.length then (rdc n M c).d else -(rdc n M c).d) * (rdc n M c).M (pv (rdc n M c).M c n (rdc n M c).P.length) c⟩ := by
  show rstp n c (rdc n M c) = _
  unfold rstp; rw [if_pos h]
set_option maxHeartbeats 8000000 in
theorem lreduce_ok {R0 : List (Rw RR)} {n m : Nat} {M : Mx} {w0 : World} {bo : Nat} {H : List Blk} (cols K : Nat) (w : World) (hR0 : MatG R0 n m (qM M)) (hn : n ≤ 1000) (hm : m ≤ 1000) (hcm : cols ≤ m) (hL : ∀ i, i < n → ∀ j, j < m → L (M i j) ≤ K) (hK : 8 * BB K n ≤ MX) (hS : St w0 w (mB encR 27 30 bo R0 H)) :
    Ret Tryd.prog 31 #[.slice (some ⟨bo, 0, none⟩) n n, .int .i64 cols] w fun v w' => ∃ vp LP R', v = .tuple #[vp, aggR (ofQ (rdc n M cols).d)] ∧ Gl enI 3 1 vp (nI (rdc n M cols).P) LP ∧ MatG R' n m (qM (rdc n M cols).M) ∧ St w0 w' (mB encR 27 30 bo R' (H ++ LP)) := by
  have hM : MX = 1099511627776 := rfl
  refine enter Tryd.func31 rfl Tryd.ntmps31 rfl ?_
  repeat (with_reducible first | refine c_seq ?_ | refine c_block ?_ | refine c_skip ?_ | refine x_then ?_ | refine x_block ?_)
  refine c_reg ?_
  refine l_pure rfl (s_asg  rfl ?_)
  refine l_heavy rfl (s_alloc  vi_27 hS ?_)
  intro b5 wz1 hS hBz1
  refine l_nil ?_
  repeat (with_reducible first | refine c_seq ?_ | refine c_block ?_ | refine c_skip ?_ | refine x_then ?_ | refine x_block ?_)
  refine c_reg ?_
  refine l_pure rfl (s_asg  rfl ?_)
  refine l_nil ?_
  repeat (with_reducible first | refine c_seq ?_ | refine c_block ?_ | refine c_skip ?_ | refine x_then ?_ | refine x_block ?_)
  refine c_reg ?_
  refine l_heavy rfl (s_call Tryd.call32 rfl (QInt_ok 1 _ (by decide) (by decide)) ?_)
  rintro _ wc2 ⟨rfl, hBc2⟩
  replace hS := hS.grow hBc2
  refine l_heavy rfl (s_alloc  vi_27 hS ?_)
  intro b7 wz3 hS hBz3
  refine l_heavy rfl (s_sta (k := 0)  rfl rfl vi_27 hS rfl rfl rfl (Nat.le_of_ble_eq_true rfl) rfl ?_)
  intro wz4 hS
  refine l_nil ?_
  repeat (with_reducible first | refine c_seq ?_ | refine c_block ?_ | refine c_skip ?_ | refine x_then ?_ | refine x_block ?_)
  refine c_reg ?_
  refine l_pure rfl (s_asg  rfl ?_)
  refine l_nil ?_
  repeat (with_reducible first | refine c_seq ?_ | refine c_skip ?_ | refine x_then ?_ | refine x_block ?_)
  rw [← List.append_nil H] at hS
  refine c_cut1 (fun ρ w' => ρ 5 = .pointer (some ⟨b5, 0, none⟩) ∧ ρ 7 = .pointer (some ⟨b7, 0, none⟩) ∧ ∃ vp LP R, ρ 6 = vp ∧ Gl enI 3 1 vp (nI (rdc n M cols).P) LP ∧ MatG R n m (qM (rdc n M cols).M) ∧ St w0 w' ([(b7, 27, encR (ofQ (rdc n M cols).d)), (b5, 27, encR zRR)] ++ mB encR 27 30 bo R (H ++ LP))) ?_ ?_
  · repeat (with_reducible first | refine c_seq ?_ | refine c_block ?_ | refine c_skip ?_ | refine x_then ?_ | refine x_block ?_)
    refine c_loop (σ := Nat) (fun c ρ w' => c ≤ cols ∧ ρ 0 = .slice (some ⟨bo, 0, none⟩) n n ∧ ρ 1 = .int .i64 cols ∧ ρ 5 = .pointer (some ⟨b5, 0, none⟩) ∧ ρ 7 = .pointer (some ⟨b7, 0, none⟩) ∧ ρ 8 = .int .i64 c ∧
        ∃ vp LP R, ρ 6 = vp ∧ Gl enI 3 1 vp (nI (rdc n M c).P) LP ∧ MatG R n m (qM (rdc n M c).M) ∧ St w0 w' ([(b7, 27, encR (ofQ (rdc n M c).d)), (b5, 27, encR zRR)] ++ mB encR 27 30 bo R (H ++ LP))) (fun c => cols - c) 0
      ⟨Nat.zero_le _, rfl, rfl, rfl, rfl, rfl, _, [], R0, rfl, Gl.nil _ _ _, hR0, hS⟩ ?_
    clear hS
    rintro c ρ w2 ⟨hc, h0, h1, h5, h7, h8, vp, LP, R, h6, hG, hR, hS⟩
    have hlen := (rinv n M c).len
    obtain ⟨hB1, hB2⟩ := rdc_L hL c (by omega)
    obtain ⟨av, cv, hvp⟩ := hG.len
    rw [nI_len] at hvp
    obtain ⟨r, hr⟩ : ∃ r, r = (rdc n M c).P.length := ⟨_, rfl⟩
    rw [← hr] at hlen hB1 hB2 hvp
    subst hvp
    repeat (with_reducible first | refine c_seq ?_ | refine c_block ?_ | refine c_skip ?_ | refine x_then ?_ | refine x_block ?_)
    by_cases hcl : c < cols
    · by_cases hrn : r < n
      · repeat (with_reducible first | refine c_seq ?_ | refine c_block ?_ | refine c_skip ?_ | refine x_then ?_ | refine x_block ?_)
        refine c_reg ?_
        refine l_pure rfl (s_move  h8 ?_)
        refine l_pure rfl (s_move  h1 ?_)
        refine l_pure rfl (s_lss  rfl rfl ?_)
        refine l_pure rfl (s_move  rfl ?_)
        refine l_pure (gd_yes 18 (by kernel_rfl) rfl (decide_eq_true (by omega))) (s_move  h6 ?_)
        refine l_pure (gd_yes 18 (by kernel_rfl) rfl (decide_eq_true (by omega))) (s_leno  rfl ⟨_, Tryd.underlying31⟩ ?_)
        refine l_pure (gd_yes 18 (by kernel_rfl) rfl (decide_eq_true (by omega))) (s_move  h0 ?_)
        refine l_pure (gd_yes 18 (by kernel_rfl) rfl (decide_eq_true (by omega))) (s_leno  rfl ⟨_, Tryd.underlying24⟩ ?_)
        refine l_pure (gd_yes 18 (by kernel_rfl) rfl (decide_eq_true (by omega))) (s_lss  rfl rfl ?_)
        refine l_pure rfl (s_pick (vb rfl (decide_eq_true (by omega))) rfl ?_)
        refine l_nil ?_
        repeat (with_reducible first | refine c_seq ?_ | refine c_block ?_ | refine c_skip ?_ | refine x_then ?_ | refine x_block ?_)
        refine c_yes rfl (decide_eq_true (by omega)) ?_
        repeat (with_reducible first | refine c_seq ?_ | refine c_block ?_ | refine c_skip ?_ | refine x_then ?_ | refine x_block ?_)
        have hmts := hR.mts (hS.drop (List.sublist_append_right _ _)) encR_len (cap := n) (Nat.le_refl _) (by omega)
        repeat (with_reducible first | refine c_seq ?_ | refine c_block ?_ | refine c_skip ?_ | refine x_then ?_ | refine x_block ?_)
        refine c_reg ?_
        refine l_pure rfl (s_move  h6 ?_)
        refine l_pure rfl (s_leno  rfl ⟨_, Tryd.underlying31⟩ ?_)
        refine l_pure rfl (s_asg  rfl ?_)
        refine l_nil ?_
        repeat (with_reducible first | refine c_seq ?_ | refine c_block ?_ | refine c_skip ?_ | refine x_then ?_ | refine x_block ?_)
        refine c_reg ?_
        refine l_pure rfl (s_move  h0 ?_)
        refine l_pure rfl (s_move  rfl ?_)
        refine l_pure rfl (s_move  h8 ?_)
        refine l_heavy rfl (s_call Tryd.call54 rfl (lpivot_ok _ _ n m (rdc n M c).M r c _ hmts (by omega) (by omega)) ?_)
        rintro _ wc5 ⟨rfl, hBc5⟩
        replace hS := hS.grow hBc5
        refine l_pure rfl (s_asg  rfl ?_)
        refine l_nil ?_
        repeat (with_reducible first | refine c_seq ?_ | refine c_block ?_ | refine c_skip ?_ | refine x_then ?_ | refine x_block ?_)
        refine c_reg ?_
        refine l_pure rfl (s_move  rfl ?_)
        refine l_pure rfl (s_lss  rfl rfl ?_)
        refine l_nil ?_
        repeat (with_reducible first | refine c_seq ?_ | refine c_block ?_ | refine c_skip ?_ | refine x_then ?_ | refine x_block ?_)
        obtain ⟨p, hp⟩ : ∃ p, p = pv (rdc n M c).M c n r := ⟨_, rfl⟩
        have hpI : pvI (rdc n M c).M c n r = if p < n then (p : Int) else -1 := by rw [hp]; rfl
        by_cases hpn : p < n
        · rw [if_pos hpn] at hpI
          refine c_no rfl (decide_eq_false (by rw [hpI]; omega)) ?_
          repeat (with_reducible first | refine c_seq ?_ | refine c_block ?_ | refine c_skip ?_ | refine x_then ?_ | refine x_block ?_)
          have hp3 := pv_spec (rdc n M c).M c (n := n) (r := r) (by omega)
          rw [← hp] at hp3
          obtain ⟨hrp, _, _, ha⟩ := hp3
          replace ha := ha hpn
          have hyes := rstp_yes (n := n) (c := c) (M := M) (by rw [← hr, ← hp]; exact hpn)
          rw [← hr, ← hp] at hyes
          obtain ⟨s, hs⟩ : ∃ s, s = rdc n M c := ⟨_, rfl⟩
          rw [← hs] at hyes hB1 hB2 hR hS hG ha hr
          obtain ⟨a, ha'⟩ : ∃ a, a = s.M p c := ⟨_, rfl⟩
          obtain ⟨X, hX⟩ : ∃ X, X = swpR s.M r p := ⟨_, rfl⟩
          obtain ⟨d1, hd1⟩ : ∃ d1 : Rat, d1 = if p = r then s.d else -s.d := ⟨_, rfl⟩
          rw [← ha', ← hX, ← hd1] at hyes
          rw [← ha'] at ha
          have hbm := BB_mono K (r := r + 1) (s := n) hrn
          rw [BB_succ] at hbm
          obtain ⟨b, hb⟩ : ∃ b, b = BB K r := ⟨_, rfl⟩
          rw [← hb] at hB1 hB2 hbm
          have hLs : ∀ i, i < n → ∀ j, j < m → L (s.M i j) ≤ b - 1 := fun i hi j hj => by have := hB1 i hi j hj; omega
          have hLX : ∀ i, i < n → ∀ j, j < m → L (X i j) ≤ b - 1 := by rw [hX]; exact L_swp hpn hrn hLs
          have hLa : L a ≤ b - 1 := by rw [ha']; exact hLs p hpn c (by omega)
          have hb1 : 1 ≤ b := by have := hB1 p hpn c (by omega); omega
          have hLd : L d1 ≤ b := by
            rw [hd1]
            split
            · exact hB2
            · rw [L_neg]; exact hB2
          have hXa : X r c = a := by rw [hX, ha', swpR_at]
          rw [hpI]
          repeat (with_reducible first | refine c_seq ?_ | refine c_block ?_ | refine c_skip ?_ | refine x_then ?_ | refine x_block ?_)
          refine c_reg ?_
          refine l_pure rfl (s_move  rfl ?_)
          refine l_pure rfl (s_move  rfl ?_)
          refine l_pure rfl (s_neq  rfl rfl ?_)
          refine l_nil ?_
          repeat (with_reducible first | refine c_seq ?_ | refine c_block ?_ | refine c_skip ?_ | refine x_then ?_ | refine x_block ?_)
          refine c_cut1 (fun ρ w' => ρ 0 = .slice (some ⟨bo, 0, none⟩) n n ∧ ρ 1 = .int .i64 cols ∧ ρ 5 = .pointer (some ⟨b5, 0, none⟩) ∧ ρ 6 = .slice av r cv ∧ ρ 7 = .pointer (some ⟨b7, 0, none⟩) ∧ ρ 8 = .int .i64 c ∧ ρ 9 = .int .i64 r ∧
            ∃ R, MatG R n m (qM X) ∧ St w0 w' ([(b7, 27, encR (ofQ d1)), (b5, 27, encR zRR)] ++ mB encR 27 30 bo R (H ++ LP))) ?_ ?_
          · have hlr : r < R.length := by rw [hR.len]; exact hrn
            have hlp : p < R.length := by rw [hR.len]; exact hpn
            by_cases hpr : p = r
            · have eX : X = s.M := by rw [hX, hpr, swpR_self]
              have ed : d1 = s.d := by rw [hd1, if_pos hpr]
              refine c_no rfl (decide_eq_false (by omega)) ?_
              repeat (with_reducible first | refine c_seq ?_ | refine c_block ?_ | refine c_skip ?_ | refine x_then ?_ | refine x_block ?_)
              rw [eX, ed]
              exact ⟨_, rfl, by assumption, by assumption, by assumption, by assumption, by assumption, by assumption, rfl, R, hR, hS⟩
            · have ed : d1 = -s.d := by rw [hd1, if_neg hpr]
              have hR2 := (hR.swp hrn hpn).congr (g := qM X) fun i _ j _ => by
                rw [hX]
                show (if i = p then ofQ (s.M r j) else if i = r then ofQ (s.M p j) else ofQ (s.M i j)) = ofQ (swpR s.M r p i j)
                rw [← swp_map]
                split
                · rfl
                · split <;> rfl
              have hneg := fun w => QNegate_ok (ofQ s.d) w (by rw [Lr_ofQ]; omega)
              rw [toQ_ofQ] at hneg
              refine c_yes rfl (decide_eq_true (by omega)) ?_
              repeat (with_reducible first | refine c_seq ?_ | refine c_block ?_ | refine c_skip ?_ | refine x_then ?_ | refine x_block ?_)
              refine c_draw [(0, .pure), (1, .pure), (2, .pure), (3, .pure), (4, .pure), (5, .pure), (6, .pure), (7, .read), (8, .pure), (9, .pure), (10, .pure), (11, .read), (12, .pure), (13, .free), (14, .pure), (15, .free)] (by kernel_rfl) (by kernel_rfl) hS ?_
              intro wz6 hS hBz6
              refine w_pure rfl rfl (s_move  h0 ?_)
              refine w_pure rfl rfl (s_move  rfl ?_)
              refine w_pure rfl rfl (s_move  h0 ?_)
              refine w_pure rfl rfl (s_move  rfl ?_)
              refine w_pure rfl rfl (s_move  h0 ?_)
              refine w_pure rfl rfl (s_move  rfl ?_)
              refine w_pure rfl rfl (s_ixo (i := r)  rfl rfl (by omega) (by first | omega | (simp; done) | (simp; omega)) si_24 ?_)
              refine w_read rfl rfl (s_mrowP [_, _]  rfl vi_30 hS (by omega) hlr ?_)
              refine w_pure rfl rfl (s_move  h0 ?_)
              refine w_pure rfl rfl (s_move  rfl ?_)
              refine w_pure rfl rfl (s_ixo (i := p)  rfl rfl (by omega) (by first | omega | (simp; done) | (simp; omega)) si_24 ?_)
              refine w_read rfl rfl (s_mrowP [_, _]  rfl vi_30 hS (by omega) hlp ?_)
              refine w_pure rfl rfl (s_ixo (i := p)  rfl rfl (by omega) (by first | omega | (simp; done) | (simp; omega)) si_24 ?_)
              refine w_free rfl rfl (s_mrowstP [_, _] (i := p)  rfl rfl vi_30 hS (by omega) (by rw [List.length_map]; exact hlp) (Rw_one _) ?_)
              intro wz7 hS
              refine w_pure rfl rfl (s_ixo (i := r)  rfl rfl (by omega) (by first | omega | (simp; done) | (simp; omega)) si_24 ?_)
              refine w_free rfl rfl (s_mrowstP [_, _] (i := r)  rfl rfl vi_30 hS (by omega) (by rw [List.length_set, List.length_map]; exact hlr) (Rw_one _) ?_)
              intro wz8 hS
              refine w_end ?_
              repeat (with_reducible first | refine c_seq ?_ | refine c_block ?_ | refine c_skip ?_ | refine x_then ?_ | refine x_block ?_)
              rw [List.set_comm _ _ hpr] at hS
              have hS2 := mB_swpP [_, _] hlr hlp hS
              clear hS
              rename _ => hS
              repeat (with_reducible first | refine c_seq ?_ | refine c_block ?_ | refine c_skip ?_ | refine x_then ?_ | refine x_block ?_)
              refine c_reg ?_
              refine l_read rfl (s_ldo (k := 0)  h7 vi_27 hS rfl rfl rfl (.inl rfl) ?_)
              refine l_heavy rfl (s_call Tryd.call16 rfl (hneg _) ?_)
              rintro _ wc9 ⟨rfl, hBc9⟩
              replace hS := hS.grow hBc9
              refine l_heavy rfl (s_sta (k := 0)  h7 rfl vi_27 hS rfl rfl rfl (Nat.le_of_ble_eq_true rfl) rfl ?_)
              intro wz10 hS
              refine l_nil ?_
              repeat (with_reducible first | refine c_seq ?_ | refine c_block ?_ | refine c_skip ?_ | refine x_then ?_ | refine x_block ?_)
              rw [ed]
              exact ⟨_, rfl, by assumption, by assumption, by assumption, by assumption, by assumption, by assumption, rfl, _, hR2, hS⟩
          clear hS hR
          rintro ρ w3 ⟨h0, h1, h5, h6, h7, h8, h9, R, hR, hS⟩
          have hlr : r < R.length := by rw [hR.len]; exact hrn
          have hxr := hR.xlen hrn
          have hgr : (R.getD r zRw).X.getD c zRR = ofQ a := by rw [hR.get hrn (by omega)]; show ofQ (X r c) = _; rw [hXa]
          repeat (with_reducible first | refine c_seq ?_ | refine c_block ?_ | refine c_skip ?_ | refine x_then ?_ | refine x_block ?_)
          refine c_reg ?_
          refine l_pure rfl (s_move  h0 ?_)
          refine l_pure rfl (s_move  h9 ?_)
          refine l_pure rfl (s_ixo (i := r)  rfl rfl (by omega) (by first | omega | (simp; done) | (simp; omega)) si_24 ?_)
          refine l_read rfl (s_mrowP [_, _]  rfl vi_30 hS (by omega) hlr ?_)
          refine l_pure rfl (s_move  h8 ?_)
          refine l_pure rfl (s_ixo (i := c)  rfl rfl (by omega) (by first | omega | (simp; done) | (simp; omega)) si_30 ?_)
          refine l_read rfl (s_mldP [_, _] (i := r) (j := c) zRR encR_len  rfl vi_27 hS rfl hlr (by omega) (by omega) rfl (.inl rfl) ?_)
          refine l_heavy rfl (s_alloc  vi_27 hS ?_)
          intro b11 wz11 hS hBz11
          refine l_heavy rfl (s_sta (k := 0)  rfl rfl vi_27 hS rfl rfl rfl (Nat.le_of_ble_eq_true rfl) rfl ?_)
          intro wz12 hS
          refine l_nil ?_
          repeat (with_reducible first | refine c_seq ?_ | refine c_block ?_ | refine c_skip ?_ | refine x_then ?_ | refine x_block ?_)
          rw [hgr] at hS
          have hmul := fun w => QMultiply_ok (ofQ d1) (ofQ a) w (by rw [Lr_ofQ, Lr_ofQ]; omega)
          rw [toQ_ofQ, toQ_ofQ] at hmul
          repeat (with_reducible first | refine c_seq ?_ | refine c_block ?_ | refine c_skip ?_ | refine x_then ?_ | refine x_block ?_)
          refine c_reg ?_
          refine l_read rfl (s_ldo (k := 1)  h7 vi_27 hS rfl rfl rfl (.inl rfl) ?_)
          refine l_read rfl (s_ldo (k := 0)  rfl vi_27 hS rfl rfl rfl (.inl rfl) ?_)
          refine l_heavy rfl (s_call Tryd.call10 rfl (hmul _) ?_)
          rintro _ wc13 ⟨rfl, hBc13⟩
          replace hS := hS.grow hBc13
          refine l_heavy rfl (s_sta (k := 1)  h7 rfl vi_27 hS rfl rfl rfl (Nat.le_of_ble_eq_true rfl) rfl ?_)
          intro wz14 hS
          refine l_nil ?_
          repeat (with_reducible first | refine c_seq ?_ | refine c_block ?_ | refine c_skip ?_ | refine x_then ?_ | refine x_block ?_)
          refine c_forget (fun ρ' => ρ' 0 = .slice (some ⟨bo, 0, none⟩) n n ∧ ρ' 1 = .int .i64 cols ∧ ρ' 5 = .pointer (some ⟨b5, 0, none⟩) ∧ ρ' 6 = .slice av r cv ∧ ρ' 7 = .pointer (some ⟨b7, 0, none⟩) ∧ ρ' 8 = .int .i64 c ∧ ρ' 9 = .int .i64 r ∧ ρ' 11 = .pointer (some ⟨b11, 0, none⟩) ∧ True) ⟨h0, h1, h5, h6, h7, h8, h9, rfl, trivial⟩ ?_
          rintro ρk15 ⟨hk15_0, hk15_1, hk15_5, hk15_6, hk15_7, hk15_8, hk15_9, hk15_11, -⟩
          repeat (with_reducible first | refine c_seq ?_ | refine c_block ?_ | refine c_skip ?_ | refine x_then ?_ | refine x_block ?_)
          refine c_reg ?_
          refine l_pure rfl (s_move  hk15_0 ?_)
          refine l_pure rfl (s_move  hk15_9 ?_)
          refine l_pure rfl (s_ixo (i := r)  rfl rfl (by omega) (by first | omega | (simp; done) | (simp; omega)) si_24 ?_)
          refine l_read rfl (s_mrowP [_, _, _]  rfl vi_30 hS (by omega) hlr ?_)
          refine l_pure rfl (s_leno  rfl ⟨_, Tryd.underlying30⟩ ?_)
          refine l_pure rfl (s_move  rfl ?_)
          refine l_nil ?_
          repeat (with_reducible first | refine c_seq ?_ | refine c_skip ?_ | refine x_then ?_ | refine x_block ?_)
          refine c_cut1 (fun ρ w' => ρ 0 = .slice (some ⟨bo, 0, none⟩) n n ∧ ρ 1 = .int .i64 cols ∧ ρ 5 = .pointer (some ⟨b5, 0, none⟩) ∧ ρ 6 = .slice av r cv ∧ ρ 7 = .pointer (some ⟨b7, 0, none⟩) ∧ ρ 8 = .int .i64 c ∧ ρ 9 = .int .i64 r ∧
            ∃ R, MatG R n m (qM (divF X r a m)) ∧ St w0 w' ([(b11, 27, encR (ofQ a)), (b7, 27, encR (ofQ (d1 * a))), (b5, 27, encR zRR)] ++ mB encR 27 30 bo R (H ++ LP))) ?_ ?_
          · repeat (with_reducible first | refine c_seq ?_ | refine c_block ?_ | refine c_skip ?_ | refine x_then ?_ | refine x_block ?_)
            refine c_loop (σ := Nat) (fun k ρ w' => k ≤ m ∧ ρ 0 = .slice (some ⟨bo, 0, none⟩) n n ∧ ρ 1 = .int .i64 cols ∧ ρ 5 = .pointer (some ⟨b5, 0, none⟩) ∧ ρ 6 = .slice av r cv ∧ ρ 7 = .pointer (some ⟨b7, 0, none⟩) ∧ ρ 8 = .int .i64 c ∧ ρ 9 = .int .i64 r ∧ ρ 11 = .pointer (some ⟨b11, 0, none⟩) ∧ ρ 68 = .int .i64 m ∧ ρ 69 = .int .i64 k ∧
              ∃ R, MatG R n m (qM (divF X r a k)) ∧ St w0 w' ([(b11, 27, encR (ofQ a)), (b7, 27, encR (ofQ (d1 * a))), (b5, 27, encR zRR)] ++ mB encR 27 30 bo R (H ++ LP))) (fun k => m - k) 0
              ⟨Nat.zero_le _, by assumption, by assumption, by assumption, by assumption, by assumption, by assumption, by assumption, by assumption, vi rfl (by omega), rfl, R, hR.congr fun i _ j _ => by show ofQ (X i j) = ofQ (divF X r a 0 i j); unfold divF; rw [if_neg (by omega)], hS⟩ ?_
            clear hS hR hlr hxr hgr
            rintro k ρ w4 ⟨hk, h0, h1, h5, h6, h7, h8, h9, h11, h68, h69, R, hR, hS⟩
            have hlr : r < R.length := by rw [hR.len]; exact hrn
            have hxr := hR.xlen hrn
            repeat (with_reducible first | refine c_seq ?_ | refine c_block ?_ | refine c_skip ?_ | refine x_then ?_ | refine x_block ?_)
            refine c_reg ?_
            refine l_pure rfl (s_lss  h69 h68 ?_)
            refine l_nil ?_
            repeat (with_reducible first | refine c_seq ?_ | refine c_block ?_ | refine c_skip ?_ | refine x_then ?_ | refine x_block ?_)
            by_cases hkl : k < m
            · refine c_yes rfl (decide_eq_true (by omega)) ?_
              repeat (with_reducible first | refine c_seq ?_ | refine c_block ?_ | refine c_skip ?_ | refine x_then ?_ | refine x_block ?_)
              have hgr : (R.getD r zRw).X.getD k zRR = ofQ (X r k) := by rw [hR.get hrn hkl]; show ofQ (divF X r a k r k) = _; unfold divF; rw [if_neg (by omega)]
              have hLk := hLX r hrn k hkl
              have hdiv := fun w => QDivide_ok (ofQ (X r k)) (ofQ a) w (by rw [Lr_ofQ, Lr_ofQ]; omega) (by rw [toQ_ofQ]; exact ha)
              rw [toQ_ofQ, toQ_ofQ] at hdiv
              repeat (with_reducible first | refine c_seq ?_ | refine c_block ?_ | refine c_skip ?_ | refine x_then ?_ | refine x_block ?_)
              refine c_reg ?_
              refine l_pure rfl (s_move  h69 ?_)
              refine l_pure rfl (s_asg  rfl ?_)
              refine l_nil ?_
              repeat (with_reducible first | refine c_seq ?_ | refine c_block ?_ | refine c_skip ?_ | refine x_then ?_ | refine x_block ?_)
              refine c_draw [(0, .pure), (1, .pure), (2, .pure), (3, .read), (4, .pure), (5, .pure), (6, .pure), (7, .pure), (8, .read), (9, .pure), (10, .pure), (11, .read), (12, .read), (13, .grow), (14, .pure), (15, .pure), (16, .pure), (17, .pure), (18, .free)] (by kernel_rfl) (by kernel_rfl) hS ?_
              intro wz16 hS hBz16
              refine w_pure rfl rfl (s_move  h0 ?_)
              refine w_pure rfl rfl (s_move  h9 ?_)
              refine w_pure rfl rfl (s_ixo (i := r)  rfl rfl (by omega) (by first | omega | (simp; done) | (simp; omega)) si_24 ?_)
              refine w_read rfl rfl (s_mrowP [_, _, _]  rfl vi_30 hS (by omega) hlr ?_)
              refine w_pure rfl rfl (s_move  rfl ?_)
              refine w_pure rfl rfl (s_move  h0 ?_)
              refine w_pure rfl rfl (s_move  h9 ?_)
              refine w_pure rfl rfl (s_ixo (i := r)  rfl rfl (by omega) (by first | omega | (simp; done) | (simp; omega)) si_24 ?_)
              refine w_read rfl rfl (s_mrowP [_, _, _]  rfl vi_30 hS (by omega) hlr ?_)
              refine w_pure rfl rfl (s_move  rfl ?_)
              refine w_pure rfl rfl (s_ixo (i := k)  rfl rfl (by omega) (by first | omega | (simp; done) | (simp; omega)) si_30 ?_)
              refine w_read rfl rfl (s_mldP [_, _, _] (i := r) (j := k) zRR encR_len  rfl vi_27 hS rfl hlr (by omega) (by omega) rfl (.inl rfl) ?_)
              refine w_read rfl rfl (s_ldo (k := 0)  h11 vi_27 hS rfl rfl rfl (.inl rfl) ?_)
              rw [hgr]
              refine w_grow rfl rfl (s_call Tryd.call55 rfl (hdiv _) ?_)
              rintro _ wc17 ⟨rfl, hBc17⟩
              replace hS := hS.grow hBc17
              refine ⟨hBc17, ?_⟩
              refine w_pure rfl rfl (s_move  rfl ?_)
              refine w_pure rfl rfl (s_ext  rfl rfl ?_)
              refine w_pure rfl rfl (s_ext  rfl rfl ?_)
              refine w_pure rfl rfl (s_ixo (i := k)  rfl rfl (by omega) (by first | omega | (simp; done) | (simp; omega)) si_30 ?_)
              refine w_free rfl rfl (s_mstP [_, _, _] (i := r) (j := k) (ofQ (X r k / a)) encR_len  rfl rfl vi_27 hS rfl hlr (by omega) (by omega) rfl rfl ?_)
              intro wz18 hS
              refine w_end ?_
              repeat (with_reducible first | refine c_seq ?_ | refine c_block ?_ | refine c_skip ?_ | refine x_then ?_ | refine x_block ?_)
              refine c_reg ?_
              refine l_pure rfl (s_add  h69 rfl (IntWalk.i64_in _ (by omega)) ?_)
              refine l_pure rfl (s_move  rfl ?_)
              refine l_nil ?_
              repeat (with_reducible first | refine c_seq ?_ | refine c_block ?_ | refine c_skip ?_ | refine x_then ?_ | refine x_block ?_)
              refine ⟨k + 1, _, rfl, ⟨hkl, by assumption, by assumption, by assumption, by assumption, by assumption, by assumption, by assumption, by assumption, by assumption, vi rfl (by omega), _, (hR.put hrn k (ofQ (X r k / a))).congr fun i _ j _ => ?_, hS⟩, by omega⟩
              show (if i = r ∧ j = k then ofQ (X r k / a) else ofQ (divF X r a k i j)) = ofQ (divF X r a (k + 1) i j)
              unfold divF
              by_cases g : i = r ∧ j = k
              · rw [if_pos g, if_pos (by omega), g.2]
              · rw [if_neg g]
                by_cases g2 : i = r ∧ j < k
                · rw [if_pos g2, if_pos (by omega)]
                · rw [if_neg g2, if_neg (by omega)]
            · refine c_no rfl (decide_eq_false (by omega)) ?_
              repeat (with_reducible first | refine c_seq ?_ | refine c_block ?_ | refine c_skip ?_ | refine x_then ?_ | refine x_block ?_)
              refine c_exit ?_
              repeat (with_reducible first | refine x_then_exit ?_ | refine x_block_exit ?_ | refine x_block_pass rfl ?_)
              repeat (with_reducible first | refine c_seq ?_ | refine c_block ?_ | refine c_skip ?_ | refine x_then ?_ | refine x_block ?_)
              obtain rfl : k = m := by omega
              exact ⟨_, rfl, h0, h1, h5, h6, h7, h8, h9, R, hR, hS⟩
          clear hS hR hlr hxr hgr
          rintro ρ w4 ⟨h0, h1, h5, h6, h7, h8, h9, R, hR, hS⟩
          replace hR : MatG R n m (qM (elF X r c a 0)) := hR.congr fun i _ j hj => by
            show ofQ (divF X r a m i j) = ofQ (elF X r c a 0 i j)
            unfold divF elF
            by_cases e : i = r
            · rw [if_pos ⟨e, hj⟩, if_pos e]
            · rw [if_neg (fun q => e q.1), if_neg e, if_neg (Nat.not_lt_zero _)]
          replace hS := hS.drop (List.sublist_cons_self _ _)
          repeat (with_reducible first | refine c_seq ?_ | refine c_block ?_ | refine c_skip ?_ | refine x_then ?_ | refine x_block ?_)
          refine c_reg ?_
          refine l_pure rfl (s_move  h0 ?_)
          refine l_pure rfl (s_leno  rfl ⟨_, Tryd.underlying24⟩ ?_)
          refine l_pure rfl (s_move  rfl ?_)
          refine l_nil ?_
          repeat (with_reducible first | refine c_seq ?_ | refine c_skip ?_ | refine x_then ?_ | refine x_block ?_)
          refine c_cut1 (fun ρ w' => ρ 0 = .slice (some ⟨bo, 0, none⟩) n n ∧ ρ 1 = .int .i64 cols ∧ ρ 5 = .pointer (some ⟨b5, 0, none⟩) ∧ ρ 6 = .slice av r cv ∧ ρ 7 = .pointer (some ⟨b7, 0, none⟩) ∧ ρ 8 = .int .i64 c ∧
            ∃ R, MatG R n m (qM (elF X r c a n)) ∧ St w0 w' ([(b7, 27, encR (ofQ (d1 * a))), (b5, 27, encR zRR)] ++ mB encR 27 30 bo R (H ++ LP))) ?_ ?_
          · repeat (with_reducible first | refine c_seq ?_ | refine c_block ?_ | refine c_skip ?_ | refine x_then ?_ | refine x_block ?_)
            refine c_loop (σ := Nat) (fun i ρ w' => i ≤ n ∧ ρ 0 = .slice (some ⟨bo, 0, none⟩) n n ∧ ρ 1 = .int .i64 cols ∧ ρ 5 = .pointer (some ⟨b5, 0, none⟩) ∧ ρ 6 = .slice av r cv ∧ ρ 7 = .pointer (some ⟨b7, 0, none⟩) ∧ ρ 8 = .int .i64 c ∧ ρ 9 = .int .i64 r ∧ ρ 92 = .int .i64 n ∧ ρ 93 = .int .i64 i ∧
              ∃ R, MatG R n m (qM (elF X r c a i)) ∧ St w0 w' ([(b7, 27, encR (ofQ (d1 * a))), (b5, 27, encR zRR)] ++ mB encR 27 30 bo R (H ++ LP))) (fun i => n - i) 0
              ⟨Nat.zero_le _, by assumption, by assumption, by assumption, by assumption, by assumption, by assumption, by assumption, rfl, rfl, R, hR, hS⟩ ?_
            clear hS hR
            rintro i ρ w4 ⟨hi, h0, h1, h5, h6, h7, h8, h9, h92, h93, R, hR, hS⟩
            have hlr : r < R.length := by rw [hR.len]; exact hrn
            repeat (with_reducible first | refine c_seq ?_ | refine c_block ?_ | refine c_skip ?_ | refine x_then ?_ | refine x_block ?_)
            refine c_reg ?_
            refine l_pure rfl (s_lss  h93 h92 ?_)
            refine l_nil ?_
            repeat (with_reducible first | refine c_seq ?_ | refine c_block ?_ | refine c_skip ?_ | refine x_then ?_ | refine x_block ?_)
            by_cases hin : i < n
            · refine c_yes rfl (decide_eq_true (by omega)) ?_
              repeat (with_reducible first | refine c_seq ?_ | refine c_block ?_ | refine c_skip ?_ | refine x_then ?_ | refine x_block ?_)
              have hli : i < R.length := by rw [hR.len]; exact hin
              have hxi := hR.xlen hin
              have hstep : ∀ i', i' < n → ∀ j, i' ≠ i → elF X r c a i i' j = elF X r c a (i + 1) i' j := by
                intro i' _ j hne
                unfold elF
                by_cases e : i' = r
                · rw [if_pos e, if_pos e]
                · rw [if_neg e, if_neg e]
                  by_cases e2 : i' < i
                  · rw [if_pos e2, if_pos (by omega)]
                  · rw [if_neg e2, if_neg (by omega)]
              repeat (with_reducible first | refine c_seq ?_ | refine c_block ?_ | refine c_skip ?_ | refine x_then ?_ | refine x_block ?_)
              refine c_reg ?_
              refine l_pure rfl (s_move  h93 ?_)
              refine l_pure rfl (s_asg  rfl ?_)
              refine l_nil ?_
              repeat (with_reducible first | refine c_seq ?_ | refine c_block ?_ | refine c_skip ?_ | refine x_then ?_ | refine x_block ?_)
              by_cases hir : i = r
              · repeat (with_reducible first | refine c_seq ?_ | refine c_block ?_ | refine c_skip ?_ | refine x_then ?_ | refine x_block ?_)
                refine c_reg ?_
                refine l_pure rfl (s_move  rfl ?_)
                refine l_pure rfl (s_move  h9 ?_)
                refine l_pure rfl (s_neq  rfl rfl ?_)
                refine l_pure rfl (s_move  rfl ?_)
                refine l_no (gno_yes 99 (by kernel_rfl) rfl (decide_eq_false (by omega))) ?_
                refine l_no (gno_yes 99 (by kernel_rfl) rfl (decide_eq_false (by omega))) ?_
                refine l_no (gno_yes 99 (by kernel_rfl) rfl (decide_eq_false (by omega))) ?_
                refine l_no (gno_yes 99 (by kernel_rfl) rfl (decide_eq_false (by omega))) ?_
                refine l_no (gno_yes 99 (by kernel_rfl) rfl (decide_eq_false (by omega))) ?_
                refine l_no (gno_yes 99 (by kernel_rfl) rfl (decide_eq_false (by omega))) ?_
                refine l_no (gno_yes 99 (by kernel_rfl) rfl (decide_eq_false (by omega))) ?_
                refine l_no (gno_yes 99 (by kernel_rfl) rfl (decide_eq_false (by omega))) ?_
                refine l_no (gno_yes 99 (by kernel_rfl) rfl (decide_eq_false (by omega))) ?_
                refine l_pure rfl (s_pick (vb rfl (decide_eq_false (by omega))) rfl ?_)
                refine l_nil ?_
                repeat (with_reducible first | refine c_seq ?_ | refine c_block ?_ | refine c_skip ?_ | refine x_then ?_ | refine x_block ?_)
                refine c_no rfl (rfl) ?_
                repeat (with_reducible first | refine c_seq ?_ | refine c_block ?_ | refine c_skip ?_ | refine x_then ?_ | refine x_block ?_)
                refine c_reg ?_
                refine l_pure rfl (s_add  h93 rfl (IntWalk.i64_in _ (by omega)) ?_)
                refine l_pure rfl (s_move  rfl ?_)
                refine l_nil ?_
                repeat (with_reducible first | refine c_seq ?_ | refine c_block ?_ | refine c_skip ?_ | refine x_then ?_ | refine x_block ?_)
                refine ⟨i + 1, _, rfl, ⟨hin, by assumption, by assumption, by assumption, by assumption, by assumption, by assumption, by assumption, by assumption, vi rfl (by omega), R, hR.congr fun i' hi' j _ => ?_, hS⟩, by omega⟩
                show ofQ (elF X r c a i i' j) = ofQ (elF X r c a (i + 1) i' j)
                by_cases e : i' = i
                · unfold elF; rw [if_pos (by omega), if_pos (by omega)]
                · rw [hstep i' hi' j e]
              · have hgi : (R.getD i zRw).X.getD c zRR = ofQ (X i c) := by rw [hR.get hin (by omega)]; show ofQ (elF X r c a i i c) = _; unfold elF; rw [if_neg hir, if_neg (Nat.lt_irrefl _)]
                repeat (with_reducible first | refine c_seq ?_ | refine c_block ?_ | refine c_skip ?_ | refine x_then ?_ | refine x_block ?_)
                refine c_reg ?_
                refine l_pure rfl (s_move  rfl ?_)
                refine l_pure rfl (s_move  h9 ?_)
                refine l_pure rfl (s_neq  rfl rfl ?_)
                refine l_pure rfl (s_move  rfl ?_)
                refine l_pure (gd_yes 99 (by kernel_rfl) rfl (decide_eq_true (by omega))) (s_move  h0 ?_)
                refine l_pure (gd_yes 99 (by kernel_rfl) rfl (decide_eq_true (by omega))) (s_move  rfl ?_)
                refine l_pure (gd_yes 99 (by kernel_rfl) rfl (decide_eq_true (by omega))) (s_ixo (i := i)  rfl rfl (by omega) (by first | omega | (simp; done) | (simp; omega)) si_24 ?_)
                refine l_read (gd_yes 99 (by kernel_rfl) rfl (decide_eq_true (by omega))) (s_mrowP [_, _]  rfl vi_30 hS (by omega) hli ?_)
                refine l_pure (gd_yes 99 (by kernel_rfl) rfl (decide_eq_true (by omega))) (s_move  h8 ?_)
                refine l_pure (gd_yes 99 (by kernel_rfl) rfl (decide_eq_true (by omega))) (s_ixo (i := c)  rfl rfl (by omega) (by first | omega | (simp; done) | (simp; omega)) si_30 ?_)
                refine l_read (gd_yes 99 (by kernel_rfl) rfl (decide_eq_true (by omega))) (s_mldP [_, _] (i := i) (j := c) zRR encR_len  rfl vi_27 hS rfl hli (by omega) (by omega) rfl (.inl rfl) ?_)
                rw [hgi]
                refine l_heavy (gd_yes 99 (by kernel_rfl) rfl (decide_eq_true (by omega))) (s_call Tryd.call56 rfl (isZero_ok _ _) ?_)
                rintro r w5 ⟨rfl, hB5⟩
                replace hS := hS.grow hB5
                refine l_pure (gd_yes 99 (by kernel_rfl) rfl (decide_eq_true (by omega))) (s_not  rfl ?_)
                refine l_pure rfl (s_pick (vb rfl (decide_eq_true (by omega))) rfl ?_)
                refine l_nil ?_
                repeat (with_reducible first | refine c_seq ?_ | refine c_block ?_ | refine c_skip ?_ | refine x_then ?_ | refine x_block ?_)
                by_cases hz : X i c = 0
                · refine c_no rfl (by rw [decide_eq_true hz]; rfl) ?_
                  repeat (with_reducible first | refine c_seq ?_ | refine c_block ?_ | refine c_skip ?_ | refine x_then ?_ | refine x_block ?_)
                  refine c_reg ?_
                  refine l_pure rfl (s_add  h93 rfl (IntWalk.i64_in _ (by omega)) ?_)
                  refine l_pure rfl (s_move  rfl ?_)
                  refine l_nil ?_
                  repeat (with_reducible first | refine c_seq ?_ | refine c_block ?_ | refine c_skip ?_ | refine x_then ?_ | refine x_block ?_)
                  refine ⟨i + 1, _, rfl, ⟨hin, by assumption, by assumption, by assumption, by assumption, by assumption, by assumption, by assumption, by assumption, vi rfl (by omega), R, hR.congr fun i' hi' j _ => ?_, hS⟩, by omega⟩
                  show ofQ (elF X r c a i i' j) = ofQ (elF X r c a (i + 1) i' j)
                  by_cases e : i' = i
                  · rw [e]; unfold elF; rw [if_neg hir, if_neg hir, if_neg (Nat.lt_irrefl _), if_pos (Nat.lt_succ_self _), hz]; congr 1; grind
                  · rw [hstep i' hi' j e]
                · refine c_yes rfl (by rw [decide_eq_false hz]; rfl) ?_
                  repeat (with_reducible first | refine c_seq ?_ | refine c_block ?_ | refine c_skip ?_ | refine x_then ?_ | refine x_block ?_)
                  have hLe : ∀ j, j < m → L (elF X r c a i i j) ≤ 2 * b ∧ L (elF X r c a i r j) ≤ 2 * b := by
                    intro j hj
                    have q1 := hLX i hin j hj
                    have q2 := hLX r hrn j hj
                    have q3 := L_div (X r j) a
                    constructor
                    · unfold elF; rw [if_neg hir, if_neg (Nat.lt_irrefl _)]; omega
                    · unfold elF; rw [if_pos rfl]; omega
                  have hmin := fun w h => lminus_ok (H := [(b7, 27, encR (ofQ (d1 * a))), (b5, 27, encR zRR)] ++ (H ++ LP)) (w0 := w0) (bo := bo) i r (X i c) (2 * b) w hR hm hin hrn hir hLe (by have := hLX i hin c (by omega); omega) (by omega) h
                  repeat (with_reducible first | refine c_seq ?_ | refine c_block ?_ | refine c_skip ?_ | refine x_then ?_ | refine x_block ?_)
                  refine c_draw [(0, .pure), (1, .pure), (2, .pure), (3, .read), (4, .pure), (5, .pure), (6, .pure), (7, .read), (8, .pure), (9, .pure), (10, .pure), (11, .read), (12, .pure), (13, .pure), (14, .read), (15, .free)] (by kernel_rfl) (by kernel_rfl) hS ?_
                  intro wz19 hS hBz19
                  refine w_pure rfl rfl (s_move  h0 ?_)
                  refine w_pure rfl rfl (s_move  rfl ?_)
                  refine w_pure rfl rfl (s_ixo (i := i)  rfl rfl (by omega) (by first | omega | (simp; done) | (simp; omega)) si_24 ?_)
                  refine w_read rfl rfl (s_mrowP [_, _]  rfl vi_30 hS (by omega) hli ?_)
                  refine w_pure rfl rfl (s_move  h0 ?_)
                  refine w_pure rfl rfl (s_move  h9 ?_)
                  refine w_pure rfl rfl (s_ixo (i := r)  rfl rfl (by omega) (by first | omega | (simp; done) | (simp; omega)) si_24 ?_)
                  refine w_read rfl rfl (s_mrowP [_, _]  rfl vi_30 hS (by omega) hlr ?_)
                  refine w_pure rfl rfl (s_move  h0 ?_)
                  refine w_pure rfl rfl (s_move  rfl ?_)
                  refine w_pure rfl rfl (s_ixo (i := i)  rfl rfl (by omega) (by first | omega | (simp; done) | (simp; omega)) si_24 ?_)
                  refine w_read rfl rfl (s_mrowP [_, _]  rfl vi_30 hS (by omega) hli ?_)
                  refine w_pure rfl rfl (s_move  h8 ?_)
                  refine w_pure rfl rfl (s_ixo (i := c)  rfl rfl (by omega) (by first | omega | (simp; done) | (simp; omega)) si_30 ?_)
                  refine w_read rfl rfl (s_mldP [_, _] (i := i) (j := c) zRR encR_len  rfl vi_27 hS rfl hli (by omega) (by omega) rfl (.inl rfl) ?_)
                  rw [hgi]
                  refine w_free rfl rfl (s_call Tryd.call57 rfl (hmin _ (hS.perm (mB_pull _ _))) ?_)
                  rintro u w6 ⟨rfl, R', hR', hS'⟩
                  clear hS
                  have hS := hS'.perm (mB_pull _ _).symm
                  refine w_end ?_
                  repeat (with_reducible first | refine c_seq ?_ | refine c_block ?_ | refine c_skip ?_ | refine x_then ?_ | refine x_block ?_)
                  refine c_reg ?_
                  refine l_pure rfl (s_add  h93 rfl (IntWalk.i64_in _ (by omega)) ?_)
                  refine l_pure rfl (s_move  rfl ?_)
                  refine l_nil ?_
                  repeat (with_reducible first | refine c_seq ?_ | refine c_block ?_ | refine c_skip ?_ | refine x_then ?_ | refine x_block ?_)
                  refine ⟨i + 1, _, rfl, ⟨hin, by assumption, by assumption, by assumption, by assumption, by assumption, by assumption, by assumption, by assumption, vi rfl (by omega), R', hR'.congr fun i' hi' j _ => ?_, hS⟩, by omega⟩
                  show ofQ (if i' = i then elF X r c a i i j - X i c * elF X r c a i r j else elF X r c a i i' j) = ofQ (elF X r c a (i + 1) i' j)
                  by_cases e : i' = i
                  · rw [if_pos e, e]; unfold elF; rw [if_neg hir, if_neg hir, if_neg (Nat.lt_irrefl _), if_pos rfl, if_pos (Nat.lt_succ_self _)]
                  · rw [if_neg e, hstep i' hi' j e]
            · refine c_no rfl (decide_eq_false (by omega)) ?_
              repeat (with_reducible first | refine c_seq ?_ | refine c_block ?_ | refine c_skip ?_ | refine x_then ?_ | refine x_block ?_)
              refine c_exit ?_
              repeat (with_reducible first | refine x_then_exit ?_ | refine x_block_exit ?_ | refine x_block_pass rfl ?_)
              repeat (with_reducible first | refine c_seq ?_ | refine c_block ?_ | refine c_skip ?_ | refine x_then ?_ | refine x_block ?_)
              obtain rfl : n = i := by omega
              exact ⟨_, rfl, h0, h1, h5, h6, h7, h8, R, hR, hS⟩
          clear hS hR
          rintro ρ w4 ⟨h0, h1, h5, h6, h7, h8, R, hR, hS⟩
          replace hR : MatG R n m (qM (rdc n M (c + 1)).M) := hR.congr fun i hi j _ => by
            show ofQ (elF X r c a n i j) = ofQ ((rdc n M (c + 1)).M i j)
            rw [hyes, elF_elim X r c a hi j]
          replace hS : St w0 w4 ([(b7, 27, encR (ofQ (rdc n M (c + 1)).d)), (b5, 27, encR zRR)] ++ mB encR 27 30 bo R (H ++ LP)) := by rw [hyes]; exact hS
          rw [← mB_app, ← List.append_assoc] at hS
          have hnl : (nI s.P).length = r := by rw [nI_len, hr]
          repeat (with_reducible first | refine c_seq ?_ | refine c_block ?_ | refine c_skip ?_ | refine x_then ?_ | refine x_block ?_)
          refine c_reg ?_
          refine l_pure rfl (s_move  h6 ?_)
          refine l_pure rfl (s_move  h8 ?_)
          refine l_heavy rfl (s_bsl (vs := [.int .i64 c])  rfl si_31 rfl (by decide) (by decide) (by decide) (by simp [Value.cells]) rfl hS ?_)
          intro b20 wz21 hS hBz21
          refine l_heavy rfl (s_appl [(c : Int)]  rfl rfl si_31 (by decide) hG hS rfl rfl (fun _ => rfl) (fun u hu => by rw [List.mem_singleton.1 (show u ∈ [Value.int .i64 (c : Int)] from hu)]; rfl) (by first | omega | (simp only [List.length_cons, List.length_nil]; omega)) (by first | omega | (simp only [List.length_cons, List.length_nil]; omega)) ?_)
          intro va22 La22 wa22 hG hS hga22
          refine l_pure rfl (s_asg  rfl ?_)
          refine l_nil ?_
          repeat (with_reducible first | refine c_seq ?_ | refine c_block ?_ | refine c_skip ?_ | refine x_then ?_ | refine x_block ?_)
          rw [← nI_snoc] at hG
          rw [List.append_assoc, mB_app] at hS
          repeat (with_reducible first | refine c_seq ?_ | refine c_block ?_ | refine c_skip ?_ | refine x_then ?_ | refine x_block ?_)
          refine c_reg ?_
          refine l_pure rfl (s_move  h8 ?_)
          refine l_pure rfl (s_add  rfl rfl (IntWalk.i64_in _ (by omega)) ?_)
          refine l_pure rfl (s_asg  rfl ?_)
          refine l_nil ?_
          repeat (with_reducible first | refine c_seq ?_ | refine c_block ?_ | refine c_skip ?_ | refine x_then ?_ | refine x_block ?_)
          exact ⟨c + 1, _, rfl, ⟨hcl, by assumption, by assumption, by assumption, by assumption, vi rfl (by omega), _, _, R, rfl, by rw [hyes]; exact hG, hR, hS⟩, by omega⟩
        · rw [if_neg hpn] at hpI
          refine c_yes rfl (decide_eq_true (by rw [hpI]; decide)) ?_
          repeat (with_reducible first | refine c_seq ?_ | refine c_block ?_ | refine c_skip ?_ | refine x_then ?_ | refine x_block ?_)
          refine c_exit ?_
          repeat (with_reducible first | refine x_then_exit ?_ | refine x_block_exit ?_ | refine x_block_pass rfl ?_)
          repeat (with_reducible first | refine c_seq ?_ | refine c_block ?_ | refine c_skip ?_ | refine x_then ?_ | refine x_block ?_)
          refine c_reg ?_
          refine l_pure rfl (s_move  h8 ?_)
          refine l_pure rfl (s_add  rfl rfl (IntWalk.i64_in _ (by omega)) ?_)
          refine l_pure rfl (s_asg  rfl ?_)
          refine l_nil ?_
          repeat (with_reducible first | refine c_seq ?_ | refine c_block ?_ | refine c_skip ?_ | refine x_then ?_ | refine x_block ?_)
          have e := rstp_no (n := n) (c := c) (M := M) (by rw [← hr, ← hp]; exact hpn)
          exact ⟨c + 1, _, rfl, ⟨hcl, by assumption, by assumption, by assumption, by assumption, vi rfl (by omega), _, LP, R, by assumption, by rw [e]; exact hG, by rw [e]; exact hR, by rw [e]; exact hS⟩, by omega⟩
      · repeat (with_reducible first | refine c_seq ?_ | refine c_block ?_ | refine c_skip ?_ | refine x_then ?_ | refine x_block ?_)
        refine c_reg ?_
        refine l_pure rfl (s_move  h8 ?_)
        refine l_pure rfl (s_move  h1 ?_)
        refine l_pure rfl (s_lss  rfl rfl ?_)
        refine l_pure rfl (s_move  rfl ?_)
        refine l_pure (gd_yes 18 (by kernel_rfl) rfl (decide_eq_true (by omega))) (s_move  h6 ?_)
        refine l_pure (gd_yes 18 (by kernel_rfl) rfl (decide_eq_true (by omega))) (s_leno  rfl ⟨_, Tryd.underlying31⟩ ?_)
        refine l_pure (gd_yes 18 (by kernel_rfl) rfl (decide_eq_true (by omega))) (s_move  h0 ?_)
        refine l_pure (gd_yes 18 (by kernel_rfl) rfl (decide_eq_true (by omega))) (s_leno  rfl ⟨_, Tryd.underlying24⟩ ?_)
        refine l_pure (gd_yes 18 (by kernel_rfl) rfl (decide_eq_true (by omega))) (s_lss  rfl rfl ?_)
        refine l_pure rfl (s_pick (vb rfl (decide_eq_true (by omega))) rfl ?_)
        refine l_nil ?_
        repeat (with_reducible first | refine c_seq ?_ | refine c_block ?_ | refine c_skip ?_ | refine x_then ?_ | refine x_block ?_)
        refine c_no rfl (decide_eq_false (by omega)) ?_
        repeat (with_reducible first | refine c_seq ?_ | refine c_block ?_ | refine c_skip ?_ | refine x_then ?_ | refine x_block ?_)
        refine c_exit ?_
        repeat (with_reducible first | refine x_then_exit ?_ | refine x_block_exit ?_ | refine x_block_pass rfl ?_)
        repeat (with_reducible first | refine c_seq ?_ | refine c_block ?_ | refine c_skip ?_ | refine x_then ?_ | refine x_block ?_)
        have e : rdc n M cols = rdc n M c := by
          have := rdc_full (n := n) (A := M) (c := c) (by omega) (cols - c)
          rwa [show c + (cols - c) = cols by omega] at this
        rw [e]
        exact ⟨_, rfl, h5, h7, _, LP, R, h6, hG, hR, hS⟩
    · repeat (with_reducible first | refine c_seq ?_ | refine c_block ?_ | refine c_skip ?_ | refine x_then ?_ | refine x_block ?_)
      refine c_reg ?_
      refine l_pure rfl (s_move  h8 ?_)
      refine l_pure rfl (s_move  h1 ?_)
      refine l_pure rfl (s_lss  rfl rfl ?_)
      refine l_pure rfl (s_move  rfl ?_)
      refine l_no (gno_yes 18 (by kernel_rfl) rfl (decide_eq_false (by omega))) ?_
      refine l_no (gno_yes 18 (by kernel_rfl) rfl (decide_eq_false (by omega))) ?_
      refine l_no (gno_yes 18 (by kernel_rfl) rfl (decide_eq_false (by omega))) ?_
      refine l_no (gno_yes 18 (by kernel_rfl) rfl (decide_eq_false (by omega))) ?_
      refine l_no (gno_yes 18 (by kernel_rfl) rfl (decide_eq_false (by omega))) ?_
      refine l_pure rfl (s_pick (vb rfl (decide_eq_false (by omega))) rfl ?_)
      refine l_nil ?_
      repeat (with_reducible first | refine c_seq ?_ | refine c_block ?_ | refine c_skip ?_ | refine x_then ?_ | refine x_block ?_)
      refine c_no rfl (rfl) ?_
      repeat (with_reducible first | refine c_seq ?_ | refine c_block ?_ | refine c_skip ?_ | refine x_then ?_ | refine x_block ?_)
      refine c_exit ?_
      repeat (with_reducible first | refine x_then_exit ?_ | refine x_block_exit ?_ | refine x_block_pass rfl ?_)
      repeat (with_reducible first | refine c_seq ?_ | refine c_block ?_ | refine c_skip ?_ | refine x_then ?_ | refine x_block ?_)
      obtain rfl : c = cols := by omega
      exact ⟨_, rfl, h5, h7, _, LP, R, h6, hG, hR, hS⟩
  clear hS
  rintro ρ w2 ⟨h5, h7, vp, LP, R, h6, hG, hR, hS⟩
  repeat (with_reducible first | refine c_seq ?_ | refine c_block ?_ | refine c_skip ?_ | refine x_then ?_ | refine x_block ?_)
  refine c_draw [(0, .pure), (1, .read), (2, .pure), (3, .free)] (by kernel_rfl) (by kernel_rfl) hS ?_
  intro wz23 hS hBz23
  refine w_pure rfl rfl (s_move  h6 ?_)
  refine w_read rfl rfl (s_ldo (k := 0)  h7 vi_27 hS rfl rfl rfl (.inl rfl) ?_)
  refine w_pure rfl rfl (s_asg  rfl ?_)
  refine w_free rfl rfl (s_sta (k := 1)  h5 rfl vi_27 hS rfl rfl rfl (Nat.le_of_ble_eq_true rfl) rfl ?_)
  intro wz24 hS
  refine w_end ?_
  repeat (with_reducible first | refine c_seq ?_ | refine c_block ?_ | refine c_skip ?_ | refine x_then ?_ | refine x_block ?_)
  replace hS : St w0 _ ([(b7, 27, encR (ofQ (rdc n M cols).d)), (b5, 27, encR (ofQ (rdc n M cols).d))] ++ mB encR 27 30 bo R (H ++ LP)) := hS
  refine c_ret ?_
  repeat (with_reducible first | refine x_then_ret ?_ | refine x_block_ret ?_)
  refine r_tmp_cell (k := 1) rfl h5 rfl vi_27 hS rfl rfl ?_
  exact ⟨vp, LP, R, rfl, hG, hR, hS.drop (List.sublist_append_right _ _)⟩
end Go.Proofs.YtblfipdfklpmmaaDoor
namespace Go.Proofs.YtblfipdfklpmmaaDoor
open Go Go.RowKit Go.Sx
theorem BB_ok {K n : Nat} (hK : 8 * BB K 16 ≤ MX) (hn : n ≤ 16) : 8 * BB K n ≤ MX := Nat.le_trans (Nat.mul_le_mul_left _ (BB_mono K hn)) hK
theorem BB_K (K n : Nat) : K + 1 ≤ BB K n := by
  have := BB_mono K (Nat.zero_le n)
  unfold BB at this ⊢
  omega
def rdA (A : List (List RR)) : Rd := rdc A.length (RM A) (colsA A)
def rdL (A : List (List RR)) : List (List RR) := if shpE A = 0 then tabM A.length (colsA A) (qM (rdA A).M) else []
def rdP (A : List (List RR)) : List Nat := if shpE A = 0 then (rdA A).P else []
theorem Mts.nil {α : Type} (enc : α → List Value) (size : Nat) (w : World) : Mts enc size w (.slice none 0 0) [] [] := ⟨rfl, Sl.nil _ _ _, fun _ h => absurd h (Nat.not_lt_zero _)⟩
set_option maxHeartbeats 1000000 in
theorem lReduce_ok (v : Value) (A : List (List RR)) (vs : List Value) (K : Nat) (w : World) (hA : Mts encR 3 w v A vs) (hB : RBM K A) (hK : 8 * BB K 16 ≤ MX) :
    Ret Tryd.prog 11 #[v] w fun r w' => (∃ v' vs' vp, r = .tuple #[v', vp, .int .i64 (shpE A)] ∧ Mts encR 3 w' v' (rdL A) vs' ∧ Sl enI 1 w' vp (nI (rdP A))) ∧ Below w.heap.size w w' := by
  have hM : MX = 1099511627776 := rfl
  have hBK := BB_K K 16
  have hS := St.init w
  have hlen := hA.len
  refine enter Tryd.func11 rfl Tryd.ntmps11 rfl ?_
  repeat (with_reducible first | refine c_seq ?_ | refine c_block ?_ | refine c_skip ?_ | refine x_then ?_ | refine x_block ?_)
  refine c_reg ?_
  refine l_pure rfl (s_asg  rfl ?_)
  refine l_pure rfl (s_asg  rfl ?_)
  refine l_pure rfl (s_asg  rfl ?_)
  refine l_nil ?_
  repeat (with_reducible first | refine c_seq ?_ | refine c_block ?_ | refine c_skip ?_ | refine x_then ?_ | refine x_block ?_)
  refine c_reg ?_
  refine l_pure rfl (s_move  rfl ?_)
  refine l_heavy rfl (s_call Tryd.call29 rfl (lcheck_ok v A vs _ (hA.below hS.below)) ?_)
  rintro _ wc1 ⟨rfl, hBc1⟩
  replace hS := hS.grow hBc1
  refine l_pure rfl (s_asg  rfl ?_)
  refine l_nil ?_
  repeat (with_reducible first | refine c_seq ?_ | refine c_block ?_ | refine c_skip ?_ | refine x_then ?_ | refine x_block ?_)
  refine c_reg ?_
  refine l_pure rfl (s_move  rfl ?_)
  refine l_pure rfl (s_neq  rfl rfl ?_)
  refine l_nil ?_
  repeat (with_reducible first | refine c_seq ?_ | refine c_block ?_ | refine c_skip ?_ | refine x_then ?_ | refine x_block ?_)
  by_cases he : shpE A ≠ 0
  · have e1 : rdL A = [] := if_neg he
    have e2 : rdP A = [] := if_neg he
    rw [e1, e2]
    refine c_yes rfl (decide_eq_true (by omega)) ?_
    repeat (with_reducible first | refine c_seq ?_ | refine c_block ?_ | refine c_skip ?_ | refine x_then ?_ | refine x_block ?_)
    refine c_reg ?_
    refine l_pure rfl (s_move  rfl ?_)
    refine l_pure rfl (s_asg  rfl ?_)
    refine l_pure rfl (s_asg  rfl ?_)
    refine l_pure rfl (s_asg  rfl ?_)
    refine l_nil ?_
    repeat (with_reducible first | refine c_seq ?_ | refine c_block ?_ | refine c_skip ?_ | refine x_then ?_ | refine x_block ?_)
    refine c_ret ?_
    repeat (with_reducible first | refine x_then_ret ?_ | refine x_block_ret ?_)
    refine r_three rfl rfl rfl rfl ?_
    exact ⟨⟨_, [], _, rfl, Mts.nil _ _ _, Sl.nil _ _ _⟩, hS.below⟩
  replace he := Decidable.not_not.1 he
  obtain ⟨h1, h2, h3, h4, h5⟩ := shpE_zero he
  have hr0 := hA.row 0 (by omega)
  have hc0 : colsA A = (A.getD 0 []).length := rfl
  have e1 : rdL A = tabM A.length (colsA A) (qM (rdA A).M) := if_pos he
  have e2 : rdP A = (rdA A).P := if_pos he
  rw [e1, e2, he]
  refine c_no rfl (decide_eq_false (by omega)) ?_
  repeat (with_reducible first | refine c_seq ?_ | refine c_block ?_ | refine c_skip ?_ | refine x_then ?_ | refine x_block ?_)
  refine c_reg ?_
  refine l_pure rfl (s_move  rfl ?_)
  refine l_heavy rfl (s_call Tryd.call30 rfl (lclean_ok v A vs (colsA A) K _ (hA.below hS.below) h1 (by omega) h3 (by omega) h5 hB (by omega)) ?_)
  rintro r w2 ⟨⟨bo, R, rfl, hR, -, hS2⟩, hB2⟩
  replace hS := (hS.join hS2).cast (List.append_nil _)
  clear hS2
  refine l_pure rfl (s_asg  rfl ?_)
  refine l_nil ?_
  repeat (with_reducible first | refine c_seq ?_ | refine c_block ?_ | refine c_skip ?_ | refine x_then ?_ | refine x_block ?_)
  refine c_reg ?_
  refine l_pure rfl (s_move  rfl ?_)
  refine l_pure rfl (s_move  rfl ?_)
  refine l_pure rfl (s_ixr (i := 0)  rfl rfl (hA.sl.below hS.below) (by omega) (by first | omega | (simp; done) | (simp; omega)) si_24 ?_)
  refine l_read rfl (s_lde (i := 0) undef  rfl vi_30 (hA.sl.below hS.below) (by first | omega | (simp; done) | (simp; omega)) rfl rfl (.inr rfl) ?_)
  refine l_pure rfl (s_lenr  rfl (hr0.below hS.below) ⟨_, Tryd.underlying30⟩ ?_)
  refine l_heavy rfl (s_call Tryd.call31 rfl (lreduce_ok (colsA A) K _ hR (by omega) (by omega) (Nat.le_refl _) (fun i hi j hj => RM_L hB hi (by rw [h5 i hi]; exact hj)) (BB_ok hK h2) hS) ?_)
  rintro r w3 ⟨vp, LP, R', rfl, hG, hR', hS'⟩
  clear hS
  rename _ => hS
  refine l_pure rfl (s_move  rfl ?_)
  refine l_pure rfl (s_ext  rfl rfl ?_)
  refine l_pure rfl (s_ext  rfl rfl ?_)
  refine l_heavy rfl (s_alloc  vi_27 hS ?_)
  intro b8 wz2 hS hBz2
  refine l_pure rfl (s_asg  rfl ?_)
  refine l_heavy rfl (s_sta (k := 0)  rfl rfl vi_27 hS rfl rfl rfl (Nat.le_of_ble_eq_true rfl) rfl ?_)
  intro wz3 hS
  refine l_nil ?_
  repeat (with_reducible first | refine c_seq ?_ | refine c_block ?_ | refine c_skip ?_ | refine x_then ?_ | refine x_block ?_)
  have hS2 := hS.drop (List.sublist_cons_self _ _)
  have hmt := hR'.mts hS2 encR_len (cap := A.length) (Nat.le_refl _) (by omega)
  rw [← mB_app] at hS2
  have hsl := hG.sl hS2 (fun _ => rfl)
  repeat (with_reducible first | refine c_seq ?_ | refine c_block ?_ | refine c_skip ?_ | refine x_then ?_ | refine x_block ?_)
  refine c_reg ?_
  refine l_pure rfl (s_move  rfl ?_)
  refine l_pure rfl (s_move  rfl ?_)
  refine l_pure rfl (s_asg  rfl ?_)
  refine l_pure rfl (s_asg  rfl ?_)
  refine l_pure rfl (s_asg  rfl ?_)
  refine l_nil ?_
  repeat (with_reducible first | refine c_seq ?_ | refine c_block ?_ | refine c_skip ?_ | refine x_then ?_ | refine x_block ?_)
  refine c_ret ?_
  repeat (with_reducible first | refine x_then_ret ?_ | refine x_block_ret ?_)
  refine r_three rfl rfl rfl rfl ?_
  exact ⟨⟨_, _, _, rfl, hmt, hsl⟩, hS.below⟩
def dtQ (A : List (List RR)) : Rat := if sqE A = 0 then detP A.length (RM A) else 0
theorem sqE_zero {A : List (List RR)} (h : sqE A = 0) : shpE A = 0 ∧ A.length = colsA A := by
  unfold sqE at h
  split at h
  · next h1 => exact absurd h h1
  · next h1 =>
    split at h
    · cases h
    · next h2 => exact ⟨Decidable.not_not.1 h1, Decidable.not_not.1 h2⟩
set_option maxHeartbeats 1000000 in
theorem lDeterminant_ok (v : Value) (A : List (List RR)) (vs : List Value) (K : Nat) (w : World) (hA : Mts encR 3 w v A vs) (hB : RBM K A) (hK : 8 * BB K 16 ≤ MX) :
    Ret Tryd.prog 15 #[v] w fun r w' => r = .tuple #[aggR (ofQ (dtQ A)), .int .i64 (sqE A)] ∧ Below w.heap.size w w' := by
  have hM : MX = 1099511627776 := rfl
  have hBK := BB_K K 16
  have hS := St.init w
  have hlen := hA.len
  have hz : aggR (ofQ 0) = .agg #[.bool false, .string ⟨#[]⟩, .string ⟨#[]⟩] := by rw [ofQ_zero]; rfl
  refine enter Tryd.func15 rfl Tryd.ntmps15 rfl ?_
  repeat (with_reducible first | refine c_seq ?_ | refine c_block ?_ | refine c_skip ?_ | refine x_then ?_ | refine x_block ?_)
  refine c_reg ?_
  refine l_heavy rfl (s_alloc  vi_27 hS ?_)
  intro b2 wz1 hS hBz1
  refine l_pure rfl (s_asg  rfl ?_)
  refine l_nil ?_
  repeat (with_reducible first | refine c_seq ?_ | refine c_block ?_ | refine c_skip ?_ | refine x_then ?_ | refine x_block ?_)
  refine c_reg ?_
  refine l_pure rfl (s_move  rfl ?_)
  refine l_heavy rfl (s_call Tryd.call34 rfl (lsquare_ok v A vs _ (hA.below hS.below)) ?_)
  rintro _ wc2 ⟨rfl, hBc2⟩
  replace hS := hS.grow hBc2
  refine l_pure rfl (s_asg  rfl ?_)
  refine l_nil ?_
  repeat (with_reducible first | refine c_seq ?_ | refine c_block ?_ | refine c_skip ?_ | refine x_then ?_ | refine x_block ?_)
  refine c_reg ?_
  refine l_pure rfl (s_move  rfl ?_)
  refine l_pure rfl (s_neq  rfl rfl ?_)
  refine l_nil ?_
  repeat (with_reducible first | refine c_seq ?_ | refine c_block ?_ | refine c_skip ?_ | refine x_then ?_ | refine x_block ?_)
  by_cases he : sqE A ≠ 0
  · have e1 : dtQ A = 0 := if_neg he
    rw [e1, hz]
    refine c_yes rfl (decide_eq_true (by omega)) ?_
    repeat (with_reducible first | refine c_seq ?_ | refine c_block ?_ | refine c_skip ?_ | refine x_then ?_ | refine x_block ?_)
    refine c_reg ?_
    refine l_pure rfl (s_build  rfl bz_27 ?_)
    refine l_pure rfl (s_move  rfl ?_)
    refine l_heavy rfl (s_sta (k := 0)  rfl rfl vi_27 hS rfl rfl rfl (Nat.le_of_ble_eq_true rfl) rfl ?_)
    intro wz3 hS
    refine l_pure rfl (s_asg  rfl ?_)
    refine l_nil ?_
    repeat (with_reducible first | refine c_seq ?_ | refine c_block ?_ | refine c_skip ?_ | refine x_then ?_ | refine x_block ?_)
    refine c_ret ?_
    repeat (with_reducible first | refine x_then_ret ?_ | refine x_block_ret ?_)
    refine r_cell_tmp (k := 0) rfl rfl rfl vi_27 hS rfl rfl ?_
    exact ⟨rfl, hS.below⟩
  replace he := Decidable.not_not.1 he
  obtain ⟨hs0, hsq⟩ := sqE_zero he
  obtain ⟨h1, h2, h3, h4, h5⟩ := shpE_zero hs0
  have e1 : dtQ A = detP A.length (RM A) := if_pos he
  rw [e1, he]
  refine c_no rfl (decide_eq_false (by omega)) ?_
  repeat (with_reducible first | refine c_seq ?_ | refine c_block ?_ | refine c_skip ?_ | refine x_then ?_ | refine x_block ?_)
  refine c_reg ?_
  refine l_pure rfl (s_move  rfl ?_)
  refine l_heavy rfl (s_call Tryd.call30 rfl (lclean_ok v A vs A.length K _ (hA.below hS.below) h1 (by omega) (by omega) (by omega) (fun i hi => by rw [h5 i hi]; exact hsq.symm) hB (by omega)) ?_)
  rintro r w2 ⟨⟨bo, R, rfl, hR, -, hS2⟩, hB2⟩
  replace hS := hS.join hS2
  clear hS2
  rw [mB_app] at hS
  refine l_pure rfl (s_move  rfl ?_)
  refine l_pure rfl (s_lenr  rfl (hA.sl.below hS.below) ⟨_, Tryd.underlying24⟩ ?_)
  rw [hlen]
  refine l_heavy rfl (s_call Tryd.call31 rfl (lreduce_ok A.length K _ hR (by omega) (by omega) (Nat.le_refl _) (fun i hi j hj => RM_L hB hi (by rw [h5 i hi]; omega)) (BB_ok hK h2) hS) ?_)
  rintro r w3 ⟨vp, LP, R', rfl, hG, hR', hS'⟩
  clear hS
  have hS : St w w3 ([(b2, 27, encR zRR)] ++ mB encR 27 30 bo R' LP) := hS'.perm (mB_pull [(b2, 27, encR zRR)] LP).symm
  clear hS'
  obtain ⟨av, cv, hvp⟩ := hG.len
  rw [nI_len] at hvp
  subst hvp
  have hdef : detP A.length (RM A) = if (rdc A.length (RM A) A.length).P.length = A.length then (rdc A.length (RM A) A.length).d else 0 := rfl
  have hpl := (rinv A.length (RM A) A.length).len
  rw [hdef]
  refine l_pure rfl (s_move  rfl ?_)
  refine l_pure rfl (s_ext  rfl rfl ?_)
  refine l_pure rfl (s_ext  rfl rfl ?_)
  refine l_heavy rfl (s_alloc  vi_27 hS ?_)
  intro b6 wz4 hS hBz4
  refine l_pure rfl (s_asg  rfl ?_)
  refine l_heavy rfl (s_sta (k := 0)  rfl rfl vi_27 hS rfl rfl rfl (Nat.le_of_ble_eq_true rfl) rfl ?_)
  intro wz5 hS
  refine l_nil ?_
  repeat (with_reducible first | refine c_seq ?_ | refine c_block ?_ | refine c_skip ?_ | refine x_then ?_ | refine x_block ?_)
  refine c_reg ?_
  refine l_pure rfl (s_move  rfl ?_)
  refine l_pure rfl (s_leno  rfl ⟨_, Tryd.underlying31⟩ ?_)
  refine l_pure rfl (s_move  rfl ?_)
  refine l_pure rfl (s_lenr  rfl (hA.sl.below hS.below) ⟨_, Tryd.underlying24⟩ ?_)
  refine l_pure rfl (s_lss  rfl rfl ?_)
  refine l_nil ?_
  repeat (with_reducible first | refine c_seq ?_ | refine c_block ?_ | refine c_skip ?_ | refine x_then ?_ | refine x_block ?_)
  by_cases hlt : (rdc A.length (RM A) A.length).P.length < A.length
  · rw [if_neg (by omega), hz]
    refine c_yes rfl (decide_eq_true (by omega)) ?_
    repeat (with_reducible first | refine c_seq ?_ | refine c_block ?_ | refine c_skip ?_ | refine x_then ?_ | refine x_block ?_)
    refine c_reg ?_
    refine l_pure rfl (s_build  rfl bz_27 ?_)
    refine l_heavy rfl (s_sta (k := 1)  rfl rfl vi_27 hS rfl rfl rfl (Nat.le_of_ble_eq_true rfl) rfl ?_)
    intro wz6 hS
    refine l_pure rfl (s_asg  rfl ?_)
    refine l_nil ?_
    repeat (with_reducible first | refine c_seq ?_ | refine c_block ?_ | refine c_skip ?_ | refine x_then ?_ | refine x_block ?_)
    refine c_ret ?_
    repeat (with_reducible first | refine x_then_ret ?_ | refine x_block_ret ?_)
    refine r_cell_tmp (k := 1) rfl rfl rfl vi_27 hS rfl rfl ?_
    exact ⟨rfl, hS.below⟩
  · rw [if_pos (by omega)]
    refine c_no rfl (decide_eq_false (by omega)) ?_
    repeat (with_reducible first | refine c_seq ?_ | refine c_block ?_ | refine c_skip ?_ | refine x_then ?_ | refine x_block ?_)
    refine c_reg ?_
    refine l_read rfl (s_ldo (k := 0)  rfl vi_27 hS rfl rfl rfl (.inl rfl) ?_)
    refine l_heavy rfl (s_sta (k := 1)  rfl rfl vi_27 hS rfl rfl rfl (Nat.le_of_ble_eq_true rfl) rfl ?_)
    intro wz7 hS
    refine l_pure rfl (s_asg  rfl ?_)
    refine l_nil ?_
    repeat (with_reducible first | refine c_seq ?_ | refine c_block ?_ | refine c_skip ?_ | refine x_then ?_ | refine x_block ?_)
    refine c_ret ?_
    repeat (with_reducible first | refine x_then_ret ?_ | refine x_block_ret ?_)
    refine r_cell_tmp (k := 1) rfl rfl rfl vi_27 hS rfl rfl ?_
    exact ⟨rfl, hS.below⟩
theorem IndexI_ok (v : Value) (l : List Int) (x : Int) (w : World) (hv : Sl enI 1 w v l) :
    Ret Tryd.prog 59 #[v, .int .i64 x] w fun r w' => (∃ k : Int, r = .int .i64 k ∧ (0 ≤ k ↔ x ∈ l)) ∧ w' = w := by
  have hmax := hv.maxLen
  refine enter Tryd.func59 rfl Tryd.ntmps59 rfl ?_
  repeat (with_reducible first | refine c_seq ?_ | refine c_block ?_ | refine c_skip ?_ | refine x_then ?_ | refine x_block ?_)
  refine c_reg ?_
  refine l_pure rfl (s_asg  rfl ?_)
  refine l_nil ?_
  repeat (with_reducible first | refine c_seq ?_ | refine c_block ?_ | refine c_skip ?_ | refine x_then ?_ | refine x_block ?_)
  refine c_reg ?_
  refine l_pure rfl (s_move  rfl ?_)
  refine l_pure rfl (s_lenr  rfl hv ⟨_, Tryd.underlying31⟩ ?_)
  refine l_pure rfl (s_move  rfl ?_)
  refine l_nil ?_
  repeat (with_reducible first | refine c_seq ?_ | refine c_block ?_ | refine c_skip ?_ | refine x_then ?_ | refine x_block ?_)
  refine c_loop (σ := Nat) (fun i ρ w' => i ≤ l.length ∧ x ∉ l.take i ∧ ρ 0 = v ∧ ρ 1 = .int .i64 x ∧ ρ 7 = .int .i64 l.length ∧ ρ 8 = .int .i64 i ∧ w' = w) (fun i => l.length - i) 0
    ⟨Nat.zero_le _, by simp, rfl, rfl, rfl, rfl, rfl⟩ ?_
  rintro i ρ w2 ⟨hi, hn, h0, h1, h7, h8, rfl⟩
  repeat (with_reducible first | refine c_seq ?_ | refine c_block ?_ | refine c_skip ?_ | refine x_then ?_ | refine x_block ?_)
  refine c_reg ?_
  refine l_pure rfl (s_lss  h8 h7 ?_)
  refine l_nil ?_
  repeat (with_reducible first | refine c_seq ?_ | refine c_block ?_ | refine c_skip ?_ | refine x_then ?_ | refine x_block ?_)
  by_cases hlt : i < l.length
  · refine c_yes rfl (decide_eq_true (by omega)) ?_
    repeat (with_reducible first | refine c_seq ?_ | refine c_block ?_ | refine c_skip ?_ | refine x_then ?_ | refine x_block ?_)
    have ht := take_succ' l i 0 hlt
    repeat (with_reducible first | refine c_seq ?_ | refine c_block ?_ | refine c_skip ?_ | refine x_then ?_ | refine x_block ?_)
    refine c_reg ?_
    refine l_pure rfl (s_move  h8 ?_)
    refine l_pure rfl (s_asg  rfl ?_)
    refine l_nil ?_
    repeat (with_reducible first | refine c_seq ?_ | refine c_block ?_ | refine c_skip ?_ | refine x_then ?_ | refine x_block ?_)
    refine c_reg ?_
    refine l_pure rfl (s_move  h1 ?_)
    refine l_pure rfl (s_move  h0 ?_)
    refine l_pure rfl (s_move  rfl ?_)
    refine l_pure rfl (s_ixr (i := i)  rfl rfl hv (by omega) (by first | omega | (simp; done) | (simp; omega)) si_31 ?_)
    refine l_read rfl (s_lde (i := i) 0  rfl vi_3 hv (by first | omega | (simp; done) | (simp; omega)) rfl rfl (.inr rfl) ?_)
    refine l_pure rfl (s_eql  rfl rfl ?_)
    refine l_nil ?_
    repeat (with_reducible first | refine c_seq ?_ | refine c_block ?_ | refine c_skip ?_ | refine x_then ?_ | refine x_block ?_)
    by_cases hx : x = l.getD i 0
    · refine c_yes rfl (decide_eq_true hx) ?_
      repeat (with_reducible first | refine c_seq ?_ | refine c_block ?_ | refine c_skip ?_ | refine x_then ?_ | refine x_block ?_)
      refine c_reg ?_
      refine l_pure rfl (s_move  rfl ?_)
      refine l_pure rfl (s_asg  rfl ?_)
      refine l_nil ?_
      repeat (with_reducible first | refine c_seq ?_ | refine c_block ?_ | refine c_skip ?_ | refine x_then ?_ | refine x_block ?_)
      refine c_ret ?_
      repeat (with_reducible first | refine x_then_ret ?_ | refine x_block_ret ?_)
      refine r_one rfl rfl ?_
      exact ⟨⟨_, rfl, ⟨fun _ => by rw [hx]; exact getD_mem l i 0 hlt, fun _ => by omega⟩⟩, rfl⟩
    · refine c_no rfl (decide_eq_false hx) ?_
      repeat (with_reducible first | refine c_seq ?_ | refine c_block ?_ | refine c_skip ?_ | refine x_then ?_ | refine x_block ?_)
      refine c_reg ?_
      refine l_pure rfl (s_add  h8 rfl (IntWalk.i64_in _ (by omega)) ?_)
      refine l_pure rfl (s_move  rfl ?_)
      refine l_nil ?_
      repeat (with_reducible first | refine c_seq ?_ | refine c_block ?_ | refine c_skip ?_ | refine x_then ?_ | refine x_block ?_)
      exact ⟨i + 1, _, rfl, ⟨hlt, by rw [ht, List.mem_append, List.mem_singleton]; exact fun g => g.elim hn hx, h0, h1, h7, vi rfl (by omega), rfl⟩, by omega⟩
  · refine c_no rfl (decide_eq_false (by omega)) ?_
    repeat (with_reducible first | refine c_seq ?_ | refine c_block ?_ | refine c_skip ?_ | refine x_then ?_ | refine x_block ?_)
    refine c_exit ?_
    repeat (with_reducible first | refine x_then_exit ?_ | refine x_block_exit ?_ | refine x_block_pass rfl ?_)
    repeat (with_reducible first | refine c_seq ?_ | refine c_block ?_ | refine c_skip ?_ | refine x_then ?_ | refine x_block ?_)
    obtain rfl : i = l.length := by omega
    rw [List.take_length] at hn
    repeat (with_reducible first | refine c_seq ?_ | refine c_block ?_ | refine c_skip ?_ | refine x_then ?_ | refine x_block ?_)
    refine c_reg ?_
    refine l_pure rfl (s_asg  rfl ?_)
    refine l_nil ?_
    repeat (with_reducible first | refine c_seq ?_ | refine c_block ?_ | refine c_skip ?_ | refine x_then ?_ | refine x_block ?_)
    refine c_ret ?_
    repeat (with_reducible first | refine x_then_ret ?_ | refine x_block_ret ?_)
    refine r_one rfl rfl ?_
    exact ⟨⟨_, rfl, ⟨fun h => by omega, fun h => absurd h hn⟩⟩, rfl⟩
theorem ContainsI_ok (v : Value) (l : List Int) (x : Int) (w : World) (hv : Sl enI 1 w v l) :
    Ret Tryd.prog 36 #[v, .int .i64 x] w fun r w' => r = .bool (decide (x ∈ l)) ∧ w' = w := by
  refine enter Tryd.func36 rfl Tryd.ntmps36 rfl ?_
  repeat (with_reducible first | refine c_seq ?_ | refine c_block ?_ | refine c_skip ?_ | refine x_then ?_ | refine x_block ?_)
  refine c_reg ?_
  refine l_pure rfl (s_asg  rfl ?_)
  refine l_nil ?_
  repeat (with_reducible first | refine c_seq ?_ | refine c_block ?_ | refine c_skip ?_ | refine x_then ?_ | refine x_block ?_)
  refine c_reg ?_
  refine l_pure rfl (s_move  rfl ?_)
  refine l_pure rfl (s_move  rfl ?_)
  refine l_heavy rfl (s_call Tryd.call59 rfl (IndexI_ok v l x _ hv) ?_)
  rintro r w3 ⟨⟨k, rfl, hk⟩, rfl⟩
  refine l_pure rfl (s_geq  rfl rfl ?_)
  refine l_pure rfl (s_asg  rfl ?_)
  refine l_nil ?_
  repeat (with_reducible first | refine c_seq ?_ | refine c_block ?_ | refine c_skip ?_ | refine x_then ?_ | refine x_block ?_)
  refine c_ret ?_
  repeat (with_reducible first | refine x_then_ret ?_ | refine x_block_ret ?_)
  refine r_one rfl rfl ?_
  exact ⟨congrArg Value.bool (decide_eq_decide.2 hk), rfl⟩
theorem mem_nI {P : List Nat} {f : Nat} : (f : Int) ∈ nI P ↔ f ∈ P := by
  unfold nI
  rw [List.mem_map]
  constructor
  · rintro ⟨a, ha, e⟩
    rw [← Int.natCast_inj.1 e]; exact ha
  · intro h; exact ⟨f, h, rfl⟩
end Go.Proofs.YtblfipdfklpmmaaDoor
