/-
  Plain facts: totals telescope; their sums over sets of claims; what is paid without marshalling.
-/
import Derived.Test.YtfocimgpahjkmaaDoorLawBase
namespace Go.Proofs.YtfocimgpahjkmaaDoor
open Go Go.RowKit Go.Sx

theorem prF_nonneg (X : List It) (i : Nat) : 0 ≤ prF X i := by
  have key : ∀ q : Rat, 0 ≤ maxQ q 0 := fun q => by
    unfold maxQ
    split
    · assumption
    · exact Rat.le_refl
  exact key _
theorem sumIf_nonneg {n : Nat} {p : Nat → Bool} {f : Nat → Rat} (h : ∀ i, i < n → 0 ≤ f i) : 0 ≤ sumIf n p f := by
  induction n with
  | zero => exact Rat.le_refl
  | succ n ih =>
    have h1 := ih fun i hi => h i (by omega)
    have h2 := h n (by omega)
    rw [sumIf]
    split <;> grind
theorem sumIf_le3 {n : Nat} {p q r : Nat → Bool} {f g k : Nat → Rat} (h : ∀ i, i < n → (if p i = true then f i else 0) ≤ (if q i = true then g i else 0) + (if r i = true then k i else 0)) : sumIf n p f ≤ sumIf n q g + sumIf n r k := by
  induction n with
  | zero => simp only [sumIf]; grind
  | succ n ih =>
    have h1 := ih fun i hi => h i (by omega)
    have h2 := h n (by omega)
    simp only [sumIf]
    grind
theorem sumIf_le2 {n : Nat} {p q : Nat → Bool} {f g : Nat → Rat} (h : ∀ i, i < n → (if p i = true then f i else 0) ≤ (if q i = true then g i else 0)) : sumIf n p f ≤ sumIf n q g := by
  induction n with
  | zero => exact Rat.le_refl
  | succ n ih =>
    have h1 := ih fun i hi => h i (by omega)
    have h2 := h n (by omega)
    simp only [sumIf]
    grind
theorem sumIf_upd {n : Nat} {p : Nat → Bool} {f g : Nat → Rat} {j : Nat} (hj : j < n) (h : ∀ i, i < n → i ≠ j → g i = f i) : sumIf n p g = sumIf n p f + (if p j = true then g j - f j else 0) := by
  induction n with
  | zero => omega
  | succ n ih =>
    rw [sumIf, sumIf]
    by_cases e : j = n
    · subst e
      rw [sumIf_congr (p := p) (q := p) (f := g) (g := f) (fun i hi => ⟨rfl, h i (by omega) (by omega)⟩)]
      split <;> grind
    · rw [ih (by omega) (fun i hi hne => h i (by omega) hne), h n (by omega) (fun q => e q.symm)]
      grind
/-- Of the first K alone. -/
theorem sumIf_cut {K m : Nat} {p : Nat → Bool} {f : Nat → Rat} (h : K ≤ m) : sumIf m (fun k => decide (k < K) && p k) f = sumIf K p f := by
  induction m with
  | zero => obtain rfl : K = 0 := by omega
            rfl
  | succ m ih =>
    by_cases e : K = m + 1
    · subst e
      exact sumIf_congr fun i hi => ⟨by simp [hi], rfl⟩
    · rw [sumIf, ih (by omega), show decide (m < K) = false from decide_eq_false (by omega)]
      simp [Rat.add_zero]
theorem payF_nonneg (X : List It) (j : Nat) : 0 ≤ payF X j := sumIf_nonneg fun i _ => prF_nonneg X i
theorem capQ_none (X : List It) (owed : List RR) {s : Nat → Bool} (h : ∀ c, c < owed.length → s c = false) : capQ X owed s = 0 := by
  rw [capQ_congr (t := fun _ => false) h]
  unfold capQ
  refine Rat.le_antisymm ?_ ?_
  · have h1 := mins_le (capF X owed fun _ => false) (2 ^ X.length) 0 (.inr rfl)
    rw [capF_none, payF_zero] at h1
    exact h1
  · obtain ⟨i, _, e⟩ := mins_at (capF X owed fun _ => false) (2 ^ X.length)
    rw [e, capF_none]
    exact payF_nonneg X i
theorem preQ_eq (X : List It) (owed : List RR) (k : Nat) : preQ X owed k = capQ X owed fun i => decide (i < k) := by
  unfold preQ
  split
  · next h =>
    subst h
    exact (capQ_none X owed fun c _ => decide_eq_false (by omega)).symm
  · rfl
theorem preQ_zero (X : List It) (owed : List RR) : preQ X owed 0 = 0 := if_pos rfl
def totF (X : List It) (owed : List RR) (c : Nat) : Rat := preQ X owed (c + 1) - preQ X owed c
/-- The totals of any of the first claims sum up to at most the capacity of these. -/
theorem sets_le {X : List It} {owed : List RR} (hp : Pos owed) (s : Nat → Bool) {k : Nat} (hk : k ≤ owed.length) : sumIf k s (totF X owed) ≤ capQ X owed fun c => s c && decide (c < k) := by
  induction k with
  | zero =>
    rw [capQ_none X owed fun c _ => by simp]
    exact Rat.le_refl
  | succ k ih =>
    have h1 := ih (by omega)
    rw [sumIf]
    cases hs : s k with
    | false =>
      rw [capQ_congr (t := fun c => s c && decide (c < k)) (fun c _ => by
        by_cases e : c = k
        · subst e; rw [hs]; rfl
        · have : (c < k + 1) ↔ (c < k) := by omega
          simp only [this])]
      simpa [Rat.add_zero] using h1
    | true =>
      have h2 := capQ_sub (X := X) (x := k) hp (s := fun c => s c && decide (c < k)) (t := fun c => decide (c < k)) (sx := fun c => s c && decide (c < k + 1)) (tx := fun c => decide (c < k + 1))
        (fun c _ h => by simp at h ⊢; exact h.2)
        (fun c _ => by
          by_cases e : c = k
          · subst e; simp [hs]
          · have : (c < k + 1) ↔ (c < k) := by omega
            simp [this, e])
        (fun c _ => by simp; omega)
      have e1 := preQ_eq X owed k
      have e2 := preQ_eq X owed (k + 1)
      unfold totF at h1 ⊢
      rw [if_pos rfl]
      grind
theorem sets_all {X : List It} {owed : List RR} (hp : Pos owed) (s : Nat → Bool) : sumIf owed.length s (totF X owed) ≤ capQ X owed s := by
  have h := sets_le (X := X) hp s (Nat.le_refl _)
  rwa [capQ_congr (t := s) (fun c hc => by simp [hc])] at h
theorem tot_tele (X : List It) (owed : List RR) (k : Nat) : sumQ ((tab k fun c => ofQ (totF X owed c)).map toQ) = preQ X owed k := by
  induction k with
  | zero => rw [preQ_zero]; rfl
  | succ k ih =>
    rw [tab_succ, List.map_append, List.map_cons, List.map_nil, sumQ_snoc, ih, toQ_ofQ]
    unfold totF
    grind
def totI (X : List It) (owed : List RR) (i : Int) : Rat := totF X owed i.toNat
theorem sumQ_set (X : List It) (owed : List RR) (bits n : Nat) : sumQ ((setL bits n).map (totI X owed)) = sumIf n bits.testBit (totF X owed) := by
  induction n with
  | zero => rfl
  | succ n ih =>
    rw [setL_succ, sumIf]
    split
    · rw [List.map_append, List.map_cons, List.map_nil, sumQ_snoc, ih]; rfl
    · rw [ih, Rat.add_zero]
theorem L_sumQ {l : List Rat} {K : Nat} (h : ∀ q ∈ l, L q ≤ K) (k : Nat) : L (sumQ (l.take k)) ≤ k * (K + 1) + 1 := by
  induction k with
  | zero => rw [List.take_zero]; show L 0 ≤ _; rw [L_zero]; omega
  | succ k ih =>
    by_cases hk : k < l.length
    · rw [take_succ' l k 0 hk, sumQ_snoc]
      have h1 := L_add (sumQ (l.take k)) (l.getD k 0)
      have h2 := h _ (getD_mem l k 0 hk)
      rw [Nat.add_mul]; omega
    · rw [List.take_of_length_le (by omega)]
      rw [List.take_of_length_le (by omega)] at ih
      rw [Nat.add_mul]; omega
theorem sumL_bound {l : List RR} {K : Nat} (h : ∀ r ∈ l, Lr r ≤ K) : sumL l ≤ l.length * (K + 1) := by
  induction l with
  | nil => simp [sumL]
  | cons r l ih =>
    have h1 := ih fun x hx => h x (List.mem_cons_of_mem _ hx)
    have h2 := h r (List.mem_cons_self ..)
    rw [sumL, List.length_cons, Nat.add_mul]; omega
theorem L_totF {X : List It} {owed : List RR} {K : Nat} (hX : ItB K X) (ho : RB K owed) (hx8 : X.length ≤ 8) (ho24 : owed.length ≤ 24) (c : Nat) : L (totF X owed c) ≤ 80 * K + 91 := by
  have h1 := L_preQ hX ho hx8 ho24 (c + 1)
  have h2 := L_preQ hX ho hx8 ho24 c
  have h3 := L_sub (preQ X owed (c + 1)) (preQ X owed c)
  unfold totF; omega
theorem totL_eq {X : List It} {owed : List RR} (h : checkE X owed = 0) : totL X owed = tab owed.length fun c => ofQ (totF X owed c) := if_pos h
theorem gL_eq {X : List It} {owed : List RR} (h : checkE X owed = 0) : gL X owed = tab owed.length fun c => ofQ ((gall X owed owed.length).out c) := if_pos h

/-! ### What is paid without marshalling -/
/-- Of a state on the way, for a cut: nothing is negative, nobody receives more than is owed, and what claims within the cut have received came out of the cut. -/
structure GI (X : List It) (owed : List RR) (J : Nat) (s : GS) : Prop where
  p : ∀ i, 0 ≤ s.p i
  out : ∀ k, 0 ≤ s.out k
  owe : ∀ k, k < owed.length → s.out k ≤ owF owed k
  cut : sumIf owed.length (fun k => !outs X J k) s.out ≤ sumIf X.length J.testBit fun i => prF X i - s.p i
theorem GI.zero {X : List It} {owed : List RR} (hp : Pos owed) (J : Nat) : GI X owed J (gall X owed 0) := by
  refine ⟨fun i => prF_nonneg X i, fun _ => Rat.le_refl, fun k hk => hp k hk, ?_⟩
  have e1 : sumIf owed.length (fun k => !outs X J k) (gall X owed 0).out = 0 := by
    have : ∀ n, sumIf n (fun k => !outs X J k) (fun _ => (0 : Rat)) = 0 := by
      intro n
      induction n with
      | zero => rfl
      | succ n ih => rw [sumIf, ih]; simp [Rat.add_zero]
    exact this _
  rw [e1]
  refine sumIf_nonneg fun i _ => ?_
  show 0 ≤ prF X i - prF X i
  grind
theorem GI.step {X : List It} {owed : List RR} {J : Nat} {s : GS} {c i : Nat} (h : GI X owed J s) (hc : c < owed.length) (hi : i < X.length) : GI X owed J (gst X owed s c i) := by
  unfold gst
  split
  case isFalse => exact h
  case isTrue hsec =>
    obtain ⟨x, hx⟩ : ∃ x, x = pay owed s c i := ⟨_, rfl⟩
    rw [← hx]
    have h1 := h.p i
    have h2 := h.out c
    have h3 := h.owe c hc
    have hx1 : 0 ≤ x ∧ x ≤ owF owed c - s.out c ∧ x ≤ s.p i := by
      rw [hx]; unfold pay minQ
      split <;> grind
    obtain ⟨x0, x1, x2⟩ := hx1
    refine ⟨fun k => ?_, fun k => ?_, fun k hk => ?_, ?_⟩
    · show 0 ≤ if k = i then s.p i - x else s.p k
      split
      · grind
      · exact h.p k
    · show 0 ≤ if k = c then s.out c + x else s.out k
      split
      · grind
      · exact h.out k
    · show (if k = c then s.out c + x else s.out k) ≤ owF owed k
      split
      · next e => subst e; grind
      · exact h.owe k hk
    · have a1 := sumIf_upd (p := fun k => !outs X J k) (f := s.out) (g := fun k => if k = c then s.out c + x else s.out k) hc (fun k _ hne => if_neg hne)
      have a2 := sumIf_upd (p := J.testBit) (f := fun i => prF X i - s.p i) (g := fun k => prF X k - if k = i then s.p i - x else s.p k) hi (fun k _ hne => by simp only [if_neg hne])
      have a3 := h.cut
      simp only [if_true] at a1 a2
      have a4 : outs X J c = false → J.testBit i = true := by
        intro g
        cases hb : J.testBit i with
        | true => rfl
        | false =>
          have := (outs_iff X J c).2 ⟨i, hi, hb, hsec⟩
          rw [g] at this; cases this
      show sumIf owed.length (fun k => !outs X J k) (fun k => if k = c then s.out c + x else s.out k) ≤ sumIf X.length J.testBit (fun k => prF X k - if k = i then s.p i - x else s.p k)
      rw [a1, a2]
      cases ho : outs X J c with
      | true => cases J.testBit i <;> simp <;> grind
      | false => rw [a4 ho]; simp; grind
theorem GI.grow {X : List It} {owed : List RR} {J : Nat} {s : GS} {c : Nat} (h : GI X owed J s) (hc : c < owed.length) {i : Nat} (hi : i ≤ X.length) : GI X owed J (grow X owed c s i) := by
  induction i with
  | zero => exact h
  | succ i ih => exact (ih (by omega)).step hc (by omega)
theorem GI.gall {X : List It} {owed : List RR} (hp : Pos owed) (J : Nat) {c : Nat} (hc : c ≤ owed.length) : GI X owed J (gall X owed c) := by
  induction c with
  | zero => exact GI.zero hp J
  | succ c ih => exact (ih (by omega)).grow (by omega) (Nat.le_refl _)
def gout (X : List It) (owed : List RR) (c : Nat) : Rat := (gall X owed owed.length).out c
theorem greedy_le {X : List It} {owed : List RR} (hp : Pos owed) {K : Nat} (hK : K ≤ owed.length) : sumIf K (fun _ => true) (gout X owed) ≤ preQ X owed K := by
  rw [preQ_eq]
  unfold capQ
  obtain ⟨J, _, e⟩ := mins_at (capF X owed fun i => decide (i < K)) (2 ^ X.length)
  rw [e]
  have h := GI.gall (X := X) hp J (Nat.le_refl owed.length)
  rw [capF_eq, ← sumIf_cut (p := fun _ => true) hK]
  have h1 : sumIf owed.length (fun k => decide (k < K) && true) (gout X owed) ≤ sumIf owed.length (fun c => decide (c < K) && outs X J c) (owF owed) + sumIf owed.length (fun k => !outs X J k) (gall X owed owed.length).out := by
    refine sumIf_le3 fun k hk => ?_
    have b1 := h.out k
    have b2 := h.owe k hk
    unfold gout
    cases decide (k < K) <;> cases outs X J k <;> simp <;> grind
  have h2 : sumIf X.length J.testBit (fun i => prF X i - (gall X owed owed.length).p i) ≤ payF X J := by
    unfold payF
    refine sumIf_le2 fun i _ => ?_
    have := h.p i
    split <;> grind
  have h3 := h.cut
  grind
theorem gout_nonneg {X : List It} {owed : List RR} (hp : Pos owed) (k : Nat) : 0 ≤ gout X owed k := (GI.gall (X := X) hp 0 (Nat.le_refl owed.length)).out k
/-- Claim 0 takes all that it can. -/
theorem grow_first (X : List It) (owed : List RR) (i : Nat) : (grow X owed 0 (gall X owed 0) i).out 0 = minQ (owF owed 0) (sumIf i (fun j => secures (X.getD j zIt) 0) (prF X)) ∨ owF owed 0 < 0 := by
  by_cases h0 : owF owed 0 < 0
  · exact .inr h0
  refine .inl ?_
  have key : (grow X owed 0 (gall X owed 0) i).out 0 = minQ (owF owed 0) (sumIf i (fun j => secures (X.getD j zIt) 0) (prF X)) ∧ ∀ j, i ≤ j → (grow X owed 0 (gall X owed 0) i).p j = prF X j := by
    induction i with
    | zero =>
      refine ⟨?_, fun j _ => rfl⟩
      show (0 : Rat) = minQ (owF owed 0) 0
      unfold minQ
      split
      · grind
      · rfl
    | succ i ih =>
      obtain ⟨e1, e2⟩ := ih
      have e3 := e2 i (Nat.le_refl _)
      have hn := prF_nonneg X i
      have hs : 0 ≤ sumIf i (fun j => secures (X.getD j zIt) 0) (prF X) := sumIf_nonneg fun j _ => prF_nonneg X j
      rw [show grow X owed 0 (gall X owed 0) (i + 1) = gst X owed (grow X owed 0 (gall X owed 0) i) 0 i from rfl]
      unfold gst
      split
      · next hsec =>
        refine ⟨?_, fun j hj => ?_⟩
        · simp only [if_true]
          rw [sumIf, if_pos (show secures (X.getD i zIt) 0 = true from hsec)]
          unfold pay
          rw [e1, e3]
          unfold minQ
          split <;> split <;> split <;> grind
        · simp only [if_neg (show ¬ j = i by omega)]
          exact e2 j (by omega)
      · next hsec =>
        refine ⟨?_, fun j hj => e2 j (by omega)⟩
        rw [sumIf, if_neg (by simpa using hsec), Rat.add_zero]
        exact e1
  exact key.1
theorem gall_first (X : List It) (owed : List RR) {c : Nat} (hc : 1 ≤ c) : (gall X owed c).out 0 = (gall X owed 1).out 0 := by
  induction c with
  | zero => omega
  | succ c ih =>
    by_cases e : c = 0
    · subst e; rfl
    · rw [show gall X owed (c + 1) = grow X owed c (gall X owed c) X.length from rfl, grow_out (fun q => e q.symm)]
      exact ih (by omega)
/-- The number whose bits are given. -/
def maskN (p : Nat → Bool) : Nat → Nat
  | 0 => 0
  | n + 1 => maskN p n ||| (if p n = true then 2 ^ n else 0)
theorem maskN_lt (p : Nat → Bool) (n : Nat) : maskN p n < 2 ^ n := by
  induction n with
  | zero => exact Nat.two_pow_pos 0
  | succ n ih =>
    rw [maskN]
    refine Nat.or_lt_two_pow (Nat.lt_of_lt_of_le ih (Nat.pow_le_pow_right (by decide) (by omega))) ?_
    split
    · exact Nat.pow_lt_pow_right (by decide) (by omega)
    · exact Nat.two_pow_pos _
theorem maskN_bit (p : Nat → Bool) {n i : Nat} (h : i < n) : (maskN p n).testBit i = p i := by
  induction n with
  | zero => omega
  | succ n ih =>
    rw [maskN, Nat.testBit_or]
    by_cases e : i = n
    · subst e
      rw [Nat.testBit_lt_two_pow (maskN_lt p i)]
      cases hp : p i with
      | true => simp
      | false => simp
    · rw [ih (by omega)]
      have : (if p n = true then 2 ^ n else 0).testBit i = false := by
        split
        · rw [Nat.testBit_two_pow]; exact decide_eq_false (fun q => e q.symm)
        · exact Nat.zero_testBit _
      rw [this, Bool.or_false]
theorem first_eq {X : List It} {owed : List RR} (hp : Pos owed) (h1 : 1 ≤ owed.length) : preQ X owed 1 = gout X owed 0 := by
  have hge := greedy_le (X := X) hp h1
  have e0 : sumIf 1 (fun _ => true) (gout X owed) = gout X owed 0 := by simp [sumIf]; grind
  rw [e0] at hge
  refine Rat.le_antisymm ?_ hge
  have hp0 := hp 0 h1
  have e1 : gout X owed 0 = minQ (owF owed 0) (sumIf X.length (fun j => secures (X.getD j zIt) 0) (prF X)) := by
    unfold gout
    rw [gall_first X owed h1]
    exact (grow_first X owed X.length).resolve_right (Rat.not_lt.2 hp0)
  have hcut : ∀ J, sumIf owed.length (fun c => decide (c < 1) && outs X J c) (owF owed) = if outs X J 0 = true then owF owed 0 else 0 := fun J => by
    rw [sumIf_cut h1]; simp [sumIf]; grind
  rw [preQ_eq, e1]
  unfold capQ minQ
  split
  · have h2 := mins_le (capF X owed fun i => decide (i < 1)) (2 ^ X.length) 0 (.inr rfl)
    rw [capF_eq, hcut, payF_zero] at h2
    split at h2 <;> grind
  · obtain ⟨J, hJ⟩ : ∃ J, J = maskN (fun j => secures (X.getD j zIt) 0) X.length := ⟨_, rfl⟩
    have h2 := mins_le (capF X owed fun i => decide (i < 1)) (2 ^ X.length) J (.inl (by rw [hJ]; exact maskN_lt _ _))
    have ho : outs X J 0 = false := by
      cases h : outs X J 0 with
      | false => rfl
      | true =>
        obtain ⟨i, hi, hb, hs⟩ := (outs_iff X J 0).1 h
        rw [hJ, maskN_bit _ hi] at hb
        rw [show secures (X.getD i zIt) ((0 : Nat) : Int) = secures (X.getD i zIt) 0 from rfl, hb] at hs
        cases hs
    have hpay : payF X J = sumIf X.length (fun j => secures (X.getD j zIt) 0) (prF X) := by
      unfold payF
      exact sumIf_congr fun i hi => ⟨by rw [hJ, maskN_bit _ hi], rfl⟩
    rw [capF_eq, hcut, ho, hpay] at h2
    simpa [Rat.add_zero] using h2
theorem L_gout {X : List It} {owed : List RR} {K : Nat} (hX : ItB K X) (ho : RB K owed) (hx8 : X.length ≤ 8) (ho24 : owed.length ≤ 24) {c : Nat} (hc : c < owed.length) : L (gout X owed c) ≤ 41 * K + 42 :=
  ((tax_L ho (tax_gall hX ho hx8 ho24 (Nat.le_refl _))).1 c hc).2
theorem L_sumT {f : Nat → Rat} {K k : Nat} (h : ∀ i, i < k → L (f i) ≤ K) : L (sumIf k (fun _ => true) f) ≤ k * (K + 1) + 1 := L_sumIf k _ f K h
end Go.Proofs.YtfocimgpahjkmaaDoor
