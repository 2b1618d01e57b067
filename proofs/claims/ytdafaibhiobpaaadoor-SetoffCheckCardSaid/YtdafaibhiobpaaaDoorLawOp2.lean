/-
  Plain facts: what set-off takes off, pair by pair.
-/
import Derived.Test.YtdafaibhiobpaaaDoorLawOf
namespace Go.Proofs.YtdafaibhiobpaaaDoor
open Go Go.RowKit Go.Sx

def Nng (l : List Ob) : Prop := ∀ i, 0 ≤ oQ l i
theorem nng_of {n : Int} {l : List Ob} (h : obsE n l = 0) : Nng l := fun i => by
  by_cases hi : i < l.length
  · exact oQ_nonneg h hi
  · unfold oQ gO
    rw [List.getD_eq_getElem?_getD, List.getElem?_eq_none (by omega)]
    show 0 ≤ toQ zRR
    rw [toQ_zRR]; exact Rat.le_refl
theorem totS_nonneg {l : List Ob} (h : Nng l) (J : List Nat) : 0 ≤ totS (oQ l) J := sumQ_nonneg fun q hq => by
  obtain ⟨i, _, rfl⟩ := List.mem_map.1 hq
  exact h i
theorem mQ_le {l : List Ob} (c s a b : Int) : mQ l c s a b ≤ totS (oQ l) (ordL l c s a b) ∧ mQ l c s a b ≤ totS (oQ l) (ordL l c s b a) := by
  unfold mQ minQ
  split <;> grind
theorem mQ_nonneg {l : List Ob} (h : Nng l) (c s a b : Int) : 0 ≤ mQ l c s a b := by
  have h1 := totS_nonneg h (ordL l c s a b)
  have h2 := totS_nonneg h (ordL l c s b a)
  unfold mQ minQ
  split <;> grind
/-- Of an eligible obligation of a to b. -/
theorem finQ_at {l : List Ob} {c s a b : Int} {i : Nat} (hi : i ∈ ordL l c s a b) : finQ l c s i = (redu ⟨oQ l, mQ l c s a b⟩ (ordL l c s a b)).rest i := by
  have hg := (ordL_mem.1 hi).2
  unfold goes at hg
  simp only [Bool.and_eq_true, decide_eq_true_eq] at hg
  unfold finQ
  rw [hg.1.1, hg.1.2]
theorem finQ_bound {l : List Ob} (h : Nng l) (c s : Int) (i : Nat) : 0 ≤ finQ l c s i ∧ finQ l c s i ≤ oQ l i := by
  by_cases hi : i ∈ ordL l c s (gO l i).deb (gO l i).cre
  · obtain ⟨f1, _⟩ := redu_facts (ordL_nodup l c s (gO l i).deb (gO l i).cre) (s := ⟨oQ l, mQ l c s (gO l i).deb (gO l i).cre⟩) (fun j _ => h j) (mQ_nonneg h c s _ _)
    exact f1 i hi
  · have e : finQ l c s i = oQ l i := by unfold finQ; rw [redu_off hi]
    rw [e]
    exact ⟨h i, Rat.le_refl⟩
theorem totS_fin {l : List Ob} (c s a b : Int) : totS (finQ l c s) (ordL l c s a b) = totS (redu ⟨oQ l, mQ l c s a b⟩ (ordL l c s a b)).rest (ordL l c s a b) := by
  unfold totS
  rw [List.map_congr_left fun i hi => finQ_at hi]
/-- What is set off in one direction is what is set off in the other one. -/
theorem taken {l : List Ob} (h : Nng l) (c s a b : Int) : totS (oQ l) (ordL l c s a b) - totS (finQ l c s) (ordL l c s a b) = mQ l c s a b := by
  obtain ⟨f1, f2, f3, f4⟩ := redu_facts (ordL_nodup l c s a b) (s := ⟨oQ l, mQ l c s a b⟩) (fun j _ => h j) (mQ_nonneg h c s a b)
  rw [totS_fin]
  have hle := (mQ_le (l := l) c s a b).1
  have f3' : totS (oQ l) (ordL l c s a b) - totS (redu ⟨oQ l, mQ l c s a b⟩ (ordL l c s a b)).rest (ordL l c s a b) = mQ l c s a b - (redu ⟨oQ l, mQ l c s a b⟩ (ordL l c s a b)).amt := f3
  rw [f3']
  by_cases hp : 0 < (redu ⟨oQ l, mQ l c s a b⟩ (ordL l c s a b)).amt
  · exfalso
    have hz := f4 hp
    have e0 : totS (redu ⟨oQ l, mQ l c s a b⟩ (ordL l c s a b)).rest (ordL l c s a b) = 0 := by
      unfold totS
      rw [List.map_congr_left hz]
      generalize ordL l c s a b = J
      induction J with
      | nil => rfl
      | cons x J ih => rw [List.map_cons, sumQ_cons, ih]; grind
    rw [e0] at f3'
    grind
  · have := Rat.le_antisymm (Rat.not_lt.1 hp) f2
    rw [this]; grind
/-- A sum over the indexes in their order is one over the obligations. -/
theorem totS_ord {l : List Ob} (q : Nat → Rat) (c s a b : Int) : totS q (ordL l c s a b) = sumIf l.length (goes l c s a b) q := by
  have h1 : totS q (ordL l c s a b) = totS q (selL l c s a b l.length) := sumQ_perm ((isort_perm _ _).map q)
  rw [h1]
  have key : ∀ n, totS q (selL l c s a b n) = sumIf n (goes l c s a b) q := by
    intro n
    induction n with
    | zero => rfl
    | succ n ih =>
      rw [selL_succ, sumIf]
      unfold totS at ih ⊢
      split
      · rw [List.map_append, List.map_cons, List.map_nil, sumQ_snoc, ih]
      · rw [ih, Rat.add_zero]
  exact key _
def isP (l : List Ob) (a b : Int) (i : Nat) : Bool := decide ((gO l i).deb = a) && decide ((gO l i).cre = b)
theorem sumIf_sub (n : Nat) (p : Nat → Bool) (f g : Nat → Rat) : sumIf n p (fun i => f i - g i) = sumIf n p f - sumIf n p g := by
  induction n with
  | zero => show (0 : Rat) = 0 - 0; grind
  | succ n ih =>
    simp only [sumIf, ih]
    split <;> grind
theorem lost_pair {l : List Ob} (h : Nng l) (c s a b : Int) : sumIf l.length (isP l a b) (oQ l) - sumIf l.length (isP l a b) (finQ l c s) = mQ l c s a b := by
  rw [← taken h c s a b, totS_ord, totS_ord, ← sumIf_sub, ← sumIf_sub]
  have key : ∀ n, sumIf n (isP l a b) (fun i => oQ l i - finQ l c s i) = sumIf n (goes l c s a b) (fun i => oQ l i - finQ l c s i) := by
    intro n
    induction n with
    | zero => rfl
    | succ n ih =>
      rw [sumIf, sumIf, ih]
      congr 1
      cases he : eligB (gO l n) c s with
      | true =>
        have : isP l a b n = goes l c s a b n := by unfold isP goes; rw [he, Bool.and_true]
        rw [this]
      | false =>
        have : goes l c s a b n = false := by unfold goes; rw [he, Bool.and_false]
        rw [this, finQ_off he]
        split <;> grind
  exact key _
def netQ (l : List Ob) (q : Nat → Rat) (a b : Int) (k : Nat) : Rat := sumIf k (isP l a b) q - sumIf k (isP l b a) q
theorem net_same {l : List Ob} (h : Nng l) (c s a b : Int) : netQ l (oQ l) a b l.length = netQ l (finQ l c s) a b l.length := by
  have h1 := lost_pair h c s a b
  have h2 := lost_pair h c s b a
  rw [mQ_comm] at h2
  unfold netQ
  grind
/-- At most one of two parties owes the other one. -/
theorem one_sided {l : List Ob} (h : Nng l) (c s a b : Int) : sumIf l.length (goes l c s a b) (finQ l c s) = 0 ∨ sumIf l.length (goes l c s b a) (finQ l c s) = 0 := by
  have h1 := taken h c s a b
  have h2 := taken h c s b a
  rw [mQ_comm] at h2
  rw [totS_ord, totS_ord] at h1 h2
  have e : mQ l c s a b = sumIf l.length (goes l c s a b) (oQ l) ∨ mQ l c s a b = sumIf l.length (goes l c s b a) (oQ l) := by
    unfold mQ
    rw [totS_ord, totS_ord]
    unfold minQ
    split <;> simp
  rcases e with e | e
  · left; grind
  · right; grind
theorem lost_elig {l : List Ob} (h : Nng l) (c s a b : Int) : sumIf l.length (goes l c s a b) (fun i => oQ l i - finQ l c s i) = mQ l c s a b := by
  rw [sumIf_sub, ← taken h c s a b, totS_ord, totS_ord]
/-- An eligible obligation is touched only if those ahead of it are gone. -/
theorem oldest_first {l : List Ob} (h : Nng l) {c s a b : Int} {i k : Nat} (hi : i ∈ ordL l c s a b) (hk : k ∈ ordL l c s a b) (hik : ahead l i k) (hne : finQ l c s k ≠ oQ l k) : finQ l c s i = 0 := by
  rw [finQ_at hi]
  rw [finQ_at hk] at hne
  have key : ∀ (J : List Nat) (s0 : RS), J.Nodup → J.Pairwise (ahead l) → (∀ j ∈ J, 0 ≤ s0.rest j) → 0 ≤ s0.amt → i ∈ J → k ∈ J → (redu s0 J).rest k ≠ s0.rest k → (redu s0 J).rest i = 0 := by
    intro J s0 hnd hs h0 ha hi hk hne
    obtain ⟨A, B, e⟩ := List.append_of_mem hk
    subst e
    have hiA : i ∈ A := by
      rcases List.mem_append.1 hi with g | g
      · exact g
      · exfalso
        rcases List.mem_cons.1 g with g | g
        · subst g
          unfold ahead at hik
          omega
        · have := (List.pairwise_cons.1 (List.pairwise_append.1 hs).2.1).1 i g
          unfold ahead at this hik
          omega
    exact redu_order hnd h0 ha (List.mem_cons_self ..) hne i hiA
  exact key (ordL l c s a b) ⟨oQ l, mQ l c s a b⟩ (ordL_nodup l c s a b) (ordL_sorted l c s a b) (fun j _ => h j) (mQ_nonneg h c s a b) hi hk hne
end Go.Proofs.YtdafaibhiobpaaaDoor
