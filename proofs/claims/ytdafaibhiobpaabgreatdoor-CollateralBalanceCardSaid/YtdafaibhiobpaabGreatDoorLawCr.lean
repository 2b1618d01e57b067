/-
  Plain facts: no money is lost, no claim receives more than is owed, no charge more than its limit.
-/
import Derived.Test.YtdafaibhiobpaabGreatDoorLawCp
namespace Go.Proofs.YtdafaibhiobpaabGreatDoor
open Go Go.RowKit Go.Sx

section
variable {cs : List Ch} {ow : Nat → Rat} {m K : Nat}
/-- Up to a border between priorities: what is paid and what is left are the proceeds. -/
theorem share_part {kp : Nat → Rat} (hk : ∀ i, 0 ≤ kp i) {P : Rat} : ∀ (d t : Nat), t ≤ (ordC cs).length → (ordC cs).length - t = d → (∀ i ∈ (ordC cs).take t, ∀ k ∈ (ordC cs).drop t, pr cs i < pr cs k) →
    totS (shQ cs kp P) ((ordC cs).take t) + maxQ (P - totS kp ((ordC cs).take t)) 0 = P →
    totS (shQ cs kp P) (ordC cs) + lefQ cs kp P = P := by
  intro d
  induction d using Nat.strongRecOn with
  | _ d ih =>
    intro t ht hd hbd hsum
    by_cases hlt : t < (ordC cs).length
    case neg =>
      rw [List.take_of_length_le (by omega)] at hsum
      exact hsum
    obtain ⟨J, hJ⟩ : ∃ J, J = ordC cs := ⟨_, rfl⟩
    rw [← hJ] at hlt ht hd hbd hsum
    obtain ⟨p, hp⟩ : ∃ p, p = pr cs (J.getD t 0) := ⟨_, rfl⟩
    obtain ⟨G, hG⟩ : ∃ G, G = (J.drop t).takeWhile fun i => decide (pr cs i = p) := ⟨_, rfl⟩
    have hJs : J.Pairwise (aheadC cs) := by rw [hJ]; exact ordC_sorted cs
    have hcons : J.drop t = J.getD t 0 :: J.drop (t + 1) := by
      rw [List.drop_eq_getElem_cons hlt, List.getD_eq_getElem?_getD, List.getElem?_eq_getElem hlt]; rfl
    have hg1 : 1 ≤ G.length := by
      rw [hG, hcons, List.takeWhile_cons, if_pos (by rw [← hp]; simp)]
      simp
    have hdw : J.drop t = G ++ (J.drop t).dropWhile fun i => decide (pr cs i = p) := by rw [hG, List.takeWhile_append_dropWhile]
    have hGl : t + G.length ≤ J.length := by
      have h1 := congrArg List.length hdw
      rw [List.length_append, List.length_drop] at h1
      omega
    have hGt : G = (J.drop t).take G.length := by
      conv => rhs; rw [hdw]
      rw [List.take_left]
    have hB : (J.drop t).dropWhile (fun i => decide (pr cs i = p)) = J.drop (t + G.length) := by
      rw [← List.drop_drop]
      conv => rhs; rw [hdw]
      rw [List.drop_left]
    have hGp : ∀ i ∈ G, pr cs i = p := fun i hi => by
      rw [hG] at hi
      have := List.all_eq_true.1 (List.all_takeWhile (l := J.drop t) (p := fun i => decide (pr cs i = p))) i hi
      simpa using this
    have hBp : ∀ i ∈ J.drop (t + G.length), p < pr cs i := fun i hi => by
      obtain ⟨b, hb1, hb2, rfl⟩ := mem_drop_get hi
      have hgl : t + G.length < J.length := by omega
      have m1 := ord_mono hJs (a := t) (b := t + G.length) (by omega) hgl
      have m2 := ord_mono hJs hb1 hb2
      have hne : pr cs (J.getD (t + G.length) 0) ≠ p := by
        have h2 : J.drop (t + G.length) = J.getD (t + G.length) 0 :: J.drop (t + G.length + 1) := by
          rw [List.drop_eq_getElem_cons hgl, List.getD_eq_getElem?_getD, List.getElem?_eq_getElem hgl]; rfl
        rw [← hB] at h2
        have h3 := List.head?_dropWhile_not (fun i => decide (pr cs i = p)) (J.drop t)
        rw [h2] at h3
        simpa using h3
      rw [← hp] at m1
      omega
    obtain ⟨A, hA⟩ : ∃ A, A = J.take t := ⟨_, rfl⟩
    have hAG : J.take (t + G.length) = A ++ G := by rw [hA, List.take_add, ← hGt]
    have hsplit : ordC cs = A ++ G ++ J.drop (t + G.length) := by rw [← hAG, List.take_append_drop, hJ]
    have hi0 : J.getD t 0 ∈ J.drop t := by rw [hcons]; exact List.mem_cons_self
    obtain ⟨r1, r2⟩ := run_split hsplit (fun i hi => by rw [hp]; exact hbd i (by rw [← hA]; exact hi) _ hi0) hGp hBp kp
    rw [← hA] at hsum
    have e1 : totS (shQ cs kp P) G = totS kp G * quoQ (maxQ (P - totS kp A) 0) (totS kp G) := by
      rw [← totS_mul]
      refine totS_congr fun i hi => ?_
      unfold shQ monQ
      rw [hGp i hi, r1, r2]
    have hm0 : 0 ≤ maxQ (P - totS kp A) 0 := by unfold maxQ; split <;> grind
    have e2 := run_money (m := maxQ (P - totS kp A) 0) (s := totS kp G) hm0
    rw [max_step _ _ _ (totS_nonneg fun i _ => hk i), ← totS_append] at e2
    refine ih (J.length - (t + G.length)) (by omega) (t + G.length) (by rw [← hJ]; exact hGl) (by rw [← hJ]) ?_ ?_
    · rw [← hJ]
      intro i hi k hk2
      rw [hAG] at hi
      have q := hBp k hk2
      rcases List.mem_append.1 hi with h | h
      · have := hbd i (by rw [← hA]; exact h) _ hi0
        rw [← hp] at this
        omega
      · have := hGp i h
        omega
    · rw [← hJ, hAG, totS_append, e1]
      grind
theorem share_sum {kp : Nat → Rat} (hk : ∀ i, 0 ≤ kp i) {P : Rat} (hP : 0 ≤ P) : totS (shQ cs kp P) (ordC cs) + lefQ cs kp P = P :=
  share_part hk _ 0 (Nat.zero_le _) rfl (fun i hi => by rw [List.take_zero] at hi; cases hi) (by
    rw [List.take_zero, totS_nil, totS_nil, show P - 0 = P by grind, maxQ_pos hP]; grind)
/-- The capacities of a claim's charges are within what is owed. -/
theorem kapS_claim {J : List Nat} (hnd : J.Nodup) (c : Nat) (k : Nat) (hk : k ≤ J.length) :
    (kapS cs ow (J.take k)).op c + totS (kapS cs ow (J.take k)).cap ((J.take k).filter fun i => decide (clm cs i = c)) = ow c ∧ ∀ i, i ∉ J.take k → (kapS cs ow (J.take k)).cap i = 0 := by
  induction k with
  | zero => exact ⟨by show ow c + 0 = ow c; grind, fun i _ => rfl⟩
  | succ k ih =>
    obtain ⟨ih1, ih2⟩ := ih (by omega)
    have hlt : k < J.length := by omega
    have htk := take_succ' J k 0 hlt
    obtain ⟨i, hi⟩ : ∃ i, i = J.getD k 0 := ⟨_, rfl⟩
    rw [← hi] at htk
    have hnd2 : (J.take k ++ [i]).Nodup := by rw [← htk]; exact hnd.sublist (List.take_sublist _ _)
    have hni : i ∉ J.take k := fun g => (List.nodup_append.1 hnd2).2.2 i g i (List.mem_singleton.2 rfl) rfl
    rw [htk, kapS_snoc]
    obtain ⟨S, hS⟩ : ∃ S, S = kapS cs ow (J.take k) := ⟨_, rfl⟩
    rw [← hS] at ih1 ih2 ⊢
    obtain ⟨rm, hrm⟩ : ∃ q, q = roomQ (gC cs i) (S.op (clm cs i)) := ⟨_, rfl⟩
    have hcap : ∀ j, (cstp cs S i).cap j = if j = i then rm else S.cap j := fun j => by rw [hrm]; rfl
    have hop : (cstp cs S i).op c = if c = clm cs i then S.op c - rm else S.op c := by rw [hrm]; rfl
    have e1 : totS (cstp cs S i).cap ((J.take k).filter fun i => decide (clm cs i = c)) = totS S.cap ((J.take k).filter fun i => decide (clm cs i = c)) := totS_congr fun j hj => by
      have hjm := (List.mem_filter.1 hj).1
      rw [hcap, if_neg (fun (e : j = i) => hni (by rw [← e]; exact hjm))]
    refine ⟨?_, fun j hj => ?_⟩
    · rw [List.filter_append, totS_append, e1, hop]
      by_cases e : clm cs i = c
      · rw [List.filter_cons_of_pos (by simp [e]), List.filter_nil, totS_cons, totS_nil, hcap, if_pos rfl, if_pos e.symm]
        grind
      · rw [List.filter_cons_of_neg (by simp [e]), List.filter_nil, totS_nil, if_neg (fun g => e g.symm)]
        grind
    · rw [hcap, if_neg (fun (e : j = i) => hj (by rw [e]; exact List.mem_append_right _ (List.mem_singleton.2 rfl)))]
      exact ih2 j fun g => hj (List.mem_append_left _ g)
theorem kap_claim (h : ChOk cs ow m K) {c : Nat} (hc : c < m) : totS (kapQ cs ow) ((ordC cs).filter fun i => decide (clm cs i = c)) ≤ ow c := by
  have h1 := (kapS_claim (cs := cs) (ow := ow) (ordC_nodup cs) c (ordC cs).length (Nat.le_refl _)).1
  have h2 := (kapS_bound h (J := ordC cs) (fun i hi => ordC_mem.1 hi) (ordC cs).length (Nat.le_refl _)).1 c hc
  rw [List.take_of_length_le (Nat.le_refl _)] at h1 h2
  have h3 := h2.1
  have e : totS (kapQ cs ow) ((ordC cs).filter fun i => decide (clm cs i = c)) = totS (kapS cs ow (ordC cs)).cap ((ordC cs).filter fun i => decide (clm cs i = c)) := rfl
  rw [e]
  grind
theorem totS_le {f g : Nat → Rat} {J : List Nat} (h : ∀ i ∈ J, f i ≤ g i) : totS f J ≤ totS g J := by
  induction J with
  | nil => exact Rat.le_refl
  | cons a J ih =>
    rw [totS_cons, totS_cons]
    have h1 := h a List.mem_cons_self
    have h2 := ih fun i hi => h i (List.mem_cons_of_mem _ hi)
    grind
theorem sh_claim (h : ChOk cs ow m K) (P : Rat) {c : Nat} (hc : c < m) : totS (shQ cs (kapQ cs ow) P) ((List.range cs.length).filter fun i => decide (clm cs i = c)) ≤ ow c := by
  rw [← totS_perm ((ordC_perm cs).filter _)]
  exact Rat.le_trans (totS_le fun i _ => sh_le (fun j => (kap_bound h j).1) P i) (kap_claim h hc)
end
end Go.Proofs.YtdafaibhiobpaabGreatDoor
