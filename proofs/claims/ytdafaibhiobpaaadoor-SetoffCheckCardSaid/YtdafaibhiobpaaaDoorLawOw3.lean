/-
  Walks: what remains of each obligation.
-/
import Derived.Test.YtdafaibhiobpaaaDoorLawOw2
namespace Go.Proofs.YtdafaibhiobpaaaDoor
open Go Go.RowKit Go.Sx

theorem obsE_zero {n : Int} {l : List Ob} (h : obsE n l = 0) : 0 ≤ n ∧ n ≤ 32 ∧ l.length ≤ 64 ∧ ∀ o ∈ l, obErr n o = 0 := by
  unfold obsE at h
  split at h
  · cases h
  · split at h
    · cases h
    · exact ⟨by omega, by omega, by omega, firstE_zero h⟩
theorem obErr_zero {n : Int} {o : Ob} (h : obErr n o = 0) : pairB n o.deb o.cre = true ∧ 0 ≤ toQ o.amt ∧ isDay o.inc = true ∧ isDay o.acq = true ∧ o.inc ≤ o.acq := by
  unfold obErr at h
  split at h
  · cases h
  · next h1 =>
    split at h
    · cases h
    · next h2 =>
      split at h
      · cases h
      · next h3 =>
        split at h
        · cases h
        · next h4 =>
          refine ⟨by cases hp : pairB n o.deb o.cre <;> simp_all, Rat.not_lt.1 h2, ?_, ?_, by omega⟩
          · cases hd : isDay o.inc <;> simp_all
          · cases hd : isDay o.acq <;> simp_all
theorem chkE_zero {n c s : Int} {l : List Ob} (h : chkE n l c s = 0) : obsE n l = 0 ∧ isDay c = true ∧ isDay s = true := by
  unfold chkE at h
  split at h
  · next h1 => exact absurd h h1
  · next h1 =>
    split at h
    · cases h
    · next h2 =>
      refine ⟨Decidable.not_not.1 h1, ?_, ?_⟩
      · cases hd : isDay c <;> simp_all
      · cases hd : isDay s <;> simp_all
theorem days_of {n : Int} {l : List Ob} (h : obsE n l = 0) : Days l := fun o ho => isDay_b (obErr_zero ((obsE_zero h).2.2.2 o ho)).2.2.1
theorem goO {l : List Ob} {i : Nat} (h : i < l.length) : gO l i ∈ l := getD_mem l i zOb h
theorem oQ_nonneg {n : Int} {l : List Ob} (h : obsE n l = 0) {i : Nat} (hi : i < l.length) : 0 ≤ oQ l i := (obErr_zero ((obsE_zero h).2.2.2 _ (goO hi))).2.1
theorem L_oQ {K : Nat} {l : List Ob} (h : ObB K l) {i : Nat} (hi : i < l.length) : L (oQ l i) ≤ K := Nat.le_trans (L_toQ _) (h _ (goO hi))
theorem ordL_len (l : List Ob) (c s a b : Int) : (ordL l c s a b).length ≤ l.length := by
  unfold ordL; rw [isort_len]; exact selL_len l c s a b l.length
theorem L_totS {q : Nat → Rat} {J : List Nat} {K : Nat} (h : ∀ i ∈ J, L (q i) ≤ K) : L (totS q J) ≤ J.length * (K + 1) + 1 := by
  have h1 := L_sumQ' (l := J.map q) (K := K) (fun x hx => by obtain ⟨j, hj, rfl⟩ := List.mem_map.1 hx; exact h j hj) J.length
  rw [List.take_of_length_le (by simp)] at h1
  exact h1
theorem L_tot {K : Nat} {l : List Ob} (h : ObB K l) (h20 : l.length ≤ 20) (c s a b : Int) : L (totS (oQ l) (ordL l c s a b)) ≤ 20 * (K + 1) + 1 := by
  have h1 := L_totS (q := oQ l) (J := ordL l c s a b) (K := K) fun i hi => L_oQ h (ordL_mem.1 hi).1
  have h2 := ordL_len l c s a b
  have h3 : (ordL l c s a b).length * (K + 1) ≤ 20 * (K + 1) := Nat.mul_le_mul_right _ (by omega)
  omega
theorem L_mQ {K : Nat} {l : List Ob} (h : ObB K l) (h20 : l.length ≤ 20) (c s a b : Int) : L (mQ l c s a b) ≤ 20 * (K + 1) + 1 := by
  have h1 := L_tot h h20 c s a b
  have h2 := L_tot h h20 c s b a
  have h3 := L_min (totS (oQ l) (ordL l c s a b)) (totS (oQ l) (ordL l c s b a))
  unfold mQ; omega
/-- How long numbers become by a reduction. -/
theorem redu_L {J : List Nat} (hnd : J.Nodup) {s : RS} {K M : Nat} (hK : ∀ i ∈ J, L (s.rest i) ≤ K) (hM : L s.amt ≤ M) (k : Nat) (hk : k ≤ J.length) :
    L (redu s (J.take k)).amt ≤ M + k * (K + 1) ∧ ∀ i ∈ J, L ((redu s (J.take k)).rest i) ≤ K + M + k * (K + 1) + 1 := by
  induction k with
  | zero =>
    refine ⟨by rw [List.take_zero]; show L s.amt ≤ _; omega, fun i hi => ?_⟩
    rw [List.take_zero]
    have := hK i hi
    show L (s.rest i) ≤ _
    omega
  | succ k ih =>
    obtain ⟨h1, h2⟩ := ih (by omega)
    have hlt : k < J.length := by omega
    obtain ⟨i, hi⟩ : ∃ i, i = J.getD k 0 := ⟨_, rfl⟩
    have hiJ : i ∈ J := by rw [hi]; exact getD_mem J k 0 hlt
    rw [take_succ' J k 0 hlt, redu_snoc, ← hi]
    have hnot : i ∉ J.take k := by
      intro g
      obtain ⟨j, hj, e⟩ := List.mem_iff_getElem.1 g
      rw [List.length_take] at hj
      rw [List.getElem_take] at e
      rw [hi, List.getD_eq_getElem?_getD, List.getElem?_eq_getElem hlt] at e
      have := (List.getElem_inj hnd).1 e
      omega
    have hr : (redu s (J.take k)).rest i = s.rest i := redu_off hnot s
    have hri := hK i hiJ
    obtain ⟨S, hS⟩ : ∃ S, S = redu s (J.take k) := ⟨_, rfl⟩
    rw [← hS] at h1 h2 hr ⊢
    have hz : L 0 = 1 := L_zero
    have hM1 := L_pos s.amt
    rw [Nat.add_mul]
    have hm : minQ (S.rest i) S.amt = S.rest i ∨ minQ (S.rest i) S.amt = S.amt := by unfold minQ; split <;> simp
    refine ⟨?_, fun j hj => ?_⟩
    · show L (S.amt - minQ (S.rest i) S.amt) ≤ _
      rcases hm with e | e
      · rw [e, hr]
        have := L_sub S.amt (s.rest i)
        omega
      · rw [e, Rat.sub_self, hz]; omega
    · show L (if j = i then S.rest i - minQ (S.rest i) S.amt else S.rest j) ≤ _
      split
      · rcases hm with e | e
        · rw [e, Rat.sub_self, hz]; omega
        · rw [e, hr]
          have := L_sub (s.rest i) S.amt
          omega
      · have := h2 j hj
        omega
theorem L_finQ {K : Nat} {l : List Ob} (h : ObB K l) (h20 : l.length ≤ 20) (c s : Int) {i : Nat} (hi : i < l.length) : L (finQ l c s i) ≤ 41 * K + 43 := by
  cases he : eligB (gO l i) c s with
  | false =>
    rw [finQ_off he]
    have := L_oQ h hi
    omega
  | true =>
    have hm : i ∈ ordL l c s (gO l i).deb (gO l i).cre := ordL_mem.2 ⟨hi, by unfold goes; rw [he]; simp⟩
    have h1 := redu_L (ordL_nodup l c s (gO l i).deb (gO l i).cre) (s := ⟨oQ l, mQ l c s (gO l i).deb (gO l i).cre⟩) (K := K) (M := 20 * (K + 1) + 1) (fun j hj => L_oQ h (ordL_mem.1 hj).1) (L_mQ h h20 c s _ _) _ (Nat.le_refl _)
    rw [List.take_length] at h1
    have h2 := h1.2 i hm
    have h3 := ordL_len l c s (gO l i).deb (gO l i).cre
    have h4 : (ordL l c s (gO l i).deb (gO l i).cre).length * (K + 1) ≤ 20 * (K + 1) := Nat.mul_le_mul_right _ (by omega)
    unfold finQ
    omega

/-! ### What remains, pair by pair -/
/-- Has the pair of an obligation's parties had its turn? -/
def doneB (l : List Ob) (a b : Int) (i : Nat) : Bool := decide ((gO l i).deb < a ∧ (gO l i).cre < a ∨ (gO l i).deb = a ∧ (gO l i).cre < b ∨ (gO l i).cre = a ∧ (gO l i).deb < b)
def stQ (l : List Ob) (c s a b : Int) (i : Nat) : Rat := if doneB l a b i = true then finQ l c s i else oQ l i
theorem stQ_start (l : List Ob) (c s : Int) (n : Int) (hn : obsE n l = 0) {i : Nat} (hi : i < l.length) : stQ l c s 0 0 i = oQ l i := by
  have hp := (obErr_zero ((obsE_zero hn).2.2.2 _ (goO hi))).1
  have hp' : _ := of_decide_eq_true hp
  unfold stQ
  rw [if_neg]
  intro g
  have := of_decide_eq_true g
  omega
theorem stQ_end (l : List Ob) (c s : Int) (n : Int) (hn : obsE n l = 0) {i : Nat} (hi : i < l.length) : stQ l c s n 0 i = finQ l c s i := by
  have hp := (obErr_zero ((obsE_zero hn).2.2.2 _ (goO hi))).1
  have hp' : _ := of_decide_eq_true hp
  unfold stQ
  rw [if_pos]
  exact decide_eq_true (by omega)
/-- A new a: nothing changes. -/
theorem stQ_next (l : List Ob) (c s a : Int) (n : Int) (hn : obsE n l = 0) {i : Nat} (hi : i < l.length) : stQ l c s a a i = stQ l c s (a + 1) 0 i := by
  have hp := (obErr_zero ((obsE_zero hn).2.2.2 _ (goO hi))).1
  have hp' : _ := of_decide_eq_true hp
  have : doneB l a a i = doneB l (a + 1) 0 i := by
    unfold doneB
    rw [decide_eq_decide]
    omega
  unfold stQ
  rw [this]
theorem stQ_own {l : List Ob} {c s a b : Int} (hab : b < a) {i : Nat} (hi : i ∈ ordL l c s a b ∨ i ∈ ordL l c s b a) : stQ l c s a b i = oQ l i := by
  unfold stQ
  rw [if_neg]
  intro g
  have g' := of_decide_eq_true g
  rcases hi with hi | hi <;>
  · have := (ordL_mem.1 hi).2
    unfold goes at this
    simp only [Bool.and_eq_true, decide_eq_true_eq] at this
    omega
theorem stQ_step {l : List Ob} {c s a b : Int} (hab : b < a) (i : Nat) :
    (redu ⟨(redu ⟨stQ l c s a b, mQ l c s a b⟩ (ordL l c s a b)).rest, mQ l c s a b⟩ (ordL l c s b a)).rest i = stQ l c s a (b + 1) i := by
  have hdis : ∀ i, i ∈ ordL l c s a b → i ∉ ordL l c s b a := fun i h1 h2 => by
    have h1 := (ordL_mem.1 h1).2
    have h2 := (ordL_mem.1 h2).2
    unfold goes at h1 h2
    simp only [Bool.and_eq_true, decide_eq_true_eq] at h1 h2
    omega
  by_cases h1 : i ∈ ordL l c s a b
  · have hg := (ordL_mem.1 h1).2
    unfold goes at hg
    simp only [Bool.and_eq_true, decide_eq_true_eq] at hg
    rw [redu_off (hdis i h1)]
    show (redu ⟨stQ l c s a b, mQ l c s a b⟩ (ordL l c s a b)).rest i = _
    have h2 := (redu_congr (s := ⟨stQ l c s a b, mQ l c s a b⟩) (t := ⟨oQ l, mQ l c s a b⟩) (idx := ordL l c s a b) (fun j hj => stQ_own hab (.inl hj)) rfl).1 i h1
    rw [h2]
    unfold stQ
    rw [if_pos (show doneB l a (b + 1) i = true from decide_eq_true (by omega))]
    unfold finQ
    rw [hg.1.1, hg.1.2]
  · by_cases h2 : i ∈ ordL l c s b a
    · have hg := (ordL_mem.1 h2).2
      unfold goes at hg
      simp only [Bool.and_eq_true, decide_eq_true_eq] at hg
      have h3 := (redu_congr (s := ⟨(redu ⟨stQ l c s a b, mQ l c s a b⟩ (ordL l c s a b)).rest, mQ l c s a b⟩) (t := ⟨oQ l, mQ l c s b a⟩) (idx := ordL l c s b a) (fun j hj => by
        show (redu ⟨stQ l c s a b, mQ l c s a b⟩ (ordL l c s a b)).rest j = oQ l j
        rw [redu_off (fun g => hdis j g hj)]
        exact stQ_own hab (.inr hj)) (mQ_comm l c s a b)).1 i h2
      rw [h3]
      unfold stQ
      rw [if_pos (show doneB l a (b + 1) i = true from decide_eq_true (by omega))]
      unfold finQ
      rw [hg.1.1, hg.1.2]
    · rw [redu_off h2]
      show (redu ⟨stQ l c s a b, mQ l c s a b⟩ (ordL l c s a b)).rest i = _
      rw [redu_off h1]
      show stQ l c s a b i = _
      by_cases hil : i < l.length
      · by_cases hpr : ((gO l i).deb = a ∧ (gO l i).cre = b) ∨ ((gO l i).deb = b ∧ (gO l i).cre = a)
        · have hne : eligB (gO l i) c s = false := by
            cases he : eligB (gO l i) c s with
            | false => rfl
            | true =>
              rcases hpr with ⟨e1, e2⟩ | ⟨e1, e2⟩
              · exact absurd (ordL_mem.2 ⟨hil, by unfold goes; simp [e1, e2, he]⟩) h1
              · exact absurd (ordL_mem.2 ⟨hil, by unfold goes; simp [e1, e2, he]⟩) h2
          unfold stQ
          rw [finQ_off hne]
          split <;> split <;> rfl
        · have : doneB l a b i = doneB l a (b + 1) i := by
            unfold doneB
            rw [decide_eq_decide]
            omega
          unfold stQ
          rw [this]
      · have e : gO l i = zOb := by unfold gO; rw [List.getD_eq_getElem?_getD, List.getElem?_eq_none (by omega)]; rfl
        have hne : i ∉ ordL l c s (gO l i).deb (gO l i).cre := fun g => hil (ordL_mem.1 g).1
        have hf : finQ l c s i = oQ l i := by unfold finQ; rw [redu_off hne]
        unfold stQ
        rw [hf]
        split <;> split <;> rfl
theorem L_stQ {K : Nat} {l : List Ob} (h : ObB K l) (h20 : l.length ≤ 20) (c s a b : Int) {i : Nat} (hi : i < l.length) : L (stQ l c s a b i) ≤ 41 * K + 43 := by
  unfold stQ
  split
  · exact L_finQ h h20 c s hi
  · have := L_oQ h hi
    omega
def amtE (n : Int) (l : List Ob) (c s a b : Int) : Int := if chkE n l c s ≠ 0 then chkE n l c s else if pairB n a b = false then 14 else 0
def amtR2 (n : Int) (l : List Ob) (c s a b : Int) : RR := if amtE n l c s a b = 0 then ofQ (mQ l c s a b) else zRR
def appL (n : Int) (l : List Ob) (c s : Int) : List RR := if chkE n l c s = 0 then tab l.length fun i => ofQ (finQ l c s i) else []
set_option maxHeartbeats 1000000 in
theorem OAmount_ok (n c s a b : Int) (vl : Value) (l : List Ob) (K : Nat) (w : World) (hl : Sl encOb 8 w vl l) (hB : ObB K l) (hK : 100 * K + 100 ≤ MX) (h20 : l.length ≤ 20) :
    Ret Tryd.prog 23 #[.int .i64 n, vl, .int .i64 c, .int .i64 s, .int .i64 a, .int .i64 b] w fun r w' => r = .tuple #[aggR (amtR2 n l c s a b), .int .i64 (amtE n l c s a b)] ∧ Below w.heap.size w w' := by
  have hBX : ObB MX l := fun o ho => Nat.le_trans (hB o ho) (by omega)
  have hS := St.init w
  refine enter Tryd.func23 rfl Tryd.ntmps23 rfl ?_
  repeat (with_reducible first | refine c_seq ?_ | refine c_block ?_ | refine c_skip ?_ | refine x_then ?_ | refine x_block ?_)
  refine c_reg ?_
  refine l_heavy rfl (s_alloc  vi_26 hS ?_)
  intro b12 wz1 hS hBz1
  refine l_pure rfl (s_asg  rfl ?_)
  refine l_nil ?_
  repeat (with_reducible first | refine c_seq ?_ | refine c_block ?_ | refine c_skip ?_ | refine x_then ?_ | refine x_block ?_)
  refine c_reg ?_
  refine l_pure rfl (s_move  rfl ?_)
  refine l_pure rfl (s_move  rfl ?_)
  refine l_pure rfl (s_move  rfl ?_)
  refine l_pure rfl (s_move  rfl ?_)
  refine l_heavy rfl (s_call Tryd.call36 rfl (ochk_ok n c s vl l _ (hl.below hS.below) hBX) ?_)
  rintro _ wc2 ⟨rfl, hBc2⟩
  replace hS := hS.grow hBc2
  refine l_pure rfl (s_asg  rfl ?_)
  refine l_nil ?_
  repeat (with_reducible first | refine c_seq ?_ | refine c_block ?_ | refine c_skip ?_ | refine x_then ?_ | refine x_block ?_)
  replace hS : St w _ [(b12, 26, encR zRR)] := hS
  repeat (with_reducible first | refine c_seq ?_ | refine c_block ?_ | refine c_skip ?_ | refine x_then ?_ | refine x_block ?_)
  refine c_reg ?_
  refine l_pure rfl (s_move  rfl ?_)
  refine l_pure rfl (s_neq  rfl rfl ?_)
  refine l_nil ?_
  repeat (with_reducible first | refine c_seq ?_ | refine c_block ?_ | refine c_skip ?_ | refine x_then ?_ | refine x_block ?_)
  by_cases he : chkE n l c s = 0
  case neg =>
    refine c_yes rfl (decide_eq_true he) ?_
    repeat (with_reducible first | refine c_seq ?_ | refine c_block ?_ | refine c_skip ?_ | refine x_then ?_ | refine x_block ?_)
    have e1 : amtE n l c s a b = chkE n l c s := if_pos he
    have e2 : amtR2 n l c s a b = zRR := if_neg (by rw [e1]; exact he)
    repeat (with_reducible first | refine c_seq ?_ | refine c_block ?_ | refine c_skip ?_ | refine x_then ?_ | refine x_block ?_)
    refine c_reg ?_
    refine l_pure rfl (s_build  rfl bz_26 ?_)
    refine l_pure rfl (s_move  rfl ?_)
    refine l_heavy rfl (s_sta (k := 0)  rfl rfl vi_26 hS rfl rfl rfl (Nat.le_of_ble_eq_true rfl) rfl ?_)
    intro wz3 hS
    refine l_pure rfl (s_asg  rfl ?_)
    refine l_nil ?_
    repeat (with_reducible first | refine c_seq ?_ | refine c_block ?_ | refine c_skip ?_ | refine x_then ?_ | refine x_block ?_)
    refine c_ret ?_
    repeat (with_reducible first | refine x_then_ret ?_ | refine x_block_ret ?_)
    refine r_cell_tmp (k := 0) rfl rfl rfl vi_26 hS rfl rfl ?_
    exact ⟨by rw [e1, e2]; rfl, hS.below⟩
  refine c_no rfl (decide_eq_false (fun g => g he)) ?_
  repeat (with_reducible first | refine c_seq ?_ | refine c_block ?_ | refine c_skip ?_ | refine x_then ?_ | refine x_block ?_)
  refine c_reg ?_
  refine l_pure rfl (s_move  rfl ?_)
  refine l_pure rfl (s_move  rfl ?_)
  refine l_pure rfl (s_move  rfl ?_)
  refine l_heavy rfl (s_call Tryd.call32 rfl (pair_ok n a b _) ?_)
  rintro _ wq4 ⟨rfl, hq4⟩
  replace hq4 := hq4.symm
  subst hq4
  refine l_pure rfl (s_not  rfl ?_)
  refine l_nil ?_
  repeat (with_reducible first | refine c_seq ?_ | refine c_block ?_ | refine c_skip ?_ | refine x_then ?_ | refine x_block ?_)
  cases hp : pairB n a b with
  | false =>
    have e1 : amtE n l c s a b = 14 := by unfold amtE; rw [if_neg (fun g => g he), if_pos hp]
    have e2 : amtR2 n l c s a b = zRR := if_neg (by rw [e1]; decide)
    refine c_yes rfl (rfl) ?_
    repeat (with_reducible first | refine c_seq ?_ | refine c_block ?_ | refine c_skip ?_ | refine x_then ?_ | refine x_block ?_)
    refine c_reg ?_
    refine l_pure rfl (s_build  rfl bz_26 ?_)
    refine l_heavy rfl (s_sta (k := 0)  rfl rfl vi_26 hS rfl rfl rfl (Nat.le_of_ble_eq_true rfl) rfl ?_)
    intro wz5 hS
    refine l_pure rfl (s_asg  rfl ?_)
    refine l_nil ?_
    repeat (with_reducible first | refine c_seq ?_ | refine c_block ?_ | refine c_skip ?_ | refine x_then ?_ | refine x_block ?_)
    refine c_ret ?_
    repeat (with_reducible first | refine x_then_ret ?_ | refine x_block_ret ?_)
    refine r_cell_tmp (k := 0) rfl rfl rfl vi_26 hS rfl rfl ?_
    exact ⟨by rw [e1, e2]; rfl, hS.below⟩
  | true =>
  have e1 : amtE n l c s a b = 0 := by unfold amtE; rw [if_neg (fun g => g he), if_neg (by rw [hp]; decide)]
  have e2 : amtR2 n l c s a b = ofQ (mQ l c s a b) := if_pos e1
  obtain ⟨hob, hc1, hs1⟩ := chkE_zero he
  have hd := days_of hob
  have hLo := ordL_len l c s a b
  have hLo2 := ordL_len l c s b a
  have l1 : (ordL l c s a b).length * (K + 1) ≤ 20 * (K + 1) := Nat.mul_le_mul_right _ (by omega)
  have l2 : (ordL l c s b a).length * (K + 1) ≤ 20 * (K + 1) := Nat.mul_le_mul_right _ (by omega)
  have l3 := L_tot hB h20 c s a b
  have l4 := L_tot hB h20 c s b a
  have hLq : ∀ i, i < l.length → L (oQ l i) ≤ K := fun i hi => L_oQ hB hi
  refine c_no rfl (rfl) ?_
  repeat (with_reducible first | refine c_seq ?_ | refine c_block ?_ | refine c_skip ?_ | refine x_then ?_ | refine x_block ?_)
  refine c_reg ?_
  refine l_pure rfl (s_move  rfl ?_)
  refine l_heavy rfl (s_call Tryd.call37 rfl (amounts_ok vl l K _ (hl.below hS.below) hB (by omega) (by omega)) ?_)
  rintro r w3 ⟨b15, rfl, hS3⟩
  replace hS : St w w3 ([(b15, 26, (tab l.length fun i => ofQ (oQ l i)).flatMap encR)] ++ [(b12, 26, encR zRR)]) := hS.join hS3
  refine l_pure rfl (s_asg  rfl ?_)
  refine l_nil ?_
  repeat (with_reducible first | refine c_seq ?_ | refine c_block ?_ | refine c_skip ?_ | refine x_then ?_ | refine x_block ?_)
  refine c_forget (fun ρ' => ρ' 1 = vl ∧ ρ' 2 = .int .i64 c ∧ ρ' 3 = .int .i64 s ∧ ρ' 4 = .int .i64 a ∧ ρ' 5 = .int .i64 b ∧ ρ' 12 = .pointer (some ⟨b12, 0, none⟩) ∧ ρ' 15 = .slice (some ⟨b15, 0, none⟩) l.length l.length ∧ True) ⟨rfl, rfl, rfl, rfl, rfl, rfl, rfl, trivial⟩ ?_
  rintro ρk6 ⟨hk6_1, hk6_2, hk6_3, hk6_4, hk6_5, hk6_12, hk6_15, -⟩
  have hsl : ∀ (w' : World) (X : List Blk), St w w' ((b15, 26, (tab l.length fun i => ofQ (oQ l i)).flatMap encR) :: X) → Sl encR 3 w' (.slice (some ⟨b15, 0, none⟩) l.length l.length) (tab l.length fun i => ofQ (oQ l i)) := fun w' X h => by
    have h1 := h.sle (k := 0) (L := tab l.length fun i => ofQ (oQ l i)) (n := l.length) (cap := l.length) rfl encR_len (by rw [tab_len]; exact Nat.le_refl _) (Nat.le_refl _) (by omega)
    rwa [List.take_of_length_le (by rw [tab_len]; exact Nat.le_refl _)] at h1
  repeat (with_reducible first | refine c_seq ?_ | refine c_block ?_ | refine c_skip ?_ | refine x_then ?_ | refine x_block ?_)
  refine c_reg ?_
  refine l_pure rfl (s_move  hk6_15 ?_)
  refine l_pure rfl (s_move  hk6_1 ?_)
  refine l_pure rfl (s_move  hk6_2 ?_)
  refine l_pure rfl (s_move  hk6_3 ?_)
  refine l_pure rfl (s_move  hk6_4 ?_)
  refine l_pure rfl (s_move  hk6_5 ?_)
  refine l_heavy rfl (s_call Tryd.call38 rfl (eligible_ok vl l c s a b _ (hl.below hS.below) hd h20) ?_)
  rintro r w4 ⟨L1, hG1, hS1⟩
  replace hS := hS.join hS1
  have hJ1 := hG1.sl (hS.perm List.perm_append_comm) enI_len
  replace hS : St w w4 ([(b15, 26, (tab l.length fun i => ofQ (oQ l i)).flatMap encR)] ++ [(b12, 26, encR zRR)]) := hS.drop (List.sublist_append_right _ _)
  refine l_heavy rfl (s_call Tryd.call40 rfl (total_ok _ _ (oQ l) l.length K (ordL l c s a b) _ (hsl _ _ hS) hJ1 (fun i hi => (ordL_mem.1 hi).1) hLq (by omega)) ?_)
  rintro r w5 ⟨rfl, hB5⟩
  replace hS := hS.grow hB5
  refine l_pure rfl (s_move  hk6_15 ?_)
  refine l_pure rfl (s_move  hk6_1 ?_)
  refine l_pure rfl (s_move  hk6_2 ?_)
  refine l_pure rfl (s_move  hk6_3 ?_)
  refine l_pure rfl (s_move  hk6_5 ?_)
  refine l_pure rfl (s_move  hk6_4 ?_)
  refine l_heavy rfl (s_call Tryd.call38 rfl (eligible_ok vl l c s b a _ (hl.below hS.below) hd h20) ?_)
  rintro r w6 ⟨L2, hG2, hS2⟩
  replace hS := hS.join hS2
  have hJ2 := hG2.sl (hS.perm List.perm_append_comm) enI_len
  replace hS : St w w6 ([(b15, 26, (tab l.length fun i => ofQ (oQ l i)).flatMap encR)] ++ [(b12, 26, encR zRR)]) := hS.drop (List.sublist_append_right _ _)
  refine l_heavy rfl (s_call Tryd.call40 rfl (total_ok _ _ (oQ l) l.length K (ordL l c s b a) _ (hsl _ _ hS) hJ2 (fun i hi => (ordL_mem.1 hi).1) hLq (by omega)) ?_)
  rintro r w7 ⟨rfl, hB7⟩
  replace hS := hS.grow hB7
  refine l_heavy rfl (s_call Tryd.call39 rfl (QMin_ok (ofQ (totS (oQ l) (ordL l c s a b))) (ofQ (totS (oQ l) (ordL l c s b a))) _ (by rw [Lr_ofQ, Lr_ofQ]; omega)) ?_)
  rintro r w8 ⟨rfl, hB8⟩
  rw [toQ_ofQ, toQ_ofQ]
  replace hS := hS.grow hB8
  refine l_heavy rfl (s_sta (k := 1)  hk6_12 rfl vi_26 hS rfl rfl rfl (Nat.le_of_ble_eq_true rfl) rfl ?_)
  intro wz7 hS
  refine l_pure rfl (s_asg  rfl ?_)
  refine l_nil ?_
  repeat (with_reducible first | refine c_seq ?_ | refine c_block ?_ | refine c_skip ?_ | refine x_then ?_ | refine x_block ?_)
  refine c_ret ?_
  repeat (with_reducible first | refine x_then_ret ?_ | refine x_block_ret ?_)
  refine r_cell_tmp (k := 1) rfl hk6_12 rfl vi_26 hS rfl rfl ?_
  exact ⟨by rw [e1, e2]; rfl, hS.below⟩
end Go.Proofs.YtdafaibhiobpaaaDoor
namespace Go.Proofs.YtdafaibhiobpaaaDoor
open Go Go.RowKit Go.Sx

/-- Of a block that holds a table of numbers: it reads as a slice. -/
theorem sl_tab {w0 w : World} {b n : Nat} {t : TypeId} {q : Nat → Rat} {X : List Blk} (hn : n ≤ 1000000) (h : St w0 w ((b, t, (tab n fun i => ofQ (q i)).flatMap encR) :: X)) : Sl encR 3 w (.slice (some ⟨b, 0, none⟩) n n) (tab n fun i => ofQ (q i)) := by
  have h1 := h.sle (k := 0) (L := tab n fun i => ofQ (q i)) (n := n) (cap := n) rfl encR_len (by rw [tab_len]; exact Nat.le_refl _) (Nat.le_refl _) (by omega)
  rwa [List.take_of_length_le (by rw [tab_len]; exact Nat.le_refl _)] at h1
theorem redu_Lall {J : List Nat} (hnd : J.Nodup) {s : RS} {n K M B : Nat} (hJ20 : J.length ≤ 20) (hK : ∀ i ∈ J, L (s.rest i) ≤ K) (hM : L s.amt ≤ M) (hB : ∀ i, i < n → L (s.rest i) ≤ B) (hb : K + M + 20 * (K + 1) + 1 ≤ B) (k : Nat) :
    (∀ i, i < n → L ((redu s (J.take k)).rest i) ≤ B) ∧ L (redu s (J.take k)).amt ≤ B := by
  have key : ∀ k, k ≤ J.length → (∀ i, i < n → L ((redu s (J.take k)).rest i) ≤ B) ∧ L (redu s (J.take k)).amt ≤ B := by
    intro k hk
    obtain ⟨h1, h2⟩ := redu_L hnd hK hM k hk
    have h3 : k * (K + 1) ≤ 20 * (K + 1) := Nat.mul_le_mul_right _ (by omega)
    refine ⟨fun i hi => ?_, by omega⟩
    by_cases g : i ∈ J
    · have := h2 i g
      omega
    · rw [redu_off (fun q => g (List.mem_of_mem_take q))]
      exact hB i hi
  by_cases hk : k ≤ J.length
  · exact key k hk
  · rw [List.take_of_length_le (by omega)]
    have := key J.length (Nat.le_refl _)
    rwa [List.take_length] at this
set_option maxHeartbeats 2000000 in
theorem OApply_full (n c s : Int) (vl : Value) (l : List Ob) (K : Nat) (w : World) (hl : Sl encOb 8 w vl l) (hB : ObB K l) (hK : 1000 * K + 1000 ≤ MX) (h20 : l.length ≤ 20) :
    Ret Tryd.prog 18 #[.int .i64 n, vl, .int .i64 c, .int .i64 s] w fun r w' => ((∃ v, r = .tuple #[v, .int .i64 (chkE n l c s)] ∧ Sl encR 3 w' v (appL n l c s)) ∧ Below w.heap.size w w') ∧
      (chkE n l c s = 0 → ∃ b, r = .tuple #[.slice (some ⟨b, 0, none⟩) l.length l.length, .int .i64 0] ∧ St w w' [(b, 26, (tab l.length fun i => ofQ (finQ l c s i)).flatMap encR)]) := by
  have hBX : ObB MX l := fun o ho => Nat.le_trans (hB o ho) (by omega)
  have hS := St.init w
  refine enter Tryd.func18 rfl Tryd.ntmps18 rfl ?_
  repeat (with_reducible first | refine c_seq ?_ | refine c_block ?_ | refine c_skip ?_ | refine x_then ?_ | refine x_block ?_)
  refine c_reg ?_
  refine l_pure rfl (s_asg  rfl ?_)
  refine l_pure rfl (s_asg  rfl ?_)
  refine l_nil ?_
  repeat (with_reducible first | refine c_seq ?_ | refine c_block ?_ | refine c_skip ?_ | refine x_then ?_ | refine x_block ?_)
  refine c_reg ?_
  refine l_pure rfl (s_move  rfl ?_)
  refine l_pure rfl (s_move  rfl ?_)
  refine l_pure rfl (s_move  rfl ?_)
  refine l_pure rfl (s_move  rfl ?_)
  refine l_heavy rfl (s_call Tryd.call36 rfl (ochk_ok n c s vl l _ (hl.below hS.below) hBX) ?_)
  rintro _ wc1 ⟨rfl, hBc1⟩
  replace hS := hS.grow hBc1
  refine l_pure rfl (s_asg  rfl ?_)
  refine l_nil ?_
  repeat (with_reducible first | refine c_seq ?_ | refine c_block ?_ | refine c_skip ?_ | refine x_then ?_ | refine x_block ?_)
  refine c_reg ?_
  refine l_pure rfl (s_move  rfl ?_)
  refine l_pure rfl (s_neq  rfl rfl ?_)
  refine l_nil ?_
  repeat (with_reducible first | refine c_seq ?_ | refine c_block ?_ | refine c_skip ?_ | refine x_then ?_ | refine x_block ?_)
  by_cases he : chkE n l c s = 0
  case neg =>
    refine c_yes rfl (decide_eq_true he) ?_
    repeat (with_reducible first | refine c_seq ?_ | refine c_block ?_ | refine c_skip ?_ | refine x_then ?_ | refine x_block ?_)
    refine c_reg ?_
    refine l_pure rfl (s_move  rfl ?_)
    refine l_pure rfl (s_asg  rfl ?_)
    refine l_pure rfl (s_asg  rfl ?_)
    refine l_nil ?_
    repeat (with_reducible first | refine c_seq ?_ | refine c_block ?_ | refine c_skip ?_ | refine x_then ?_ | refine x_block ?_)
    refine c_ret ?_
    repeat (with_reducible first | refine x_then_ret ?_ | refine x_block_ret ?_)
    refine r_two rfl rfl rfl ?_
    exact ⟨⟨⟨_, rfl, by unfold appL; rw [if_neg he]; exact Sl.nil _ _ _⟩, hS.below⟩, fun g => absurd g he⟩
  refine c_no rfl (decide_eq_false (fun g => g he)) ?_
  repeat (with_reducible first | refine c_seq ?_ | refine c_block ?_ | refine c_skip ?_ | refine x_then ?_ | refine x_block ?_)
  have eA : appL n l c s = tab l.length fun i => ofQ (finQ l c s i) := if_pos he
  rw [eA, he]
  obtain ⟨hob, hc1, hs1⟩ := chkE_zero he
  have hd := days_of hob
  obtain ⟨hn0, hn32, _, _⟩ := obsE_zero hob
  obtain ⟨m, hm⟩ : ∃ m : Nat, n = m := ⟨n.toNat, by omega⟩
  subst hm
  have hLst := fun (a b : Int) i (hi : i < l.length) => L_stQ hB h20 c s a b hi
  repeat (with_reducible first | refine c_seq ?_ | refine c_block ?_ | refine c_skip ?_ | refine x_then ?_ | refine x_block ?_)
  refine c_reg ?_
  refine l_pure rfl (s_move  rfl ?_)
  refine l_heavy rfl (s_call Tryd.call37 rfl (amounts_ok vl l K _ (hl.below hS.below) hB (by omega) (by omega)) ?_)
  rintro r w3 ⟨b11, rfl, hS3⟩
  replace hS : St w w3 ([(b11, 26, (tab l.length fun i => ofQ (oQ l i)).flatMap encR)] ++ []) := hS.join hS3
  replace hS : St w w3 [(b11, 26, (tab l.length fun i => ofQ (oQ l i)).flatMap encR)] := hS
  rw [tab_congr (g := fun i => ofQ (stQ l c s ((0 : Nat) : Int) ((0 : Nat) : Int) i)) (fun i hi => by rw [show stQ l c s ((0 : Nat) : Int) ((0 : Nat) : Int) i = oQ l i from stQ_start l c s _ hob hi])] at hS
  refine l_pure rfl (s_asg  rfl ?_)
  refine l_nil ?_
  repeat (with_reducible first | refine c_seq ?_ | refine c_block ?_ | refine c_skip ?_ | refine x_then ?_ | refine x_block ?_)
  refine c_forget (fun ρ' => ρ' 0 = .int .i64 m ∧ ρ' 1 = vl ∧ ρ' 2 = .int .i64 c ∧ ρ' 3 = .int .i64 s ∧ ρ' 11 = .slice (some ⟨b11, 0, none⟩) l.length l.length ∧ True) ⟨rfl, rfl, rfl, rfl, rfl, trivial⟩ ?_
  rintro ρk2 ⟨hk2_0, hk2_1, hk2_2, hk2_3, hk2_11, -⟩
  repeat (with_reducible first | refine c_seq ?_ | refine c_block ?_ | refine c_skip ?_ | refine x_then ?_ | refine x_block ?_)
  refine c_reg ?_
  refine l_pure rfl (s_move  hk2_0 ?_)
  refine l_pure rfl (s_move  rfl ?_)
  refine l_nil ?_
  repeat (with_reducible first | refine c_seq ?_ | refine c_skip ?_ | refine x_then ?_ | refine x_block ?_)
  refine c_cut1 (fun ρ w' => ρ 11 = .slice (some ⟨b11, 0, none⟩) l.length l.length ∧ St w w' [(b11, 26, (tab l.length fun i => ofQ (stQ l c s m ((0 : Nat) : Int) i)).flatMap encR)]) ?_ ?_
  · repeat (with_reducible first | refine c_seq ?_ | refine c_block ?_ | refine c_skip ?_ | refine x_then ?_ | refine x_block ?_)
    refine c_loop (σ := Nat) (fun a ρ w' => a ≤ m ∧ ρ 1 = vl ∧ ρ 2 = .int .i64 c ∧ ρ 3 = .int .i64 s ∧ ρ 11 = .slice (some ⟨b11, 0, none⟩) l.length l.length ∧ ρ 27 = .int .i64 m ∧ ρ 28 = .int .i64 a ∧
        St w w' [(b11, 26, (tab l.length fun i => ofQ (stQ l c s a ((0 : Nat) : Int) i)).flatMap encR)]) (fun a => m - a) 0
      ⟨Nat.zero_le _, by assumption, by assumption, by assumption, by assumption, rfl, rfl, hS⟩ ?_
    clear hS
    rintro a ρ w4 ⟨ha, h1, h2, h3, h11, h27, h28, hS⟩
    repeat (with_reducible first | refine c_seq ?_ | refine c_block ?_ | refine c_skip ?_ | refine x_then ?_ | refine x_block ?_)
    refine c_reg ?_
    refine l_pure rfl (s_lss  h28 h27 ?_)
    refine l_nil ?_
    repeat (with_reducible first | refine c_seq ?_ | refine c_block ?_ | refine c_skip ?_ | refine x_then ?_ | refine x_block ?_)
    by_cases hlt : a < m
    · refine c_yes rfl (decide_eq_true (by omega)) ?_
      repeat (with_reducible first | refine c_seq ?_ | refine c_block ?_ | refine c_skip ?_ | refine x_then ?_ | refine x_block ?_)
      refine c_reg ?_
      refine l_pure rfl (s_move  h28 ?_)
      refine l_pure rfl (s_asg  rfl ?_)
      refine l_nil ?_
      repeat (with_reducible first | refine c_seq ?_ | refine c_block ?_ | refine c_skip ?_ | refine x_then ?_ | refine x_block ?_)
      refine c_reg ?_
      refine l_pure rfl (s_move  rfl ?_)
      refine l_pure rfl (s_move  rfl ?_)
      refine l_nil ?_
      repeat (with_reducible first | refine c_seq ?_ | refine c_skip ?_ | refine x_then ?_ | refine x_block ?_)
      refine c_cut1 (fun ρ w' => ρ 1 = vl ∧ ρ 2 = .int .i64 c ∧ ρ 3 = .int .i64 s ∧ ρ 11 = .slice (some ⟨b11, 0, none⟩) l.length l.length ∧ ρ 27 = .int .i64 m ∧ ρ 28 = .int .i64 a ∧
          St w w' [(b11, 26, (tab l.length fun i => ofQ (stQ l c s a a i)).flatMap encR)]) ?_ ?_
      · repeat (with_reducible first | refine c_seq ?_ | refine c_block ?_ | refine c_skip ?_ | refine x_then ?_ | refine x_block ?_)
        refine c_loop (σ := Nat) (fun b ρ w' => b ≤ a ∧ ρ 1 = vl ∧ ρ 2 = .int .i64 c ∧ ρ 3 = .int .i64 s ∧ ρ 11 = .slice (some ⟨b11, 0, none⟩) l.length l.length ∧ ρ 27 = .int .i64 m ∧ ρ 28 = .int .i64 a ∧ ρ 12 = .int .i64 a ∧ ρ 31 = .int .i64 a ∧ ρ 32 = .int .i64 b ∧
            St w w' [(b11, 26, (tab l.length fun i => ofQ (stQ l c s a b i)).flatMap encR)]) (fun b => a - b) 0
          ⟨Nat.zero_le _, by assumption, by assumption, by assumption, by assumption, by assumption, by assumption, rfl, rfl, rfl, hS⟩ ?_
        clear hS h1 h2 h3 h11 h27 h28
        rintro b ρ w5 ⟨hb, h1, h2, h3, h11, h27, h28, h12, h31, h32, hS⟩
        repeat (with_reducible first | refine c_seq ?_ | refine c_block ?_ | refine c_skip ?_ | refine x_then ?_ | refine x_block ?_)
        refine c_reg ?_
        refine l_pure rfl (s_lss  h32 h31 ?_)
        refine l_nil ?_
        repeat (with_reducible first | refine c_seq ?_ | refine c_block ?_ | refine c_skip ?_ | refine x_then ?_ | refine x_block ?_)
        by_cases hltb : b < a
        · refine c_yes rfl (decide_eq_true (by omega)) ?_
          repeat (with_reducible first | refine c_seq ?_ | refine c_block ?_ | refine c_skip ?_ | refine x_then ?_ | refine x_block ?_)
          have hltI : (b : Int) < (a : Int) := by omega
          obtain ⟨J1, hJ1⟩ : ∃ J, J = ordL l c s a b := ⟨_, rfl⟩
          obtain ⟨J2, hJ2⟩ : ∃ J, J = ordL l c s b a := ⟨_, rfl⟩
          obtain ⟨mm, hmm⟩ : ∃ q, q = mQ l c s a b := ⟨_, rfl⟩
          obtain ⟨q0, hq0⟩ : ∃ q, q = stQ l c s a b := ⟨_, rfl⟩
          have hL1 := ordL_len l c s a b
          have hL2 := ordL_len l c s b a
          have t1 := L_tot hB h20 c s a b
          have t2 := L_tot hB h20 c s b a
          have tm := L_mQ hB h20 c s a b
          have own1 : ∀ i ∈ J1, q0 i = oQ l i := fun i hi => by rw [hq0]; exact stQ_own hltI (.inl (by rw [← hJ1]; exact hi))
          have own2 : ∀ i ∈ J2, q0 i = oQ l i := fun i hi => by rw [hq0]; exact stQ_own hltI (.inr (by rw [← hJ2]; exact hi))
          have in1 : ∀ i ∈ J1, i < l.length := fun i hi => by rw [hJ1] at hi; exact (ordL_mem.1 hi).1
          have in2 : ∀ i ∈ J2, i < l.length := fun i hi => by rw [hJ2] at hi; exact (ordL_mem.1 hi).1
          have s1 : totS q0 J1 = totS (oQ l) (ordL l c s a b) := by unfold totS; rw [← hJ1, List.map_congr_left own1]
          have s2 : totS q0 J2 = totS (oQ l) (ordL l c s b a) := by unfold totS; rw [← hJ2, List.map_congr_left own2]
          have hst := stQ_step (l := l) (c := c) (s := s) hltI
          rw [← hJ1, ← hJ2, ← hmm, ← hq0] at hst
          have nd1 : J1.Nodup := by rw [hJ1]; exact ordL_nodup l c s a b
          have nd2 : J2.Nodup := by rw [hJ2]; exact ordL_nodup l c s b a
          have hdis : ∀ i ∈ J2, i ∉ J1 := fun i hi g => by
            rw [hJ2] at hi
            rw [hJ1] at g
            have g1 := (ordL_mem.1 hi).2
            have g2 := (ordL_mem.1 g).2
            unfold goes at g1 g2
            simp only [Bool.and_eq_true, decide_eq_true_eq] at g1 g2
            omega
          have hq0L : ∀ i, i < l.length → L (q0 i) ≤ 41 * K + 43 := fun i hi => by rw [hq0]; exact hLst a b i hi
          have hLA := redu_Lall (n := l.length) (B := 41 * K + 43) nd1 (s := ⟨q0, mm⟩) (K := K) (M := 20 * (K + 1) + 1) (by rw [hJ1]; omega) (fun i hi => by rw [show (RS.mk q0 mm).rest i = oQ l i from own1 i hi]; exact L_oQ hB (in1 i hi)) (by rw [hmm]; exact tm) hq0L (by omega)
          have hr1L : ∀ i, i < l.length → L ((redu ⟨q0, mm⟩ J1).rest i) ≤ 41 * K + 43 := fun i hi => by
            have := (hLA J1.length).1 i hi
            rwa [List.take_length] at this
          have hLBB := redu_Lall (n := l.length) (B := 41 * K + 43) nd2 (s := ⟨(redu ⟨q0, mm⟩ J1).rest, mm⟩) (K := K) (M := 20 * (K + 1) + 1) (by rw [hJ2]; omega) (fun i hi => by
            rw [show (RS.mk (redu ⟨q0, mm⟩ J1).rest mm).rest i = oQ l i from (redu_off (hdis i hi) _).trans (own2 i hi)]; exact L_oQ hB (in2 i hi)) (by rw [hmm]; exact tm) hr1L (by omega)
          have hmin : minQ (totS q0 J1) (totS q0 J2) = mm := by rw [s1, s2, hmm]; rfl
          have lk1 : J1.length * (41 * K + 43 + 1) ≤ 20 * (41 * K + 43 + 1) := Nat.mul_le_mul_right _ (by rw [hJ1]; omega)
          have lk2 : J2.length * (41 * K + 43 + 1) ≤ 20 * (41 * K + 43 + 1) := Nat.mul_le_mul_right _ (by rw [hJ2]; omega)
          have e1 : ((b + 1 : Nat) : Int) = (b : Int) + 1 := by omega
          have hfe : (fun i => ofQ ((redu ⟨(redu ⟨q0, mm⟩ J1).rest, mm⟩ J2).rest i)) = fun i => ofQ (stQ l c s a ((b + 1 : Nat) : Int) i) := funext fun i => by rw [hst, e1]
          rw [← hq0] at hS
          repeat (with_reducible first | refine c_seq ?_ | refine c_block ?_ | refine c_skip ?_ | refine x_then ?_ | refine x_block ?_)
          refine c_reg ?_
          refine l_pure rfl (s_move  h32 ?_)
          refine l_pure rfl (s_asg  rfl ?_)
          refine l_nil ?_
          repeat (with_reducible first | refine c_seq ?_ | refine c_block ?_ | refine c_skip ?_ | refine x_then ?_ | refine x_block ?_)
          refine c_reg ?_
          refine l_pure rfl (s_move  h1 ?_)
          refine l_pure rfl (s_move  h2 ?_)
          refine l_pure rfl (s_move  h3 ?_)
          refine l_pure rfl (s_move  h12 ?_)
          refine l_pure rfl (s_move  rfl ?_)
          refine l_heavy rfl (s_call Tryd.call38 rfl (eligible_ok vl l c s a b _ (hl.below hS.below) hd h20) ?_)
          rintro rv1 w6 ⟨LA, hG1, hSA⟩
          rw [← hJ1] at hG1
          replace hS : St w w6 ([(b11, 26, (tab l.length fun i => ofQ (q0 i)).flatMap encR)] ++ LA) := (hS.join hSA).perm List.perm_append_comm
          refine l_pure rfl (s_move  h1 ?_)
          refine l_pure rfl (s_move  h2 ?_)
          refine l_pure rfl (s_move  h3 ?_)
          refine l_pure rfl (s_move  rfl ?_)
          refine l_pure rfl (s_move  h12 ?_)
          refine l_heavy rfl (s_call Tryd.call38 rfl (eligible_ok vl l c s b a _ (hl.below hS.below) hd h20) ?_)
          rintro rv2 w7 ⟨LB, hG2, hSB⟩
          rw [← hJ2] at hG2
          replace hS : St w w7 (([(b11, 26, (tab l.length fun i => ofQ (q0 i)).flatMap encR)] ++ LA) ++ LB) := (hS.join hSB).perm List.perm_append_comm
          refine l_pure rfl (s_asg  rfl ?_)
          refine l_pure rfl (s_asg  rfl ?_)
          refine l_nil ?_
          repeat (with_reducible first | refine c_seq ?_ | refine c_block ?_ | refine c_skip ?_ | refine x_then ?_ | refine x_block ?_)
          refine c_forget (fun ρ' => ρ' 1 = vl ∧ ρ' 2 = .int .i64 c ∧ ρ' 3 = .int .i64 s ∧ ρ' 11 = .slice (some ⟨b11, 0, none⟩) l.length l.length ∧ ρ' 27 = .int .i64 m ∧ ρ' 28 = .int .i64 a ∧ ρ' 12 = .int .i64 a ∧ ρ' 31 = .int .i64 a ∧ ρ' 32 = .int .i64 b ∧ ρ' 14 = rv1 ∧ ρ' 15 = rv2 ∧ True) ⟨h1, h2, h3, h11, h27, h28, h12, h31, h32, rfl, rfl, trivial⟩ ?_
          rintro ρk3 ⟨hk3_1, hk3_2, hk3_3, hk3_11, hk3_27, hk3_28, hk3_12, hk3_31, hk3_32, hk3_14, hk3_15, -⟩
          repeat (with_reducible first | refine c_seq ?_ | refine c_block ?_ | refine c_skip ?_ | refine x_then ?_ | refine x_block ?_)
          refine c_reg ?_
          refine l_pure rfl (s_move  hk3_11 ?_)
          refine l_pure rfl (s_move  hk3_14 ?_)
          refine l_heavy rfl (s_call Tryd.call40 rfl (total_ok _ rv1 q0 l.length (41 * K + 43) J1 _ (sl_tab (by omega) hS) (hG1.sl (hS.drop (List.sublist_append_left _ LB)) enI_len) in1 hq0L (by omega)) ?_)
          rintro r w8 ⟨rfl, hB8⟩
          replace hS := hS.grow hB8
          refine l_pure rfl (s_move  hk3_11 ?_)
          refine l_pure rfl (s_move  hk3_15 ?_)
          refine l_heavy rfl (s_call Tryd.call40 rfl (total_ok _ rv2 q0 l.length (41 * K + 43) J2 _ (sl_tab (by omega) hS) (hG2.sl hS enI_len) in2 hq0L (by omega)) ?_)
          rintro r w9 ⟨rfl, hB9⟩
          replace hS := hS.grow hB9
          refine l_heavy rfl (s_call Tryd.call39 rfl (QMin_ok (ofQ (totS q0 J1)) (ofQ (totS q0 J2)) _ (by rw [Lr_ofQ, Lr_ofQ, s1, s2]; omega)) ?_)
          rintro r w10 ⟨rfl, hB10⟩
          rw [toQ_ofQ, toQ_ofQ, hmin]
          replace hS := hS.grow hB10
          refine l_heavy rfl (s_alloc  vi_26 hS ?_)
          intro b16 wz4 hS hBz4
          refine l_heavy rfl (s_sta (k := 0)  rfl rfl vi_26 hS rfl rfl rfl (Nat.le_of_ble_eq_true rfl) rfl ?_)
          intro wz5 hS
          refine l_nil ?_
          repeat (with_reducible first | refine c_seq ?_ | refine c_block ?_ | refine c_skip ?_ | refine x_then ?_ | refine x_block ?_)
          replace hS : St w _ ((b16, 26, encR (ofQ mm)) :: (b11, 26, (tab l.length fun i => ofQ (q0 i)).flatMap encR) :: (LA ++ LB)) := hS
          replace hS := hS.perm (List.Perm.swap _ _ _)
          have hJJ1 : ∀ cs w', St w w' ((b11, 26, cs) :: (b16, 26, encR (ofQ mm)) :: (LA ++ LB)) → Sl enI 1 w' rv1 (zI J1) := fun cs w' h => hG1.sl (H := [(b11, 26, cs), (b16, 26, encR (ofQ mm))]) (h.drop (((List.sublist_append_left LA LB).cons_cons _).cons_cons _)) enI_len
          have hJJ2 : ∀ cs w', St w w' ((b11, 26, cs) :: (b16, 26, encR (ofQ mm)) :: (LA ++ LB)) → Sl enI 1 w' rv2 (zI J2) := fun cs w' h => hG2.sl (H := [(b11, 26, cs), (b16, 26, encR (ofQ mm))]) (h.drop (((List.sublist_append_right LA LB).cons_cons _).cons_cons _)) enI_len
          repeat (with_reducible first | refine c_seq ?_ | refine c_block ?_ | refine c_skip ?_ | refine x_then ?_ | refine x_block ?_)
          refine c_reg ?_
          refine l_pure rfl (s_move  hk3_11 ?_)
          refine l_pure rfl (s_move  hk3_14 ?_)
          refine l_read rfl (s_ldo (k := 1)  rfl vi_26 hS rfl rfl rfl (.inl rfl) ?_)
          refine l_heavy rfl (s_call Tryd.call41 rfl (reduce_ok b11 l.length (41 * K + 43) rv1 ⟨q0, mm⟩ J1 w _ _ hS hJJ1 in1 hLA (by omega)) ?_)
          rintro r w11 ⟨rfl, hS11⟩
          clear hS
          have hS := hS11
          refine l_nil ?_
          repeat (with_reducible first | refine c_seq ?_ | refine c_block ?_ | refine c_skip ?_ | refine x_then ?_ | refine x_block ?_)
          refine c_reg ?_
          refine l_pure rfl (s_move  hk3_11 ?_)
          refine l_pure rfl (s_move  hk3_15 ?_)
          refine l_read rfl (s_ldo (k := 1)  rfl vi_26 hS rfl rfl rfl (.inl rfl) ?_)
          refine l_heavy rfl (s_call Tryd.call41 rfl (reduce_ok b11 l.length (41 * K + 43) rv2 ⟨(redu ⟨q0, mm⟩ J1).rest, mm⟩ J2 w _ _ hS hJJ2 in2 hLBB (by omega)) ?_)
          rintro r w12 ⟨rfl, hS12⟩
          clear hS
          have hS := hS12
          rw [hfe] at hS
          refine l_nil ?_
          repeat (with_reducible first | refine c_seq ?_ | refine c_block ?_ | refine c_skip ?_ | refine x_then ?_ | refine x_block ?_)
          refine c_reg ?_
          refine l_pure rfl (s_add  hk3_32 rfl (IntWalk.i64_in _ (by omega)) ?_)
          refine l_pure rfl (s_move  rfl ?_)
          refine l_nil ?_
          repeat (with_reducible first | refine c_seq ?_ | refine c_block ?_ | refine c_skip ?_ | refine x_then ?_ | refine x_block ?_)
          exact ⟨b + 1, _, rfl, ⟨hltb, by assumption, by assumption, by assumption, by assumption, by assumption, by assumption, by assumption, by assumption, vi rfl (by omega), hS.drop ((List.nil_sublist _).cons_cons _)⟩, by omega⟩
        · refine c_no rfl (decide_eq_false (by omega)) ?_
          repeat (with_reducible first | refine c_seq ?_ | refine c_block ?_ | refine c_skip ?_ | refine x_then ?_ | refine x_block ?_)
          refine c_exit ?_
          repeat (with_reducible first | refine x_then_exit ?_ | refine x_block_exit ?_ | refine x_block_pass rfl ?_)
          repeat (with_reducible first | refine c_seq ?_ | refine c_block ?_ | refine c_skip ?_ | refine x_then ?_ | refine x_block ?_)
          obtain rfl : b = a := by omega
          exact ⟨_, rfl, h1, h2, h3, h11, h27, h28, hS⟩
      clear hS h1 h2 h3 h11 h27 h28
      rintro ρ w5 ⟨h1, h2, h3, h11, h27, h28, hS⟩
      rw [tab_congr (g := fun i => ofQ (stQ l c s ((a + 1 : Nat) : Int) ((0 : Nat) : Int) i)) (fun i hi => by rw [show stQ l c s a a i = stQ l c s ((a + 1 : Nat) : Int) ((0 : Nat) : Int) i from stQ_next l c s a _ hob hi])] at hS
      repeat (with_reducible first | refine c_seq ?_ | refine c_block ?_ | refine c_skip ?_ | refine x_then ?_ | refine x_block ?_)
      refine c_reg ?_
      refine l_pure rfl (s_add  h28 rfl (IntWalk.i64_in _ (by omega)) ?_)
      refine l_pure rfl (s_move  rfl ?_)
      refine l_nil ?_
      repeat (with_reducible first | refine c_seq ?_ | refine c_block ?_ | refine c_skip ?_ | refine x_then ?_ | refine x_block ?_)
      exact ⟨a + 1, _, rfl, ⟨hlt, h1, h2, h3, h11, h27, vi rfl (by omega), hS⟩, by omega⟩
    · refine c_no rfl (decide_eq_false (by omega)) ?_
      repeat (with_reducible first | refine c_seq ?_ | refine c_block ?_ | refine c_skip ?_ | refine x_then ?_ | refine x_block ?_)
      refine c_exit ?_
      repeat (with_reducible first | refine x_then_exit ?_ | refine x_block_exit ?_ | refine x_block_pass rfl ?_)
      repeat (with_reducible first | refine c_seq ?_ | refine c_block ?_ | refine c_skip ?_ | refine x_then ?_ | refine x_block ?_)
      obtain rfl : a = m := by omega
      exact ⟨_, rfl, h11, hS⟩
  clear hS
  rintro ρ w4 ⟨h11, hS⟩
  repeat (with_reducible first | refine c_seq ?_ | refine c_block ?_ | refine c_skip ?_ | refine x_then ?_ | refine x_block ?_)
  rw [tab_congr (g := fun i => ofQ (finQ l c s i)) (fun i hi => by rw [show stQ l c s m ((0 : Nat) : Int) i = finQ l c s i from stQ_end l c s _ hob hi])] at hS
  repeat (with_reducible first | refine c_seq ?_ | refine c_block ?_ | refine c_skip ?_ | refine x_then ?_ | refine x_block ?_)
  refine c_reg ?_
  refine l_pure rfl (s_move  h11 ?_)
  refine l_pure rfl (s_asg  rfl ?_)
  refine l_pure rfl (s_asg  rfl ?_)
  refine l_nil ?_
  repeat (with_reducible first | refine c_seq ?_ | refine c_block ?_ | refine c_skip ?_ | refine x_then ?_ | refine x_block ?_)
  refine c_ret ?_
  repeat (with_reducible first | refine x_then_ret ?_ | refine x_block_ret ?_)
  refine r_two rfl rfl rfl ?_
  exact ⟨⟨⟨_, rfl, sl_tab (by omega) hS⟩, hS.below⟩, fun _ => ⟨b11, rfl, hS⟩⟩
theorem OApply_ok (n c s : Int) (vl : Value) (l : List Ob) (K : Nat) (w : World) (hl : Sl encOb 8 w vl l) (hB : ObB K l) (hK : 1000 * K + 1000 ≤ MX) (h20 : l.length ≤ 20) :
    Ret Tryd.prog 18 #[.int .i64 n, vl, .int .i64 c, .int .i64 s] w fun r w' => (∃ v, r = .tuple #[v, .int .i64 (chkE n l c s)] ∧ Sl encR 3 w' v (appL n l c s)) ∧ Below w.heap.size w w' :=
  (OApply_full n c s vl l K w hl hB hK h20).mono fun _ _ h => h.1
theorem OApply_own (n c s : Int) (vl : Value) (l : List Ob) (K : Nat) (w : World) (hl : Sl encOb 8 w vl l) (hB : ObB K l) (hK : 1000 * K + 1000 ≤ MX) (h20 : l.length ≤ 20) (he : chkE n l c s = 0) :
    Ret Tryd.prog 18 #[.int .i64 n, vl, .int .i64 c, .int .i64 s] w fun r w' => ∃ b, r = .tuple #[.slice (some ⟨b, 0, none⟩) l.length l.length, .int .i64 0] ∧ St w w' [(b, 26, (tab l.length fun i => ofQ (finQ l c s i)).flatMap encR)] :=
  (OApply_full n c s vl l K w hl hB hK h20).mono fun _ _ h => h.2 he
end Go.Proofs.YtdafaibhiobpaaaDoor
