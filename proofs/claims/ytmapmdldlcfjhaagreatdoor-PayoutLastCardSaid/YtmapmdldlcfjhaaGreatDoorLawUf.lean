/-
  Walks: the last payment (program and reference).
-/
import Derived.Test.YtmapmdldlcfjhaaGreatDoorLawUe
namespace Go.Proofs.YtmapmdldlcfjhaaGreatDoor
open Go Go.RowKit Go.Sx

/-! ### Rounding, as what is read -/
def rL (l : List RR) : List Int := if rE l = 0 then tab l.length (resC l) else []
theorem RoundR_ok (v : Value) (l : List RR) (K : Nat) (w : World) (hv : Sl encR 3 w v l) (hl : RB K l) (h20 : l.length ≤ 20) (hK : 100 * K + 200 ≤ MX) :
    Ret Tryz.prog 24 #[v] w fun r w' => (∃ v', r = .tuple #[v', .int .i64 (rE l)] ∧ Sl enI 1 w' v' (rL l)) ∧ Below w.heap.size w w' := by
  refine (Round_ok v l K w hv hl h20 hK).mono ?_
  rintro r w' (⟨h1, rfl, hB⟩ | ⟨h1, b, rfl, hS⟩)
  · refine ⟨⟨_, rfl, ?_⟩, hB⟩
    unfold rL; rw [if_neg h1]; exact Sl.nil _ _ _
  · refine ⟨⟨_, by rw [h1], ?_⟩, hS.below⟩
    have h2 := hS.sle (k := 0) (n := l.length) (cap := l.length) rfl enI_len (by rw [tab_len]; omega) (Nat.le_refl _) (by omega)
    rw [List.take_of_length_le (by rw [tab_len]; omega)] at h2
    unfold rL; rw [if_pos h1]; exact h2
theorem rRoundR_ok (v : Value) (l : List RR) (K : Nat) (w : World) (hv : Sl encR 3 w v l) (hl : RB K l) (h20 : l.length ≤ 20) (hK : 100 * K + 200 ≤ MX) :
    Ret Tryz.prog 25 #[v] w fun r w' => (∃ v', r = .tuple #[v', .int .i64 (rE l)] ∧ Sl enI 1 w' v' (rL l)) ∧ Below w.heap.size w w' := by
  refine (rRound_ok v l K w hv hl h20 hK).mono ?_
  rintro r w' (⟨h1, rfl, hB⟩ | ⟨h1, v', LO, rfl, hG, hS⟩)
  · refine ⟨⟨_, rfl, ?_⟩, hB⟩
    unfold rL; rw [if_neg h1]; exact Sl.nil _ _ _
  · refine ⟨⟨_, by rw [h1], ?_⟩, hS.below⟩
    unfold rL; rw [if_pos h1]; exact hG.sl hS enI_len

/-! ### The last payment -/
def pdF (paid : List Int) (i : Nat) : Int := paid.getD i 0
def overB (res pd : Nat → Int) (n : Nat) : Bool := (List.range n).any fun i => decide (res i < pd i)
theorem overB_no {res pd : Nat → Int} {n : Nat} (h : ∀ i, i < n → pd i ≤ res i) : overB res pd n = false := by
  unfold overB
  rw [List.any_eq_false]
  intro i hi
  have := h i (List.mem_range.1 hi)
  rw [decide_eq_true_eq]; omega
theorem overB_yes {res pd : Nat → Int} {n i : Nat} (hi : i < n) (h : res i < pd i) : overB res pd n = true := by
  unfold overB
  rw [List.any_eq_true]
  exact ⟨i, List.mem_range.2 hi, decide_eq_true h⟩
def lE (paid : List Int) (fin : List RR) : Int :=
  if paid.length ≠ fin.length then 4 else if nneg paid = true then 7 else if rE fin ≠ 0 then rE fin else if overB (resC fin) (pdF paid) fin.length = true then 49 else 0
def lL (paid : List Int) (fin : List RR) : List Int := if lE paid fin = 0 then tab fin.length (fun i => resC fin i - pdF paid i) else []
def lst (res pd : Nat → Int) (i j : Nat) : Int := if j < i then res j - pd j else res j
theorem lst_set (res pd : Nat → Int) (n i : Nat) : (tab n (lst res pd i)).set i (res i - pd i) = tab n (lst res pd (i + 1)) := by
  rw [tab_set]
  refine tab_congr fun j _ => ?_
  unfold lst
  by_cases e : j = i
  · subst e; rw [if_pos rfl, if_pos (by omega)]
  · rw [if_neg e]
    by_cases g : j < i
    · rw [if_pos g, if_pos (by omega)]
    · rw [if_neg g, if_neg (by omega)]
theorem lst_zero (res pd : Nat → Int) : lst res pd 0 = res := by funext j; exact if_neg (Nat.not_lt_zero _)
theorem lst_all (res pd : Nat → Int) (n : Nat) : tab n (lst res pd n) = tab n fun i => res i - pd i := tab_congr fun _ hj => if_pos hj
theorem nneg_get {l : List Int} (h : nneg l = false) {i : Nat} (hi : i < l.length) : 0 ≤ l.getD i 0 := by
  unfold nneg at h
  rw [List.any_eq_false] at h
  have := h _ (getD_mem l i 0 hi)
  rw [decide_eq_true_eq] at this
  omega
theorem int64_get {l : List Int} (h : ∀ x ∈ l, -9223372036854775808 ≤ x ∧ x ≤ 9223372036854775807) {i : Nat} (hi : i < l.length) : -9223372036854775808 ≤ l.getD i 0 ∧ l.getD i 0 ≤ 9223372036854775807 := h _ (getD_mem l i 0 hi)
set_option maxHeartbeats 2000000 in
theorem Last_ok (vp vf : Value) (paid : List Int) (l : List RR) (K : Nat) (w : World) (hp : Sl enI 1 w vp paid) (hpb : ∀ x ∈ paid, -9223372036854775808 ≤ x ∧ x ≤ 9223372036854775807) (hv : Sl encR 3 w vf l) (hl : RB K l) (h20 : l.length ≤ 20) (hK : 100 * K + 200 ≤ MX) :
    Ret Tryz.prog 32 #[vp, vf] w fun r w' => (∃ v', r = .tuple #[v', .int .i64 (lE paid l)] ∧ Sl enI 1 w' v' (lL paid l)) ∧ Below w.heap.size w w' := by
  have hmC : mxC = 1125899906842624 := rfl
  have hno : lE paid l ≠ 0 → lL paid l = [] := fun h => if_neg h
  have hpm := hp.maxLen
  have hlm := hv.maxLen
  have hS := St.init w
  refine enter Tryz.func32 rfl Tryz.ntmps32 rfl ?_
  repeat (with_reducible first | refine c_seq ?_ | refine c_block ?_ | refine c_skip ?_ | refine x_then ?_ | refine x_block ?_)
  refine c_reg ?_
  refine l_pure rfl (s_asg  rfl ?_)
  refine l_pure rfl (s_asg  rfl ?_)
  refine l_nil ?_
  repeat (with_reducible first | refine c_seq ?_ | refine c_block ?_ | refine c_skip ?_ | refine x_then ?_ | refine x_block ?_)
  refine c_reg ?_
  refine l_pure rfl (s_move  rfl ?_)
  refine l_pure rfl (s_lenr  rfl (hp.below hS.below) ⟨_, Tryz.underlying25⟩ ?_)
  refine l_pure rfl (s_move  rfl ?_)
  refine l_pure rfl (s_lenr  rfl (hv.below hS.below) ⟨_, Tryz.underlying22⟩ ?_)
  refine l_pure rfl (s_neq  rfl rfl ?_)
  refine l_nil ?_
  repeat (with_reducible first | refine c_seq ?_ | refine c_block ?_ | refine c_skip ?_ | refine x_then ?_ | refine x_block ?_)
  by_cases hlen : paid.length = l.length
  · refine c_no rfl (decide_eq_false (by omega)) ?_
    repeat (with_reducible first | refine c_seq ?_ | refine c_block ?_ | refine c_skip ?_ | refine x_then ?_ | refine x_block ?_)
    refine c_reg ?_
    refine l_pure rfl (s_move  rfl ?_)
    refine l_heavy rfl (s_call Tryz.call73 rfl (unpaid_ok vp paid _ (hp.below hS.below)) ?_)
    rintro r w2 ⟨rfl, rfl⟩
    refine l_nil ?_
    repeat (with_reducible first | refine c_seq ?_ | refine c_block ?_ | refine c_skip ?_ | refine x_then ?_ | refine x_block ?_)
    cases hn : nneg paid with
    | true =>
      have he : lE paid l = 7 := by unfold lE; rw [if_neg (not_not_intro hlen), hn, if_pos rfl]
      refine c_yes rfl (rfl) ?_
      repeat (with_reducible first | refine c_seq ?_ | refine c_block ?_ | refine c_skip ?_ | refine x_then ?_ | refine x_block ?_)
      refine c_reg ?_
      refine l_pure rfl (s_asg  rfl ?_)
      refine l_pure rfl (s_asg  rfl ?_)
      refine l_nil ?_
      repeat (with_reducible first | refine c_seq ?_ | refine c_block ?_ | refine c_skip ?_ | refine x_then ?_ | refine x_block ?_)
      refine c_ret ?_
      repeat (with_reducible first | refine x_then_ret ?_ | refine x_block_ret ?_)
      refine r_two rfl rfl rfl ?_
      refine ⟨⟨_, by rw [he]; rfl, ?_⟩, hS.below⟩
      rw [hno (by rw [he]; decide)]; exact Sl.nil _ _ _
    | false =>
    refine c_no rfl (rfl) ?_
    repeat (with_reducible first | refine c_seq ?_ | refine c_block ?_ | refine c_skip ?_ | refine x_then ?_ | refine x_block ?_)
    refine c_reg ?_
    refine l_pure rfl (s_move  rfl ?_)
    refine l_heavy rfl (s_call Tryz.call24 rfl (Round_ok vf l K _ (hv.below hS.below) hl h20 hK) ?_)
    rintro r w3 (⟨hz, rfl, hB3⟩ | ⟨hz, b6, rfl, hS3⟩)
    · replace hS := hS.grow hB3
      have he : lE paid l = rE l := by unfold lE; rw [if_neg (not_not_intro hlen), hn, if_neg (by decide), if_pos hz]
      refine l_pure rfl (s_move  rfl ?_)
      refine l_pure rfl (s_ext  rfl rfl ?_)
      refine l_pure rfl (s_ext  rfl rfl ?_)
      refine l_pure rfl (s_asg  rfl ?_)
      refine l_pure rfl (s_asg  rfl ?_)
      refine l_nil ?_
      repeat (with_reducible first | refine c_seq ?_ | refine c_block ?_ | refine c_skip ?_ | refine x_then ?_ | refine x_block ?_)
      refine c_reg ?_
      refine l_pure rfl (s_move  rfl ?_)
      refine l_pure rfl (s_neq  rfl rfl ?_)
      refine l_nil ?_
      repeat (with_reducible first | refine c_seq ?_ | refine c_block ?_ | refine c_skip ?_ | refine x_then ?_ | refine x_block ?_)
      refine c_yes rfl (decide_eq_true hz) ?_
      repeat (with_reducible first | refine c_seq ?_ | refine c_block ?_ | refine c_skip ?_ | refine x_then ?_ | refine x_block ?_)
      refine c_reg ?_
      refine l_pure rfl (s_move  rfl ?_)
      refine l_pure rfl (s_asg  rfl ?_)
      refine l_pure rfl (s_asg  rfl ?_)
      refine l_nil ?_
      repeat (with_reducible first | refine c_seq ?_ | refine c_block ?_ | refine c_skip ?_ | refine x_then ?_ | refine x_block ?_)
      refine c_ret ?_
      repeat (with_reducible first | refine x_then_ret ?_ | refine x_block_ret ?_)
      refine r_two rfl rfl rfl ?_
      refine ⟨⟨_, by rw [he]; rfl, ?_⟩, hS.below⟩
      rw [hno (by rw [he]; exact hz)]; exact Sl.nil _ _ _
    · replace hS := (hS.join hS3).drop (List.sublist_append_left _ _)
      have hrb := fun i hi => resC_bound hz (i := i) hi
      have heO : lE paid l = if overB (resC l) (pdF paid) l.length = true then 49 else 0 := by unfold lE; rw [if_neg (not_not_intro hlen), hn, if_neg (by decide), if_neg (not_not_intro hz)]
      obtain ⟨res, hre⟩ : ∃ f, f = resC l := ⟨_, rfl⟩
      obtain ⟨n, hn'⟩ : ∃ n, n = l.length := ⟨_, rfl⟩
      have hpg : ∀ i, i < n → 0 ≤ pdF paid i ∧ pdF paid i ≤ 9223372036854775807 := fun i hi => ⟨nneg_get hn (by omega), (int64_get hpb (i := i) (by omega)).2⟩
      have hlL : lE paid l = 0 → lL paid l = tab n fun i => res i - pdF paid i := fun h => by unfold lL; rw [if_pos h, hre, hn']
      rw [← hre] at hS hrb heO
      rw [← hn'] at hS hrb heO
      rw [← lst_zero res (pdF paid)] at hS
      rw [← hn']
      refine l_pure rfl (s_move  rfl ?_)
      refine l_pure rfl (s_ext  rfl rfl ?_)
      refine l_pure rfl (s_ext  rfl rfl ?_)
      refine l_pure rfl (s_asg  rfl ?_)
      refine l_pure rfl (s_asg  rfl ?_)
      refine l_nil ?_
      repeat (with_reducible first | refine c_seq ?_ | refine c_block ?_ | refine c_skip ?_ | refine x_then ?_ | refine x_block ?_)
      refine c_reg ?_
      refine l_pure rfl (s_move  rfl ?_)
      refine l_pure rfl (s_neq  rfl rfl ?_)
      refine l_nil ?_
      repeat (with_reducible first | refine c_seq ?_ | refine c_block ?_ | refine c_skip ?_ | refine x_then ?_ | refine x_block ?_)
      refine c_no rfl (decide_eq_false (by decide)) ?_
      repeat (with_reducible first | refine c_seq ?_ | refine c_block ?_ | refine c_skip ?_ | refine x_then ?_ | refine x_block ?_)
      refine c_reg ?_
      refine l_pure rfl (s_move  rfl ?_)
      refine l_pure rfl (s_leno  rfl ⟨_, Tryz.underlying25⟩ ?_)
      refine l_pure rfl (s_move  rfl ?_)
      refine l_nil ?_
      repeat (with_reducible first | refine c_seq ?_ | refine c_block ?_ | refine c_skip ?_ | refine x_then ?_ | refine x_block ?_)
      refine c_loop (σ := Nat) (fun i ρ w' => i ≤ n ∧ (∀ k, k < i → pdF paid k ≤ res k) ∧ ρ 0 = vp ∧ ρ 6 = .slice (some ⟨b6, 0, none⟩) n n ∧ ρ 25 = .int .i64 n ∧ ρ 26 = .int .i64 i ∧ St w2 w' [(b6, 2, (tab n (lst res (pdF paid) i)).flatMap enI)]) (fun i => n - i) 0
        ⟨Nat.zero_le _, fun k hk => absurd hk (Nat.not_lt_zero k), rfl, rfl, rfl, rfl, hS⟩ ?_
      clear hS hS3
      rintro i ρ w4 ⟨hi, hq, h0, h6, h25, h26, hS⟩
      repeat (with_reducible first | refine c_seq ?_ | refine c_block ?_ | refine c_skip ?_ | refine x_then ?_ | refine x_block ?_)
      refine c_reg ?_
      refine l_pure rfl (s_lss  h26 h25 ?_)
      refine l_nil ?_
      repeat (with_reducible first | refine c_seq ?_ | refine c_block ?_ | refine c_skip ?_ | refine x_then ?_ | refine x_block ?_)
      by_cases hlt : i < n
      · refine c_yes rfl (decide_eq_true (by omega)) ?_
        repeat (with_reducible first | refine c_seq ?_ | refine c_block ?_ | refine c_skip ?_ | refine x_then ?_ | refine x_block ?_)
        have htl := tab_len n (lst res (pdF paid) i)
        have htl2 := tab_len n (lst res (pdF paid) (i + 1))
        have hset := lst_set res (pdF paid) n i
        have hg1 : (tab n (lst res (pdF paid) i)).getD i 0 = res i := by rw [tab_get _ _ hlt]; exact if_neg (Nat.lt_irrefl _)
        have hg2 : (tab n (lst res (pdF paid) (i + 1))).getD i 0 = res i - pdF paid i := by rw [tab_get _ _ hlt]; exact if_pos (Nat.lt_succ_self _)
        have hri := hrb i hlt
        have hpi := hpg i hlt
        have hpe : paid.getD i 0 = pdF paid i := rfl
        repeat (with_reducible first | refine c_seq ?_ | refine c_block ?_ | refine c_skip ?_ | refine x_then ?_ | refine x_block ?_)
        refine c_reg ?_
        refine l_pure rfl (s_move  h26 ?_)
        refine l_pure rfl (s_asg  rfl ?_)
        refine l_nil ?_
        repeat (with_reducible first | refine c_seq ?_ | refine c_block ?_ | refine c_skip ?_ | refine x_then ?_ | refine x_block ?_)
        refine c_draw [(0, .pure), (1, .pure), (2, .pure), (3, .read), (4, .pure), (5, .pure), (6, .pure), (7, .read), (8, .pure), (9, .pure), (10, .free)] (by kernel_rfl) (by kernel_rfl) hS ?_
        intro wz1 hS hBz1
        refine w_pure rfl rfl (s_move  h6 ?_)
        refine w_pure rfl rfl (s_move  rfl ?_)
        refine w_pure rfl rfl (s_ixo (i := i)  rfl rfl (by omega) (by first | omega | (simp; done) | (simp; omega)) si_25 ?_)
        refine w_read rfl rfl (s_ldE (k := 0) (i := i) (enc := enI) 0 (fun _ => rfl)  rfl vi_2 hS rfl (by first | omega | simp) (by first | omega | (simp; done) | (simp; omega)) rfl (.inr rfl) ?_)
        refine w_pure rfl rfl (s_move  h0 ?_)
        refine w_pure rfl rfl (s_move  rfl ?_)
        refine w_pure rfl rfl (s_ixr (i := i)  rfl rfl (hp.below hS.below) (by omega) (by first | omega | (simp; done) | (simp; omega)) si_25 ?_)
        refine w_read rfl rfl (s_lde (i := i) 0  rfl vi_2 (hp.below hS.below) (by first | omega | (simp; done) | (simp; omega)) rfl rfl (.inr rfl) ?_)
        refine w_pure rfl rfl (s_sub  rfl rfl (r := (res i - pdF paid i)) (by rw [hg1, hpe]; exact wr_i64 _ ⟨rfl, by omega, by omega⟩) ?_)
        refine w_pure rfl rfl (s_ixo (i := i)  rfl rfl (by omega) (by first | omega | (simp; done) | (simp; omega)) si_25 ?_)
        refine w_free rfl rfl (s_stE (k := 0) (i := i) (enc := enI) (res i - pdF paid i) (fun _ => rfl)  rfl rfl vi_2 hS rfl (by first | omega | simp) (by first | omega | (simp; done) | (simp; omega)) rfl rfl ?_)
        intro wz2 hS
        refine w_end ?_
        repeat (with_reducible first | refine c_seq ?_ | refine c_block ?_ | refine c_skip ?_ | refine x_then ?_ | refine x_block ?_)
        replace hS : St w2 _ [(b6, 2, ((tab n (lst res (pdF paid) i)).set i (res i - pdF paid i)).flatMap enI)] := hS
        rw [hset] at hS
        repeat (with_reducible first | refine c_seq ?_ | refine c_block ?_ | refine c_skip ?_ | refine x_then ?_ | refine x_block ?_)
        refine c_reg ?_
        refine l_pure rfl (s_move  h6 ?_)
        refine l_pure rfl (s_move  rfl ?_)
        refine l_pure rfl (s_ixo (i := i)  rfl rfl (by omega) (by first | omega | (simp; done) | (simp; omega)) si_25 ?_)
        refine l_read rfl (s_ldE (k := 0) (i := i) (enc := enI) 0 (fun _ => rfl)  rfl vi_2 hS rfl (by first | omega | simp) (by first | omega | (simp; done) | (simp; omega)) rfl (.inr rfl) ?_)
        refine l_pure rfl (s_lss  rfl rfl ?_)
        refine l_nil ?_
        repeat (with_reducible first | refine c_seq ?_ | refine c_block ?_ | refine c_skip ?_ | refine x_then ?_ | refine x_block ?_)
        rw [hg2]
        by_cases hov : res i - pdF paid i < 0
        · have he : lE paid l = 49 := by rw [heO, overB_yes hlt (by omega)]; rfl
          refine c_yes rfl (decide_eq_true hov) ?_
          repeat (with_reducible first | refine c_seq ?_ | refine c_block ?_ | refine c_skip ?_ | refine x_then ?_ | refine x_block ?_)
          refine c_reg ?_
          refine l_pure rfl (s_asg  rfl ?_)
          refine l_pure rfl (s_asg  rfl ?_)
          refine l_nil ?_
          repeat (with_reducible first | refine c_seq ?_ | refine c_block ?_ | refine c_skip ?_ | refine x_then ?_ | refine x_block ?_)
          refine c_ret ?_
          repeat (with_reducible first | refine x_then_ret ?_ | refine x_block_ret ?_)
          refine r_two rfl rfl rfl ?_
          refine ⟨⟨_, by rw [he]; rfl, ?_⟩, hS.below⟩
          rw [hno (by rw [he]; decide)]; exact Sl.nil _ _ _
        · refine c_no rfl (decide_eq_false hov) ?_
          repeat (with_reducible first | refine c_seq ?_ | refine c_block ?_ | refine c_skip ?_ | refine x_then ?_ | refine x_block ?_)
          refine c_reg ?_
          refine l_pure rfl (s_add  h26 rfl (IntWalk.i64_in _ (by omega)) ?_)
          refine l_pure rfl (s_move  rfl ?_)
          refine l_nil ?_
          repeat (with_reducible first | refine c_seq ?_ | refine c_block ?_ | refine c_skip ?_ | refine x_then ?_ | refine x_block ?_)
          refine ⟨i + 1, _, rfl, ⟨hlt, fun k hk => ?_, by assumption, by assumption, by assumption, vi rfl (by omega), hS⟩, by omega⟩
          by_cases e : k = i
          · subst e; omega
          · exact hq k (by omega)
      · refine c_no rfl (decide_eq_false (by omega)) ?_
        repeat (with_reducible first | refine c_seq ?_ | refine c_block ?_ | refine c_skip ?_ | refine x_then ?_ | refine x_block ?_)
        refine c_exit ?_
        repeat (with_reducible first | refine x_then_exit ?_ | refine x_block_exit ?_ | refine x_block_pass rfl ?_)
        repeat (with_reducible first | refine c_seq ?_ | refine c_block ?_ | refine c_skip ?_ | refine x_then ?_ | refine x_block ?_)
        obtain rfl : i = n := by omega
        have he : lE paid l = 0 := by rw [heO, overB_no hq]; rfl
        rw [lst_all] at hS
        repeat (with_reducible first | refine c_seq ?_ | refine c_block ?_ | refine c_skip ?_ | refine x_then ?_ | refine x_block ?_)
        refine c_reg ?_
        refine l_pure rfl (s_move  h6 ?_)
        refine l_pure rfl (s_asg  rfl ?_)
        refine l_pure rfl (s_asg  rfl ?_)
        refine l_nil ?_
        repeat (with_reducible first | refine c_seq ?_ | refine c_block ?_ | refine c_skip ?_ | refine x_then ?_ | refine x_block ?_)
        refine c_ret ?_
        repeat (with_reducible first | refine x_then_ret ?_ | refine x_block_ret ?_)
        refine r_two rfl rfl rfl ?_
        refine ⟨⟨_, by rw [he]; rfl, ?_⟩, hS.below⟩
        rw [hlL he]
        have h2 := hS.sle (k := 0) (n := i) (cap := i) rfl enI_len (by rw [tab_len]; omega) (Nat.le_refl _) (by omega)
        rwa [List.take_of_length_le (by rw [tab_len]; omega)] at h2
  · have he : lE paid l = 4 := by unfold lE; rw [if_pos hlen]
    refine c_yes rfl (decide_eq_true (by omega)) ?_
    repeat (with_reducible first | refine c_seq ?_ | refine c_block ?_ | refine c_skip ?_ | refine x_then ?_ | refine x_block ?_)
    refine c_reg ?_
    refine l_pure rfl (s_asg  rfl ?_)
    refine l_pure rfl (s_asg  rfl ?_)
    refine l_nil ?_
    repeat (with_reducible first | refine c_seq ?_ | refine c_block ?_ | refine c_skip ?_ | refine x_then ?_ | refine x_block ?_)
    refine c_ret ?_
    repeat (with_reducible first | refine x_then_ret ?_ | refine x_block_ret ?_)
    refine r_two rfl rfl rfl ?_
    refine ⟨⟨_, by rw [he]; rfl, ?_⟩, hS.below⟩
    rw [hno (by rw [he]; decide)]; exact Sl.nil _ _ _
end Go.Proofs.YtmapmdldlcfjhaaGreatDoor
