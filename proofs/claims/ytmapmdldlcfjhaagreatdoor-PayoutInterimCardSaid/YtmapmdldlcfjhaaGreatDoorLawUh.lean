/-
  Walks: payments in between (reference), amounts in cents, the chapter's examples.
-/
import Derived.Test.YtmapmdldlcfjhaaGreatDoorLawUg
namespace Go.Proofs.YtmapmdldlcfjhaaGreatDoor
open Go Go.RowKit Go.Sx

set_option maxHeartbeats 2000000 in
theorem rInterim_ok (vp vf : Value) (paid : List Int) (l : List RR) (K : Nat) (w : World) (hp : Sl enI 1 w vp paid) (hpb : ∀ x ∈ paid, -9223372036854775808 ≤ x ∧ x ≤ 9223372036854775807) (hv : Sl encR 3 w vf l) (hl : RB K l) (h20 : l.length ≤ 20) (hK : 100 * K + 200 ≤ MX) :
    Ret Tryz.prog 36 #[vp, vf] w fun r w' => (∃ v', r = .tuple #[v', .int .i64 (iE paid l)] ∧ Sl enI 1 w' v' (iL paid l)) ∧ Below w.heap.size w w' := by
  have hmC : mxC = 1125899906842624 := rfl
  have hno : iE paid l ≠ 0 → iL paid l = [] := fun h => if_neg h
  have hpm := hp.maxLen
  have hlm := hv.maxLen
  have hS := St.init w
  refine enter Tryz.func36 rfl Tryz.ntmps36 rfl ?_
  repeat (with_reducible first | refine c_seq ?_ | refine c_block ?_ | refine c_skip ?_ | refine x_then ?_ | refine x_block ?_)
  refine c_reg ?_
  refine l_pure rfl (s_asg  rfl ?_)
  refine l_pure rfl (s_asg  rfl ?_)
  refine l_nil ?_
  repeat (with_reducible first | refine c_seq ?_ | refine c_block ?_ | refine c_skip ?_ | refine x_then ?_ | refine x_block ?_)
  refine c_reg ?_
  refine l_pure rfl (s_move  rfl ?_)
  refine l_pure rfl (s_lenr  rfl (hp.below hS.below) ⟨_, Tryz.underlying25⟩ ?_)
  refine l_pure rfl (s_move  rfl ?_)
  refine l_pure rfl (s_lenr  rfl (hv.below hS.below) ⟨_, Tryz.underlying22⟩ ?_)
  refine l_pure rfl (s_neq  rfl rfl ?_)
  refine l_nil ?_
  repeat (with_reducible first | refine c_seq ?_ | refine c_block ?_ | refine c_skip ?_ | refine x_then ?_ | refine x_block ?_)
  by_cases hlen : paid.length = l.length
  · refine c_no rfl (decide_eq_false (by omega)) ?_
    repeat (with_reducible first | refine c_seq ?_ | refine c_block ?_ | refine c_skip ?_ | refine x_then ?_ | refine x_block ?_)
    refine c_reg ?_
    refine l_pure rfl (s_asg  rfl ?_)
    refine l_nil ?_
    repeat (with_reducible first | refine c_seq ?_ | refine c_skip ?_ | refine x_then ?_ | refine x_block ?_)
    refine c_cut1 (fun ρ w' => nneg paid = false ∧ negs l = false ∧ ρ 0 = vp ∧ ρ 1 = vf ∧ St w w' []) ?_ ?_
    · repeat (with_reducible first | refine c_seq ?_ | refine c_block ?_ | refine c_skip ?_ | refine x_then ?_ | refine x_block ?_)
      refine c_loop (σ := Nat) (fun i ρ w' => i ≤ l.length ∧ nneg (paid.take i) = false ∧ negs (l.take i) = false ∧ ρ 0 = vp ∧ ρ 1 = vf ∧ ρ 6 = .int .i64 i ∧ St w w' []) (fun i => l.length - i) 0
        ⟨Nat.zero_le _, rfl, rfl, rfl, rfl, rfl, hS⟩ ?_
      clear hS
      rintro i ρ w2 ⟨hi, hn, hn2, h0, h1, h6, hS⟩
      repeat (with_reducible first | refine c_seq ?_ | refine c_block ?_ | refine c_skip ?_ | refine x_then ?_ | refine x_block ?_)
      refine c_reg ?_
      refine l_pure rfl (s_move  h6 ?_)
      refine l_pure rfl (s_move  h1 ?_)
      refine l_pure rfl (s_lenr  rfl (hv.below hS.below) ⟨_, Tryz.underlying22⟩ ?_)
      refine l_pure rfl (s_lss  rfl rfl ?_)
      refine l_nil ?_
      repeat (with_reducible first | refine c_seq ?_ | refine c_block ?_ | refine c_skip ?_ | refine x_then ?_ | refine x_block ?_)
      by_cases hlt : i < l.length
      · refine c_yes rfl (decide_eq_true (by omega)) ?_
        repeat (with_reducible first | refine c_seq ?_ | refine c_block ?_ | refine c_skip ?_ | refine x_then ?_ | refine x_block ?_)
        obtain ⟨t1, t2⟩ := nneg_take paid (i := i) (by omega) hn
        obtain ⟨t3, t4⟩ := negs_take l hlt hn2
        have hLi := hl _ (getD_mem l i zRR hlt)
        by_cases hneg : paid.getD i 0 < 0
        · have he : iE paid l = 7 := by unfold iE; rw [if_neg (not_not_intro hlen), if_pos (.inl (t2 hneg))]
          repeat (with_reducible first | refine c_seq ?_ | refine c_block ?_ | refine c_skip ?_ | refine x_then ?_ | refine x_block ?_)
          refine c_reg ?_
          refine l_pure rfl (s_move  h0 ?_)
          refine l_pure rfl (s_move  h6 ?_)
          refine l_pure rfl (s_ixr (i := i)  rfl rfl (hp.below hS.below) (by omega) (by first | omega | (simp; done) | (simp; omega)) si_25 ?_)
          refine l_read rfl (s_lde (i := i) 0  rfl vi_2 (hp.below hS.below) (by first | omega | (simp; done) | (simp; omega)) rfl rfl (.inr rfl) ?_)
          refine l_pure rfl (s_lss  rfl rfl ?_)
          refine l_pure rfl (s_move  rfl ?_)
          refine l_no (gno_yes 27 (by kernel_rfl) rfl (decide_eq_true hneg)) ?_
          refine l_no (gno_yes 27 (by kernel_rfl) rfl (decide_eq_true hneg)) ?_
          refine l_no (gno_yes 27 (by kernel_rfl) rfl (decide_eq_true hneg)) ?_
          refine l_no (gno_yes 27 (by kernel_rfl) rfl (decide_eq_true hneg)) ?_
          refine l_no (gno_yes 27 (by kernel_rfl) rfl (decide_eq_true hneg)) ?_
          refine l_no (gno_yes 27 (by kernel_rfl) rfl (decide_eq_true hneg)) ?_
          refine l_pure rfl (s_pick (vb rfl (decide_eq_true hneg)) rfl ?_)
          refine l_nil ?_
          repeat (with_reducible first | refine c_seq ?_ | refine c_block ?_ | refine c_skip ?_ | refine x_then ?_ | refine x_block ?_)
          refine c_yes rfl (rfl) ?_
          repeat (with_reducible first | refine c_seq ?_ | refine c_block ?_ | refine c_skip ?_ | refine x_then ?_ | refine x_block ?_)
          refine c_reg ?_
          refine l_pure rfl (s_asg  rfl ?_)
          refine l_pure rfl (s_asg  rfl ?_)
          refine l_nil ?_
          repeat (with_reducible first | refine c_seq ?_ | refine c_block ?_ | refine c_skip ?_ | refine x_then ?_ | refine x_block ?_)
          refine c_ret ?_
          repeat (with_reducible first | refine x_then_ret ?_ | refine x_block_ret ?_)
          refine r_two rfl rfl rfl ?_
          refine ⟨⟨_, by rw [he]; rfl, ?_⟩, hS.below⟩
          rw [hno (by rw [he]; decide)]; exact Sl.nil _ _ _
        · repeat (with_reducible first | refine c_seq ?_ | refine c_block ?_ | refine c_skip ?_ | refine x_then ?_ | refine x_block ?_)
          refine c_reg ?_
          refine l_pure rfl (s_move  h0 ?_)
          refine l_pure rfl (s_move  h6 ?_)
          refine l_pure rfl (s_ixr (i := i)  rfl rfl (hp.below hS.below) (by omega) (by first | omega | (simp; done) | (simp; omega)) si_25 ?_)
          refine l_read rfl (s_lde (i := i) 0  rfl vi_2 (hp.below hS.below) (by first | omega | (simp; done) | (simp; omega)) rfl rfl (.inr rfl) ?_)
          refine l_pure rfl (s_lss  rfl rfl ?_)
          refine l_pure rfl (s_move  rfl ?_)
          refine l_pure (gd_yes 27 (by kernel_rfl) rfl (decide_eq_false hneg)) (s_move  h1 ?_)
          refine l_pure (gd_yes 27 (by kernel_rfl) rfl (decide_eq_false hneg)) (s_move  h6 ?_)
          refine l_pure (gd_yes 27 (by kernel_rfl) rfl (decide_eq_false hneg)) (s_ixr (i := i)  rfl rfl (hv.below hS.below) (by omega) (by first | omega | (simp; done) | (simp; omega)) si_22 ?_)
          refine l_read (gd_yes 27 (by kernel_rfl) rfl (decide_eq_false hneg)) (s_lde (i := i) zRR  rfl vi_37 (hv.below hS.below) (by first | omega | (simp; done) | (simp; omega)) rfl rfl (.inl rfl) ?_)
          refine l_heavy (gd_yes 27 (by kernel_rfl) rfl (decide_eq_false hneg)) (s_call Tryz.call61 rfl (rSign_ok (l.getD i zRR) _ (by omega)) ?_)
          rintro r w3 ⟨rfl, hB3⟩
          replace hS := hS.grow hB3
          refine l_pure (gd_yes 27 (by kernel_rfl) rfl (decide_eq_false hneg)) (s_lss  rfl rfl ?_)
          refine l_pure rfl (s_pick (vb rfl (decide_eq_false hneg)) rfl ?_)
          refine l_nil ?_
          repeat (with_reducible first | refine c_seq ?_ | refine c_block ?_ | refine c_skip ?_ | refine x_then ?_ | refine x_block ?_)
          by_cases hneg2 : toQ (l.getD i zRR) < 0
          · have he : iE paid l = 7 := by unfold iE; rw [if_neg (not_not_intro hlen), if_pos (.inr (t4 hneg2))]
            refine c_yes rfl (decide_eq_true (sgnQ_neg.2 hneg2)) ?_
            repeat (with_reducible first | refine c_seq ?_ | refine c_block ?_ | refine c_skip ?_ | refine x_then ?_ | refine x_block ?_)
            refine c_reg ?_
            refine l_pure rfl (s_asg  rfl ?_)
            refine l_pure rfl (s_asg  rfl ?_)
            refine l_nil ?_
            repeat (with_reducible first | refine c_seq ?_ | refine c_block ?_ | refine c_skip ?_ | refine x_then ?_ | refine x_block ?_)
            refine c_ret ?_
            repeat (with_reducible first | refine x_then_ret ?_ | refine x_block_ret ?_)
            refine r_two rfl rfl rfl ?_
            refine ⟨⟨_, by rw [he]; rfl, ?_⟩, hS.below⟩
            rw [hno (by rw [he]; decide)]; exact Sl.nil _ _ _
          · refine c_no rfl (decide_eq_false (fun g => hneg2 (sgnQ_neg.1 g))) ?_
            repeat (with_reducible first | refine c_seq ?_ | refine c_block ?_ | refine c_skip ?_ | refine x_then ?_ | refine x_block ?_)
            refine c_reg ?_
            refine l_pure rfl (s_move  h6 ?_)
            refine l_pure rfl (s_add  rfl rfl (IntWalk.i64_in _ (by omega)) ?_)
            refine l_pure rfl (s_asg  rfl ?_)
            refine l_nil ?_
            repeat (with_reducible first | refine c_seq ?_ | refine c_block ?_ | refine c_skip ?_ | refine x_then ?_ | refine x_block ?_)
            exact ⟨i + 1, _, rfl, ⟨hlt, t1 hneg, t3 hneg2, by assumption, by assumption, vi rfl (by omega), hS⟩, by omega⟩
      · refine c_no rfl (decide_eq_false (by omega)) ?_
        repeat (with_reducible first | refine c_seq ?_ | refine c_block ?_ | refine c_skip ?_ | refine x_then ?_ | refine x_block ?_)
        refine c_exit ?_
        repeat (with_reducible first | refine x_then_exit ?_ | refine x_block_exit ?_ | refine x_block_pass rfl ?_)
        repeat (with_reducible first | refine c_seq ?_ | refine c_block ?_ | refine c_skip ?_ | refine x_then ?_ | refine x_block ?_)
        obtain rfl : i = l.length := by omega
        rw [List.take_length] at hn2
        rw [← hlen, List.take_length] at hn
        exact ⟨_, rfl, hn, hn2, h0, h1, hS⟩
    clear hS
    rintro ρ w2 ⟨hn, hn2, h0, h1, hS⟩
    have heO : iE paid l = firstE (fun r => cE (toQ r)) l := by
      unfold iE
      rw [if_neg (not_not_intro hlen), if_neg (by rw [hn, hn2]; decide)]
    repeat (with_reducible first | refine c_seq ?_ | refine c_block ?_ | refine c_skip ?_ | refine x_then ?_ | refine x_block ?_)
    refine c_reg ?_
    refine l_pure rfl (s_asg  rfl ?_)
    refine l_nil ?_
    repeat (with_reducible first | refine c_seq ?_ | refine c_block ?_ | refine c_skip ?_ | refine x_then ?_ | refine x_block ?_)
    refine c_reg ?_
    refine l_pure rfl (s_asg  rfl ?_)
    refine l_nil ?_
    repeat (with_reducible first | refine c_seq ?_ | refine c_block ?_ | refine c_skip ?_ | refine x_then ?_ | refine x_block ?_)
    refine c_loop (σ := Nat) (fun i ρ w' => i ≤ l.length ∧ firstE (fun r => cE (toQ r)) (l.take i) = 0 ∧ ρ 0 = vp ∧ ρ 1 = vf ∧ ρ 8 = .int .i64 i ∧ ∃ sO LO, ρ 7 = sO ∧ Gl enI 2 1 sO (tab i (iV paid l)) LO ∧ St w w' ([] ++ LO)) (fun i => l.length - i) 0
      ⟨Nat.zero_le _, rfl, by assumption, by assumption, rfl, ⟨_, [], rfl, Gl.nil _ _ _, hS⟩⟩ ?_
    clear hS h0 h1
    rintro i ρ w4 ⟨hi, hf, h0, h1, h8, sO, LO, h7, hG, hS⟩
    have htl := tab_len i (iV paid l)
    repeat (with_reducible first | refine c_seq ?_ | refine c_block ?_ | refine c_skip ?_ | refine x_then ?_ | refine x_block ?_)
    refine c_reg ?_
    refine l_pure rfl (s_move  h8 ?_)
    refine l_pure rfl (s_move  h1 ?_)
    refine l_pure rfl (s_lenr  rfl (hv.below hS.below) ⟨_, Tryz.underlying22⟩ ?_)
    refine l_pure rfl (s_lss  rfl rfl ?_)
    refine l_nil ?_
    repeat (with_reducible first | refine c_seq ?_ | refine c_block ?_ | refine c_skip ?_ | refine x_then ?_ | refine x_block ?_)
    by_cases hlt : i < l.length
    · refine c_yes rfl (decide_eq_true (by omega)) ?_
      repeat (with_reducible first | refine c_seq ?_ | refine c_block ?_ | refine c_skip ?_ | refine x_then ?_ | refine x_block ?_)
      obtain ⟨e1, e2⟩ := firstE_step (fun r => cE (toQ r)) l zRR hlt hf
      have hLi := hl _ (getD_mem l i zRR hlt)
      have hcb := cN_bound (toQ (l.getD i zRR))
      have hpi : 0 ≤ pdF paid i ∧ pdF paid i ≤ 9223372036854775807 := ⟨nneg_get hn (by omega), (int64_get hpb (i := i) (by omega)).2⟩
      have hpe : paid.getD i 0 = pdF paid i := rfl
      repeat (with_reducible first | refine c_seq ?_ | refine c_block ?_ | refine c_skip ?_ | refine x_then ?_ | refine x_block ?_)
      refine c_reg ?_
      refine l_pure rfl (s_move  h1 ?_)
      refine l_pure rfl (s_move  h8 ?_)
      refine l_pure rfl (s_ixr (i := i)  rfl rfl (hv.below hS.below) (by omega) (by first | omega | (simp; done) | (simp; omega)) si_22 ?_)
      refine l_read rfl (s_lde (i := i) zRR  rfl vi_37 (hv.below hS.below) (by first | omega | (simp; done) | (simp; omega)) rfl rfl (.inl rfl) ?_)
      refine l_heavy rfl (s_call Tryz.call21 rfl (rCents_ok (l.getD i zRR) _ (by omega)) ?_)
      rintro _ wc1 ⟨rfl, hBc1⟩
      replace hS := hS.grow hBc1
      refine l_pure rfl (s_move  rfl ?_)
      refine l_pure rfl (s_ext  rfl rfl ?_)
      refine l_pure rfl (s_ext  rfl rfl ?_)
      refine l_pure rfl (s_asg  rfl ?_)
      refine l_pure rfl (s_asg  rfl ?_)
      refine l_nil ?_
      repeat (with_reducible first | refine c_seq ?_ | refine c_block ?_ | refine c_skip ?_ | refine x_then ?_ | refine x_block ?_)
      refine c_reg ?_
      refine l_pure rfl (s_move  rfl ?_)
      refine l_pure rfl (s_neq  rfl rfl ?_)
      refine l_nil ?_
      repeat (with_reducible first | refine c_seq ?_ | refine c_block ?_ | refine c_skip ?_ | refine x_then ?_ | refine x_block ?_)
      by_cases hc : cE (toQ (l.getD i zRR)) = 0
      · refine c_no rfl (decide_eq_false (not_not_intro hc)) ?_
        repeat (with_reducible first | refine c_seq ?_ | refine c_block ?_ | refine c_skip ?_ | refine x_then ?_ | refine x_block ?_)
        refine c_reg ?_
        refine l_pure rfl (s_move  h7 ?_)
        refine l_pure rfl (s_move  rfl ?_)
        refine l_pure rfl (s_move  h0 ?_)
        refine l_pure rfl (s_move  h8 ?_)
        refine l_pure rfl (s_ixr (i := i)  rfl rfl (hp.below hS.below) (by omega) (by first | omega | (simp; done) | (simp; omega)) si_25 ?_)
        refine l_read rfl (s_lde (i := i) 0  rfl vi_2 (hp.below hS.below) (by first | omega | (simp; done) | (simp; omega)) rfl rfl (.inr rfl) ?_)
        refine l_pure rfl (s_sub  rfl rfl (r := (cN (toQ (l.getD i zRR)) - pdF paid i)) (by rw [hpe]; exact wr_i64 _ ⟨rfl, by omega, by omega⟩) ?_)
        refine l_pure rfl (s_max  rfl rfl ?_)
        refine l_heavy rfl (s_bsl (vs := [.int .i64 (iV paid l i)])  rfl si_25 rfl (by decide) (by decide) (by decide) (by simp [Value.cells]) rfl hS ?_)
        intro bx wz2 hS hBz2
        refine l_heavy rfl (s_appl [iV paid l i]  rfl rfl si_25 (by decide) hG hS rfl rfl enI_len (enI_one [iV paid l i]) (by first | omega | (simp only [List.length_cons, List.length_nil]; omega)) (by first | omega | (simp only [List.length_cons, List.length_nil]; omega)) ?_)
        intro va3 La3 wa3 hG hS hga3
        refine l_pure rfl (s_asg  rfl ?_)
        refine l_nil ?_
        repeat (with_reducible first | refine c_seq ?_ | refine c_block ?_ | refine c_skip ?_ | refine x_then ?_ | refine x_block ?_)
        rw [← tab_succ] at hG
        repeat (with_reducible first | refine c_seq ?_ | refine c_block ?_ | refine c_skip ?_ | refine x_then ?_ | refine x_block ?_)
        refine c_reg ?_
        refine l_pure rfl (s_move  h8 ?_)
        refine l_pure rfl (s_add  rfl rfl (IntWalk.i64_in _ (by omega)) ?_)
        refine l_pure rfl (s_asg  rfl ?_)
        refine l_nil ?_
        repeat (with_reducible first | refine c_seq ?_ | refine c_block ?_ | refine c_skip ?_ | refine x_then ?_ | refine x_block ?_)
        exact ⟨i + 1, _, rfl, ⟨hlt, e1 hc, by assumption, by assumption, vi rfl (by omega), ⟨_, _, rfl, hG, hS⟩⟩, by omega⟩
      · have he : iE paid l = cE (toQ (l.getD i zRR)) := by rw [heO]; exact e2 hc
        refine c_yes rfl (decide_eq_true hc) ?_
        repeat (with_reducible first | refine c_seq ?_ | refine c_block ?_ | refine c_skip ?_ | refine x_then ?_ | refine x_block ?_)
        refine c_reg ?_
        refine l_pure rfl (s_move  rfl ?_)
        refine l_pure rfl (s_asg  rfl ?_)
        refine l_pure rfl (s_asg  rfl ?_)
        refine l_nil ?_
        repeat (with_reducible first | refine c_seq ?_ | refine c_block ?_ | refine c_skip ?_ | refine x_then ?_ | refine x_block ?_)
        refine c_ret ?_
        repeat (with_reducible first | refine x_then_ret ?_ | refine x_block_ret ?_)
        refine r_two rfl rfl rfl ?_
        refine ⟨⟨_, by rw [he]; rfl, ?_⟩, hS.below⟩
        rw [hno (by rw [he]; exact hc)]; exact Sl.nil _ _ _
    · refine c_no rfl (decide_eq_false (by omega)) ?_
      repeat (with_reducible first | refine c_seq ?_ | refine c_block ?_ | refine c_skip ?_ | refine x_then ?_ | refine x_block ?_)
      refine c_exit ?_
      repeat (with_reducible first | refine x_then_exit ?_ | refine x_block_exit ?_ | refine x_block_pass rfl ?_)
      repeat (with_reducible first | refine c_seq ?_ | refine c_block ?_ | refine c_skip ?_ | refine x_then ?_ | refine x_block ?_)
      obtain rfl : i = l.length := by omega
      rw [List.take_length] at hf
      have he : iE paid l = 0 := by rw [heO, hf]
      repeat (with_reducible first | refine c_seq ?_ | refine c_block ?_ | refine c_skip ?_ | refine x_then ?_ | refine x_block ?_)
      refine c_reg ?_
      refine l_pure rfl (s_move  h7 ?_)
      refine l_pure rfl (s_asg  rfl ?_)
      refine l_pure rfl (s_asg  rfl ?_)
      refine l_nil ?_
      repeat (with_reducible first | refine c_seq ?_ | refine c_block ?_ | refine c_skip ?_ | refine x_then ?_ | refine x_block ?_)
      refine c_ret ?_
      repeat (with_reducible first | refine x_then_ret ?_ | refine x_block_ret ?_)
      refine r_two rfl rfl rfl ?_
      refine ⟨⟨_, by rw [he]; rfl, ?_⟩, hS.below⟩
      unfold iL
      rw [if_pos he]
      exact hG.sl hS enI_len
  · have he : iE paid l = 4 := by unfold iE; rw [if_pos hlen]
    refine c_yes rfl (decide_eq_true (by omega)) ?_
    repeat (with_reducible first | refine c_seq ?_ | refine c_block ?_ | refine c_skip ?_ | refine x_then ?_ | refine x_block ?_)
    refine c_reg ?_
    refine l_pure rfl (s_asg  rfl ?_)
    refine l_pure rfl (s_asg  rfl ?_)
    refine l_nil ?_
    repeat (with_reducible first | refine c_seq ?_ | refine c_block ?_ | refine c_skip ?_ | refine x_then ?_ | refine x_block ?_)
    refine c_ret ?_
    repeat (with_reducible first | refine x_then_ret ?_ | refine x_block_ret ?_)
    refine r_two rfl rfl rfl ?_
    refine ⟨⟨_, by rw [he]; rfl, ?_⟩, hS.below⟩
    rw [hno (by rw [he]; decide)]; exact Sl.nil _ _ _

/-! ### Amounts in cents -/
def ctF (l : List Nat) (i : Nat) : Int := if i < l.length then ((l.getD i 0 % 5000 : Nat) : Int) else 0
theorem lawCents_ok (v : Value) (l : List Nat) (n : Nat) (w : World) (hv : Sl (uk .u16) 1 w v l) (hl : ∀ x ∈ l, x < 65536) (hn : n ≤ 1000) :
    Ret Tryz.prog 34 #[v, .int .i64 n] w fun r w' => Sl enI 1 w' r (tab n (ctF l)) ∧ Below w.heap.size w w' := by
  have hmax := hv.maxLen
  have hS := St.init w
  refine enter Tryz.func34 rfl Tryz.ntmps34 rfl ?_
  repeat (with_reducible first | refine c_seq ?_ | refine c_block ?_ | refine c_skip ?_ | refine x_then ?_ | refine x_block ?_)
  refine c_reg ?_
  refine l_pure rfl (s_asg  rfl ?_)
  refine l_nil ?_
  repeat (with_reducible first | refine c_seq ?_ | refine c_block ?_ | refine c_skip ?_ | refine x_then ?_ | refine x_block ?_)
  refine c_reg ?_
  refine l_pure rfl (s_move  rfl ?_)
  refine l_heavy rfl (s_makeE (enc := enI) (n := n) 0  rfl rfl si_25 rfl (by omega) (by omega) (by omega) (by omega) hS ?_)
  intro b5 wz1 hS hBz1
  refine l_pure rfl (s_asg  rfl ?_)
  refine l_nil ?_
  repeat (with_reducible first | refine c_seq ?_ | refine c_block ?_ | refine c_skip ?_ | refine x_then ?_ | refine x_block ?_)
  refine c_reg ?_
  refine l_pure rfl (s_move  rfl ?_)
  refine l_pure rfl (s_leno  rfl ⟨_, Tryz.underlying25⟩ ?_)
  refine l_pure rfl (s_move  rfl ?_)
  refine l_nil ?_
  repeat (with_reducible first | refine c_seq ?_ | refine c_block ?_ | refine c_skip ?_ | refine x_then ?_ | refine x_block ?_)
  refine c_loop (σ := Nat) (fun i ρ w' => i ≤ n ∧ ρ 0 = v ∧ ρ 5 = .slice (some ⟨b5, 0, none⟩) n n ∧ ρ 10 = .int .i64 n ∧ ρ 11 = .int .i64 i ∧ St w w' [(b5, 2, (fill n i (ctF l) 0).flatMap enI)]) (fun i => n - i) 0
    ⟨Nat.zero_le _, rfl, rfl, rfl, rfl, by rw [← fill_zero]; exact hS⟩ ?_
  clear hS
  rintro i ρ w2 ⟨hi, h0, h5, h10, h11, hS⟩
  have hfl := fill_len n i (ctF l) 0
  repeat (with_reducible first | refine c_seq ?_ | refine c_block ?_ | refine c_skip ?_ | refine x_then ?_ | refine x_block ?_)
  refine c_reg ?_
  refine l_pure rfl (s_lss  h11 h10 ?_)
  refine l_nil ?_
  repeat (with_reducible first | refine c_seq ?_ | refine c_block ?_ | refine c_skip ?_ | refine x_then ?_ | refine x_block ?_)
  by_cases hlt : i < n
  · refine c_yes rfl (decide_eq_true (by omega)) ?_
    repeat (with_reducible first | refine c_seq ?_ | refine c_block ?_ | refine c_skip ?_ | refine x_then ?_ | refine x_block ?_)
    refine c_reg ?_
    refine l_pure rfl (s_move  h11 ?_)
    refine l_pure rfl (s_asg  rfl ?_)
    refine l_nil ?_
    repeat (with_reducible first | refine c_seq ?_ | refine c_block ?_ | refine c_skip ?_ | refine x_then ?_ | refine x_block ?_)
    refine c_reg ?_
    refine l_pure rfl (s_move  rfl ?_)
    refine l_pure rfl (s_move  h0 ?_)
    refine l_pure rfl (s_lenr  rfl (hv.below hS.below) ⟨_, Tryz.underlying46⟩ ?_)
    refine l_pure rfl (s_lss  rfl rfl ?_)
    refine l_nil ?_
    repeat (with_reducible first | refine c_seq ?_ | refine c_block ?_ | refine c_skip ?_ | refine x_then ?_ | refine x_block ?_)
    have hset := fill_set n i (ctF l) 0
    by_cases hil : i < l.length
    · refine c_yes rfl (decide_eq_true (by omega)) ?_
      repeat (with_reducible first | refine c_seq ?_ | refine c_block ?_ | refine c_skip ?_ | refine x_then ?_ | refine x_block ?_)
      have hx := hl _ (getD_mem l i 0 hil)
      have hc : ctF l i = ((l.getD i 0 % 5000 : Nat) : Int) := if_pos hil
      rw [hc] at hset
      repeat (with_reducible first | refine c_seq ?_ | refine c_block ?_ | refine c_skip ?_ | refine x_then ?_ | refine x_block ?_)
      refine c_reg ?_
      refine l_pure rfl (s_move  h5 ?_)
      refine l_pure rfl (s_move  rfl ?_)
      refine l_pure rfl (s_move  h0 ?_)
      refine l_pure rfl (s_move  rfl ?_)
      refine l_pure rfl (s_ixr (i := i)  rfl rfl (hv.below hS.below) (by omega) (by first | omega | (simp; done) | (simp; omega)) si_46 ?_)
      refine l_read rfl (s_lde (i := i) 0  rfl vi_79 (hv.below hS.below) (by first | omega | (simp; done) | (simp; omega)) rfl rfl (.inr rfl) ?_)
      refine l_pure rfl (s_rem  rfl rfl (by omega) (r := ((l.getD i 0 % 5000 : Nat) : Int)) (by exact rem_nat (l.getD i 0) 5000) ?_)
      refine l_pure rfl (s_conv  rfl Tryz.underlying2 ⟨_, Tryz.underlying79⟩ (r := ((l.getD i 0 % 5000 : Nat) : Int)) (by exact wr_i64 _ ⟨rfl, by omega, by omega⟩) ?_)
      refine l_pure rfl (s_ixo (i := i)  rfl rfl (by omega) (by first | omega | (simp; done) | (simp; omega)) si_25 ?_)
      refine l_heavy rfl (s_stE (k := 0) (i := i) (enc := enI) ((l.getD i 0 % 5000 : Nat) : Int) (fun _ => rfl)  rfl rfl vi_2 hS rfl (by first | omega | simp) (by first | omega | (simp; done) | (simp; omega)) rfl rfl ?_)
      intro wz2 hS
      refine l_nil ?_
      repeat (with_reducible first | refine c_seq ?_ | refine c_block ?_ | refine c_skip ?_ | refine x_then ?_ | refine x_block ?_)
      replace hS : St w _ [(b5, 2, ((fill n i (ctF l) 0).set i ((l.getD i 0 % 5000 : Nat) : Int)).flatMap enI)] := hS
      rw [hset] at hS
      repeat (with_reducible first | refine c_seq ?_ | refine c_block ?_ | refine c_skip ?_ | refine x_then ?_ | refine x_block ?_)
      refine c_reg ?_
      refine l_pure rfl (s_add  h11 rfl (IntWalk.i64_in _ (by omega)) ?_)
      refine l_pure rfl (s_move  rfl ?_)
      refine l_nil ?_
      repeat (with_reducible first | refine c_seq ?_ | refine c_block ?_ | refine c_skip ?_ | refine x_then ?_ | refine x_block ?_)
      exact ⟨i + 1, _, rfl, ⟨hlt, by assumption, by assumption, by assumption, vi rfl (by omega), hS⟩, by omega⟩
    · refine c_no rfl (decide_eq_false (by omega)) ?_
      repeat (with_reducible first | refine c_seq ?_ | refine c_block ?_ | refine c_skip ?_ | refine x_then ?_ | refine x_block ?_)
      have hc : ctF l i = 0 := if_neg hil
      have hsame : (fill n i (ctF l) 0).set i 0 = fill n i (ctF l) 0 := by
        unfold fill
        rw [tab_set]
        refine tab_congr fun j _ => ?_
        by_cases e : j = i
        · subst e; rw [if_pos rfl, if_neg (Nat.lt_irrefl _)]
        · rw [if_neg e]
      rw [hc, hsame] at hset
      rw [hset] at hS
      repeat (with_reducible first | refine c_seq ?_ | refine c_block ?_ | refine c_skip ?_ | refine x_then ?_ | refine x_block ?_)
      refine c_reg ?_
      refine l_pure rfl (s_add  h11 rfl (IntWalk.i64_in _ (by omega)) ?_)
      refine l_pure rfl (s_move  rfl ?_)
      refine l_nil ?_
      repeat (with_reducible first | refine c_seq ?_ | refine c_block ?_ | refine c_skip ?_ | refine x_then ?_ | refine x_block ?_)
      exact ⟨i + 1, _, rfl, ⟨hlt, by assumption, by assumption, by assumption, vi rfl (by omega), hS⟩, by omega⟩
  · refine c_no rfl (decide_eq_false (by omega)) ?_
    repeat (with_reducible first | refine c_seq ?_ | refine c_block ?_ | refine c_skip ?_ | refine x_then ?_ | refine x_block ?_)
    refine c_exit ?_
    repeat (with_reducible first | refine x_then_exit ?_ | refine x_block_exit ?_ | refine x_block_pass rfl ?_)
    repeat (with_reducible first | refine c_seq ?_ | refine c_block ?_ | refine c_skip ?_ | refine x_then ?_ | refine x_block ?_)
    obtain rfl : i = n := by omega
    rw [fill_all] at hS
    repeat (with_reducible first | refine c_seq ?_ | refine c_block ?_ | refine c_skip ?_ | refine x_then ?_ | refine x_block ?_)
    refine c_reg ?_
    refine l_pure rfl (s_move  h5 ?_)
    refine l_pure rfl (s_asg  rfl ?_)
    refine l_nil ?_
    repeat (with_reducible first | refine c_seq ?_ | refine c_block ?_ | refine c_skip ?_ | refine x_then ?_ | refine x_block ?_)
    refine c_ret ?_
    repeat (with_reducible first | refine x_then_ret ?_ | refine x_block_ret ?_)
    refine r_one rfl rfl ?_
    refine ⟨?_, hS.below⟩
    have h2 := hS.sle (k := 0) (n := i) (cap := i) rfl enI_len (by rw [tab_len]; omega) (Nat.le_refl _) (by omega)
    rwa [List.take_of_length_le (by rw [tab_len]; omega)] at h2

/-! ### The examples -/
def Q13 : RR := ofQ (mkRat 1 3)
def T3 : List RR := [Q13, Q13, Q13]
def T1 : List RR := [Q13]
def q13 (n i : Nat) : Rat := if i < n then hdQ (mkRat 1 3) else 0
theorem hd_zero : hdQ (toQ zRR) = 0 := by rw [toQ_zRR]; exact Rat.zero_mul _
theorem qC_T3 : qC T3 = q13 3 := by
  funext i
  unfold qC q13
  match i with
  | 0 => show hdQ (toQ Q13) = _; unfold Q13; rw [toQ_ofQ]; rfl
  | 1 => show hdQ (toQ Q13) = _; unfold Q13; rw [toQ_ofQ]; rfl
  | 2 => show hdQ (toQ Q13) = _; unfold Q13; rw [toQ_ofQ]; rfl
  | i + 3 => rw [if_neg (by omega)]; exact hd_zero
theorem qC_T1 : qC T1 = q13 1 := by
  funext i
  unfold qC q13
  match i with
  | 0 => show hdQ (toQ Q13) = _; unfold Q13; rw [toQ_ofQ]; rfl
  | i + 1 => rw [if_neg (by omega)]; exact hd_zero
theorem map_T3 : T3.map toQ = [mkRat 1 3, mkRat 1 3, mkRat 1 3] := by
  show [toQ Q13, toQ Q13, toQ Q13] = _
  unfold Q13; rw [toQ_ofQ]
theorem map_T1 : T1.map toQ = [mkRat 1 3] := by
  show [toQ Q13] = _
  unfold Q13; rw [toQ_ofQ]
theorem not_neg13 : ¬ toQ Q13 < 0 := by
  unfold Q13; rw [toQ_ofQ]; decide +kernel
theorem negs_T3 : negs T3 = false := by
  show (decide (toQ Q13 < 0) || (decide (toQ Q13 < 0) || (decide (toQ Q13 < 0) || false))) = false
  rw [decide_eq_false not_neg13]; rfl
theorem negs_T1 : negs T1 = false := by
  show (decide (toQ Q13 < 0) || false) = false
  rw [decide_eq_false not_neg13]; rfl
theorem rE_T3 : rE T3 = 0 := by
  unfold rE
  rw [if_neg (by decide), negs_T3, if_neg (by decide), map_T3]
  decide +kernel
theorem rE_T1 : rE T1 = 0 := by
  unfold rE
  rw [if_neg (by decide), negs_T1, if_neg (by decide), map_T1]
  decide +kernel
theorem rL_T3 : rL T3 = [34, 33, 33] := by
  unfold rL
  rw [if_pos rE_T3]
  unfold resC ordC
  rw [qC_T3]
  decide +kernel
theorem lE_T1 : lE [33] T1 = 0 := by
  unfold lE
  rw [if_neg (by decide), if_neg (by decide), if_neg (not_not_intro rE_T1)]
  unfold resC ordC
  rw [qC_T1]
  decide +kernel
theorem lL_T1 : lL [33] T1 = [0] := by
  unfold lL
  rw [if_pos lE_T1]
  unfold resC ordC
  rw [qC_T1]
  decide +kernel
theorem RB_Q13 : Lr Q13 ≤ 1 := by
  unfold Q13; rw [Lr_ofQ]
  exact L_mkRat 1 (by decide) (natS_size_le (by decide)) (natS_size_le (by decide))
end Go.Proofs.YtmapmdldlcfjhaaGreatDoor
