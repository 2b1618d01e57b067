/-
  Walks: the last payment (reference), payments in between.
-/
import Derived.Test.YtmapmdldlcfjhaaGreatDoorLawUf
namespace Go.Proofs.YtmapmdldlcfjhaaGreatDoor
open Go Go.RowKit Go.Sx

set_option maxHeartbeats 2000000 in
theorem rLast_ok (vp vf : Value) (paid : List Int) (l : List RR) (K : Nat) (w : World) (hp : Sl enI 1 w vp paid) (hpb : ∀ x ∈ paid, -9223372036854775808 ≤ x ∧ x ≤ 9223372036854775807) (hv : Sl encR 3 w vf l) (hl : RB K l) (h20 : l.length ≤ 20) (hK : 100 * K + 200 ≤ MX) :
    Ret Tryz.prog 33 #[vp, vf] w fun r w' => (∃ v', r = .tuple #[v', .int .i64 (lE paid l)] ∧ Sl enI 1 w' v' (lL paid l)) ∧ Below w.heap.size w w' := by
  have hmC : mxC = 1125899906842624 := rfl
  have hno : lE paid l ≠ 0 → lL paid l = [] := fun h => if_neg h
  have hpm := hp.maxLen
  have hlm := hv.maxLen
  have hS := St.init w
  refine enter Tryz.func33 rfl Tryz.ntmps33 rfl ?_
  repeat (with_reducible first | refine c_seq ?_ | refine c_block ?_ | refine c_skip ?_ | refine x_then ?_ | refine x_block ?_)
  refine c_reg ?_
  refine l_pure rfl (s_asg  rfl ?_)
  refine l_pure rfl (s_asg  rfl ?_)
  refine l_nil ?_
  repeat (with_reducible first | refine c_seq ?_ | refine c_block ?_ | refine c_skip ?_ | refine x_then ?_ | refine x_block ?_)
  refine c_reg ?_
  refine l_pure rfl (s_move  rfl ?_)
  refine l_pure rfl (s_lenr  rfl (hp.below hS.below) ⟨_, Tryz.underlying25⟩ ?_)
  refine l_pure rfl (s_move  rfl ?_)
  refine l_pure rfl (s_lenr  rfl (hv.below hS.below) ⟨_, Tryz.underlying22⟩ ?_)
  refine l_pure rfl (s_neq  rfl rfl ?_)
  refine l_nil ?_
  repeat (with_reducible first | refine c_seq ?_ | refine c_block ?_ | refine c_skip ?_ | refine x_then ?_ | refine x_block ?_)
  by_cases hlen : paid.length = l.length
  · refine c_no rfl (decide_eq_false (by omega)) ?_
    repeat (with_reducible first | refine c_seq ?_ | refine c_block ?_ | refine c_skip ?_ | refine x_then ?_ | refine x_block ?_)
    refine c_reg ?_
    refine l_pure rfl (s_asg  rfl ?_)
    refine l_nil ?_
    repeat (with_reducible first | refine c_seq ?_ | refine c_skip ?_ | refine x_then ?_ | refine x_block ?_)
    refine c_cut1 (fun ρ w' => nneg paid = false ∧ ρ 0 = vp ∧ ρ 1 = vf ∧ St w w' []) ?_ ?_
    · repeat (with_reducible first | refine c_seq ?_ | refine c_block ?_ | refine c_skip ?_ | refine x_then ?_ | refine x_block ?_)
      refine c_loop (σ := Nat) (fun i ρ w' => i ≤ paid.length ∧ nneg (paid.take i) = false ∧ ρ 0 = vp ∧ ρ 1 = vf ∧ ρ 6 = .int .i64 i ∧ St w w' []) (fun i => paid.length - i) 0
        ⟨Nat.zero_le _, rfl, rfl, rfl, rfl, hS⟩ ?_
      clear hS
      rintro i ρ w2 ⟨hi, hn, h0, h1, h6, hS⟩
      repeat (with_reducible first | refine c_seq ?_ | refine c_block ?_ | refine c_skip ?_ | refine x_then ?_ | refine x_block ?_)
      refine c_reg ?_
      refine l_pure rfl (s_move  h6 ?_)
      refine l_pure rfl (s_move  h0 ?_)
      refine l_pure rfl (s_lenr  rfl (hp.below hS.below) ⟨_, Tryz.underlying25⟩ ?_)
      refine l_pure rfl (s_lss  rfl rfl ?_)
      refine l_nil ?_
      repeat (with_reducible first | refine c_seq ?_ | refine c_block ?_ | refine c_skip ?_ | refine x_then ?_ | refine x_block ?_)
      by_cases hlt : i < paid.length
      · refine c_yes rfl (decide_eq_true (by omega)) ?_
        repeat (with_reducible first | refine c_seq ?_ | refine c_block ?_ | refine c_skip ?_ | refine x_then ?_ | refine x_block ?_)
        obtain ⟨t1, t2⟩ := nneg_take paid hlt hn
        repeat (with_reducible first | refine c_seq ?_ | refine c_block ?_ | refine c_skip ?_ | refine x_then ?_ | refine x_block ?_)
        refine c_reg ?_
        refine l_pure rfl (s_move  h0 ?_)
        refine l_pure rfl (s_move  h6 ?_)
        refine l_pure rfl (s_ixr (i := i)  rfl rfl (hp.below hS.below) (by omega) (by first | omega | (simp; done) | (simp; omega)) si_25 ?_)
        refine l_read rfl (s_lde (i := i) 0  rfl vi_2 (hp.below hS.below) (by first | omega | (simp; done) | (simp; omega)) rfl rfl (.inr rfl) ?_)
        refine l_pure rfl (s_lss  rfl rfl ?_)
        refine l_nil ?_
        repeat (with_reducible first | refine c_seq ?_ | refine c_block ?_ | refine c_skip ?_ | refine x_then ?_ | refine x_block ?_)
        by_cases hneg : paid.getD i 0 < 0
        · have he : lE paid l = 7 := by unfold lE; rw [if_neg (not_not_intro hlen), t2 hneg, if_pos rfl]
          refine c_yes rfl (decide_eq_true hneg) ?_
          repeat (with_reducible first | refine c_seq ?_ | refine c_block ?_ | refine c_skip ?_ | refine x_then ?_ | refine x_block ?_)
          refine c_reg ?_
          refine l_pure rfl (s_asg  rfl ?_)
          refine l_pure rfl (s_asg  rfl ?_)
          refine l_nil ?_
          repeat (with_reducible first | refine c_seq ?_ | refine c_block ?_ | refine c_skip ?_ | refine x_then ?_ | refine x_block ?_)
          refine c_ret ?_
          repeat (with_reducible first | refine x_then_ret ?_ | refine x_block_ret ?_)
          refine r_two rfl rfl rfl ?_
          refine ⟨⟨_, by rw [he]; rfl, ?_⟩, hS.below⟩
          rw [hno (by rw [he]; decide)]; exact Sl.nil _ _ _
        · refine c_no rfl (decide_eq_false hneg) ?_
          repeat (with_reducible first | refine c_seq ?_ | refine c_block ?_ | refine c_skip ?_ | refine x_then ?_ | refine x_block ?_)
          refine c_reg ?_
          refine l_pure rfl (s_move  h6 ?_)
          refine l_pure rfl (s_add  rfl rfl (IntWalk.i64_in _ (by omega)) ?_)
          refine l_pure rfl (s_asg  rfl ?_)
          refine l_nil ?_
          repeat (with_reducible first | refine c_seq ?_ | refine c_block ?_ | refine c_skip ?_ | refine x_then ?_ | refine x_block ?_)
          exact ⟨i + 1, _, rfl, ⟨hlt, t1 hneg, h0, h1, vi rfl (by omega), hS⟩, by omega⟩
      · refine c_no rfl (decide_eq_false (by omega)) ?_
        repeat (with_reducible first | refine c_seq ?_ | refine c_block ?_ | refine c_skip ?_ | refine x_then ?_ | refine x_block ?_)
        refine c_exit ?_
        repeat (with_reducible first | refine x_then_exit ?_ | refine x_block_exit ?_ | refine x_block_pass rfl ?_)
        repeat (with_reducible first | refine c_seq ?_ | refine c_block ?_ | refine c_skip ?_ | refine x_then ?_ | refine x_block ?_)
        obtain rfl : i = paid.length := by omega
        rw [List.take_length] at hn
        exact ⟨_, rfl, hn, h0, h1, hS⟩
    clear hS
    rintro ρ w2 ⟨hn, h0, h1, hS⟩
    repeat (with_reducible first | refine c_seq ?_ | refine c_block ?_ | refine c_skip ?_ | refine x_then ?_ | refine x_block ?_)
    refine c_reg ?_
    refine l_pure rfl (s_move  h1 ?_)
    refine l_heavy rfl (s_call Tryz.call25 rfl (rRound_ok vf l K _ (hv.below hS.below) hl h20 hK) ?_)
    rintro r w3 (⟨hz, rfl, hB3⟩ | ⟨hz, sO, LO, rfl, hG, hS3⟩)
    · replace hS := hS.grow hB3
      have he : lE paid l = rE l := by unfold lE; rw [if_neg (not_not_intro hlen), hn, if_neg (by decide), if_pos hz]
      refine l_pure rfl (s_move  rfl ?_)
      refine l_pure rfl (s_ext  rfl rfl ?_)
      refine l_pure rfl (s_ext  rfl rfl ?_)
      refine l_pure rfl (s_asg  rfl ?_)
      refine l_pure rfl (s_asg  rfl ?_)
      refine l_nil ?_
      repeat (with_reducible first | refine c_seq ?_ | refine c_block ?_ | refine c_skip ?_ | refine x_then ?_ | refine x_block ?_)
      refine c_reg ?_
      refine l_pure rfl (s_move  rfl ?_)
      refine l_pure rfl (s_neq  rfl rfl ?_)
      refine l_nil ?_
      repeat (with_reducible first | refine c_seq ?_ | refine c_block ?_ | refine c_skip ?_ | refine x_then ?_ | refine x_block ?_)
      refine c_yes rfl (decide_eq_true hz) ?_
      repeat (with_reducible first | refine c_seq ?_ | refine c_block ?_ | refine c_skip ?_ | refine x_then ?_ | refine x_block ?_)
      refine c_reg ?_
      refine l_pure rfl (s_move  rfl ?_)
      refine l_pure rfl (s_asg  rfl ?_)
      refine l_pure rfl (s_asg  rfl ?_)
      refine l_nil ?_
      repeat (with_reducible first | refine c_seq ?_ | refine c_block ?_ | refine c_skip ?_ | refine x_then ?_ | refine x_block ?_)
      refine c_ret ?_
      repeat (with_reducible first | refine x_then_ret ?_ | refine x_block_ret ?_)
      refine r_two rfl rfl rfl ?_
      refine ⟨⟨_, by rw [he]; rfl, ?_⟩, hS.below⟩
      rw [hno (by rw [he]; exact hz)]; exact Sl.nil _ _ _
    · replace hS := (hS.join hS3).cast (H' := [] ++ LO) (by simp)
      have hrb := fun i hi => resC_bound hz (i := i) hi
      have heO : lE paid l = if overB (resC l) (pdF paid) l.length = true then 49 else 0 := by unfold lE; rw [if_neg (not_not_intro hlen), hn, if_neg (by decide), if_neg (not_not_intro hz)]
      obtain ⟨res, hre⟩ : ∃ f, f = resC l := ⟨_, rfl⟩
      obtain ⟨n, hn'⟩ : ∃ n, n = l.length := ⟨_, rfl⟩
      have hpg : ∀ i, i < n → 0 ≤ pdF paid i ∧ pdF paid i ≤ 9223372036854775807 := fun i hi => ⟨nneg_get hn (by omega), (int64_get hpb (i := i) (by omega)).2⟩
      have hlL : lE paid l = 0 → lL paid l = tab n fun i => res i - pdF paid i := fun h => by unfold lL; rw [if_pos h, hre, hn']
      rw [← hre] at hG hrb heO
      rw [← hn'] at hG hrb heO
      rw [← lst_zero res (pdF paid)] at hG
      refine l_pure rfl (s_move  rfl ?_)
      refine l_pure rfl (s_ext  rfl rfl ?_)
      refine l_pure rfl (s_ext  rfl rfl ?_)
      refine l_pure rfl (s_asg  rfl ?_)
      refine l_pure rfl (s_asg  rfl ?_)
      refine l_nil ?_
      repeat (with_reducible first | refine c_seq ?_ | refine c_block ?_ | refine c_skip ?_ | refine x_then ?_ | refine x_block ?_)
      refine c_reg ?_
      refine l_pure rfl (s_move  rfl ?_)
      refine l_pure rfl (s_neq  rfl rfl ?_)
      refine l_nil ?_
      repeat (with_reducible first | refine c_seq ?_ | refine c_block ?_ | refine c_skip ?_ | refine x_then ?_ | refine x_block ?_)
      refine c_no rfl (decide_eq_false (by decide)) ?_
      repeat (with_reducible first | refine c_seq ?_ | refine c_block ?_ | refine c_skip ?_ | refine x_then ?_ | refine x_block ?_)
      refine c_reg ?_
      refine l_pure rfl (s_asg  rfl ?_)
      refine l_nil ?_
      repeat (with_reducible first | refine c_seq ?_ | refine c_block ?_ | refine c_skip ?_ | refine x_then ?_ | refine x_block ?_)
      refine c_loop (σ := Nat) (fun i ρ w' => i ≤ n ∧ (∀ k, k < i → pdF paid k ≤ res k) ∧ ρ 0 = vp ∧ ρ 7 = sO ∧ ρ 9 = .int .i64 i ∧ ∃ LO, Gl enI 2 1 sO (tab n (lst res (pdF paid) i)) LO ∧ St w w' ([] ++ LO)) (fun i => n - i) 0
        ⟨Nat.zero_le _, fun k hk => absurd hk (Nat.not_lt_zero k), h0, rfl, rfl, ⟨LO, hG, hS⟩⟩ ?_
      clear hS hS3 hG h0 h1
      rintro i ρ w4 ⟨hi, hq, h0, h7, h9, LO, hG, hS⟩
      have htl := tab_len n (lst res (pdF paid) i)
      repeat (with_reducible first | refine c_seq ?_ | refine c_block ?_ | refine c_skip ?_ | refine x_then ?_ | refine x_block ?_)
      refine c_reg ?_
      refine l_pure rfl (s_move  h9 ?_)
      refine l_pure rfl (s_move  h7 ?_)
      refine l_pure rfl (s_lenr  rfl (hG.sl hS enI_len) ⟨_, Tryz.underlying25⟩ ?_)
      refine l_pure rfl (s_lss  rfl rfl ?_)
      refine l_nil ?_
      repeat (with_reducible first | refine c_seq ?_ | refine c_block ?_ | refine c_skip ?_ | refine x_then ?_ | refine x_block ?_)
      by_cases hlt : i < n
      · refine c_yes rfl (decide_eq_true (by omega)) ?_
        repeat (with_reducible first | refine c_seq ?_ | refine c_block ?_ | refine c_skip ?_ | refine x_then ?_ | refine x_block ?_)
        have hset := lst_set res (pdF paid) n i
        have hg1 : (tab n (lst res (pdF paid) i)).getD i 0 = res i := by rw [tab_get _ _ hlt]; exact if_neg (Nat.lt_irrefl _)
        have hri := hrb i hlt
        have hpi := hpg i hlt
        have hpe : paid.getD i 0 = pdF paid i := rfl
        repeat (with_reducible first | refine c_seq ?_ | refine c_block ?_ | refine c_skip ?_ | refine x_then ?_ | refine x_block ?_)
        refine c_draw [(0, .pure), (1, .pure), (2, .pure), (3, .read), (4, .pure), (5, .pure), (6, .pure), (7, .read), (8, .pure)] (by kernel_rfl) (by kernel_rfl) hS ?_
        intro wz1 hS hBz1
        refine w_pure rfl rfl (s_move  h7 ?_)
        refine w_pure rfl rfl (s_move  h9 ?_)
        refine w_pure rfl rfl (s_ixr (i := i)  rfl rfl (hG.sl hS enI_len) (by omega) (by first | omega | (simp; done) | (simp; omega)) si_25 ?_)
        refine w_read rfl rfl (s_lde (i := i) 0  rfl vi_2 (hG.sl hS enI_len) (by first | omega | (simp; done) | (simp; omega)) rfl rfl (.inr rfl) ?_)
        refine w_pure rfl rfl (s_move  h0 ?_)
        refine w_pure rfl rfl (s_move  h9 ?_)
        refine w_pure rfl rfl (s_ixr (i := i)  rfl rfl (hp.below hS.below) (by omega) (by first | omega | (simp; done) | (simp; omega)) si_25 ?_)
        refine w_read rfl rfl (s_lde (i := i) 0  rfl vi_2 (hp.below hS.below) (by first | omega | (simp; done) | (simp; omega)) rfl rfl (.inr rfl) ?_)
        refine w_pure rfl rfl (s_lss  rfl rfl ?_)
        refine w_end ?_
        repeat (with_reducible first | refine c_seq ?_ | refine c_block ?_ | refine c_skip ?_ | refine x_then ?_ | refine x_block ?_)
        rw [hg1, hpe]
        by_cases hov : res i < pdF paid i
        · have he : lE paid l = 49 := by rw [heO, overB_yes hlt hov]; rfl
          refine c_yes rfl (decide_eq_true hov) ?_
          repeat (with_reducible first | refine c_seq ?_ | refine c_block ?_ | refine c_skip ?_ | refine x_then ?_ | refine x_block ?_)
          refine c_reg ?_
          refine l_pure rfl (s_asg  rfl ?_)
          refine l_pure rfl (s_asg  rfl ?_)
          refine l_nil ?_
          repeat (with_reducible first | refine c_seq ?_ | refine c_block ?_ | refine c_skip ?_ | refine x_then ?_ | refine x_block ?_)
          refine c_ret ?_
          repeat (with_reducible first | refine x_then_ret ?_ | refine x_block_ret ?_)
          refine r_two rfl rfl rfl ?_
          refine ⟨⟨_, by rw [he]; rfl, ?_⟩, hS.below⟩
          rw [hno (by rw [he]; decide)]; exact Sl.nil _ _ _
        · refine c_no rfl (decide_eq_false hov) ?_
          repeat (with_reducible first | refine c_seq ?_ | refine c_block ?_ | refine c_skip ?_ | refine x_then ?_ | refine x_block ?_)
          refine c_draw [(0, .pure), (1, .pure), (2, .pure), (3, .pure), (4, .pure), (5, .read), (6, .pure), (7, .pure), (8, .pure), (9, .read), (10, .pure), (11, .pure), (12, .free)] (by kernel_rfl) (by kernel_rfl) hS ?_
          intro wz2 hS hBz2
          refine w_pure rfl rfl (s_move  h7 ?_)
          refine w_pure rfl rfl (s_move  h9 ?_)
          refine w_pure rfl rfl (s_move  h7 ?_)
          refine w_pure rfl rfl (s_move  h9 ?_)
          refine w_pure rfl rfl (s_ixr (i := i)  rfl rfl (hG.sl hS enI_len) (by omega) (by first | omega | (simp; done) | (simp; omega)) si_25 ?_)
          refine w_read rfl rfl (s_lde (i := i) 0  rfl vi_2 (hG.sl hS enI_len) (by first | omega | (simp; done) | (simp; omega)) rfl rfl (.inr rfl) ?_)
          refine w_pure rfl rfl (s_move  h0 ?_)
          refine w_pure rfl rfl (s_move  h9 ?_)
          refine w_pure rfl rfl (s_ixr (i := i)  rfl rfl (hp.below hS.below) (by omega) (by first | omega | (simp; done) | (simp; omega)) si_25 ?_)
          refine w_read rfl rfl (s_lde (i := i) 0  rfl vi_2 (hp.below hS.below) (by first | omega | (simp; done) | (simp; omega)) rfl rfl (.inr rfl) ?_)
          refine w_pure rfl rfl (s_sub  rfl rfl (r := (res i - pdF paid i)) (by rw [hg1, hpe]; exact wr_i64 _ ⟨rfl, by omega, by omega⟩) ?_)
          refine w_pure rfl rfl (s_ixr (i := i)  rfl rfl (hG.sl hS enI_len) (by omega) (by first | omega | (simp; done) | (simp; omega)) si_25 ?_)
          refine w_free rfl rfl (s_stG (i := i) (res i - pdF paid i) enI_len  rfl rfl vi_2 hG hS (by omega) rfl rfl ?_)
          intro wz3 hS
          refine w_end ?_
          repeat (with_reducible first | refine c_seq ?_ | refine c_block ?_ | refine c_skip ?_ | refine x_then ?_ | refine x_block ?_)
          obtain ⟨LO2, hG, hS⟩ := hS
          rw [hset] at hG
          repeat (with_reducible first | refine c_seq ?_ | refine c_block ?_ | refine c_skip ?_ | refine x_then ?_ | refine x_block ?_)
          refine c_reg ?_
          refine l_pure rfl (s_move  h9 ?_)
          refine l_pure rfl (s_add  rfl rfl (IntWalk.i64_in _ (by omega)) ?_)
          refine l_pure rfl (s_asg  rfl ?_)
          refine l_nil ?_
          repeat (with_reducible first | refine c_seq ?_ | refine c_block ?_ | refine c_skip ?_ | refine x_then ?_ | refine x_block ?_)
          refine ⟨i + 1, _, rfl, ⟨hlt, fun k hk => ?_, by assumption, by assumption, vi rfl (by omega), ⟨LO2, hG, hS⟩⟩, by omega⟩
          by_cases e : k = i
          · subst e; omega
          · exact hq k (by omega)
      · refine c_no rfl (decide_eq_false (by omega)) ?_
        repeat (with_reducible first | refine c_seq ?_ | refine c_block ?_ | refine c_skip ?_ | refine x_then ?_ | refine x_block ?_)
        refine c_exit ?_
        repeat (with_reducible first | refine x_then_exit ?_ | refine x_block_exit ?_ | refine x_block_pass rfl ?_)
        repeat (with_reducible first | refine c_seq ?_ | refine c_block ?_ | refine c_skip ?_ | refine x_then ?_ | refine x_block ?_)
        obtain rfl : i = n := by omega
        have he : lE paid l = 0 := by rw [heO, overB_no hq]; rfl
        rw [lst_all] at hG
        repeat (with_reducible first | refine c_seq ?_ | refine c_block ?_ | refine c_skip ?_ | refine x_then ?_ | refine x_block ?_)
        refine c_reg ?_
        refine l_pure rfl (s_move  h7 ?_)
        refine l_pure rfl (s_asg  rfl ?_)
        refine l_pure rfl (s_asg  rfl ?_)
        refine l_nil ?_
        repeat (with_reducible first | refine c_seq ?_ | refine c_block ?_ | refine c_skip ?_ | refine x_then ?_ | refine x_block ?_)
        refine c_ret ?_
        repeat (with_reducible first | refine x_then_ret ?_ | refine x_block_ret ?_)
        refine r_two rfl rfl rfl ?_
        refine ⟨⟨_, by rw [he]; rfl, ?_⟩, hS.below⟩
        rw [hlL he]
        exact hG.sl hS enI_len
  · have he : lE paid l = 4 := by unfold lE; rw [if_pos hlen]
    refine c_yes rfl (decide_eq_true (by omega)) ?_
    repeat (with_reducible first | refine c_seq ?_ | refine c_block ?_ | refine c_skip ?_ | refine x_then ?_ | refine x_block ?_)
    refine c_reg ?_
    refine l_pure rfl (s_asg  rfl ?_)
    refine l_pure rfl (s_asg  rfl ?_)
    refine l_nil ?_
    repeat (with_reducible first | refine c_seq ?_ | refine c_block ?_ | refine c_skip ?_ | refine x_then ?_ | refine x_block ?_)
    refine c_ret ?_
    repeat (with_reducible first | refine x_then_ret ?_ | refine x_block_ret ?_)
    refine r_two rfl rfl rfl ?_
    refine ⟨⟨_, by rw [he]; rfl, ?_⟩, hS.below⟩
    rw [hno (by rw [he]; decide)]; exact Sl.nil _ _ _

/-! ### Payments in between -/
theorem cN_bound (q : Rat) : 0 ≤ cN q ∧ cN q ≤ mxC := by
  have hmC : mxC = 1125899906842624 := rfl
  unfold cN
  split
  · next h =>
    unfold cE at h
    split at h
    · cases h
    · next h1 =>
      split at h
      · cases h
      · have := flC_nonneg (Rat.not_lt.1 h1); omega
  · omega
def iE (paid : List Int) (safe : List RR) : Int := if paid.length ≠ safe.length then 4 else if nneg paid = true ∨ negs safe = true then 7 else firstE (fun r => cE (toQ r)) safe
def iV (paid : List Int) (safe : List RR) (i : Nat) : Int := max (cN (toQ (safe.getD i zRR)) - pdF paid i) 0
def iL (paid : List Int) (safe : List RR) : List Int := if iE paid safe = 0 then tab safe.length (iV paid safe) else []
set_option maxHeartbeats 2000000 in
theorem Interim_ok (vp vf : Value) (paid : List Int) (l : List RR) (K : Nat) (w : World) (hp : Sl enI 1 w vp paid) (hpb : ∀ x ∈ paid, -9223372036854775808 ≤ x ∧ x ≤ 9223372036854775807) (hv : Sl encR 3 w vf l) (hl : RB K l) (h20 : l.length ≤ 20) (hK : 100 * K + 200 ≤ MX) :
    Ret Tryz.prog 35 #[vp, vf] w fun r w' => (∃ v', r = .tuple #[v', .int .i64 (iE paid l)] ∧ Sl enI 1 w' v' (iL paid l)) ∧ Below w.heap.size w w' := by
  have hmC : mxC = 1125899906842624 := rfl
  have hno : iE paid l ≠ 0 → iL paid l = [] := fun h => if_neg h
  have hpm := hp.maxLen
  have hlm := hv.maxLen
  have hS := St.init w
  refine enter Tryz.func35 rfl Tryz.ntmps35 rfl ?_
  repeat (with_reducible first | refine c_seq ?_ | refine c_block ?_ | refine c_skip ?_ | refine x_then ?_ | refine x_block ?_)
  refine c_reg ?_
  refine l_pure rfl (s_asg  rfl ?_)
  refine l_pure rfl (s_asg  rfl ?_)
  refine l_nil ?_
  repeat (with_reducible first | refine c_seq ?_ | refine c_block ?_ | refine c_skip ?_ | refine x_then ?_ | refine x_block ?_)
  refine c_reg ?_
  refine l_pure rfl (s_move  rfl ?_)
  refine l_pure rfl (s_lenr  rfl (hp.below hS.below) ⟨_, Tryz.underlying25⟩ ?_)
  refine l_pure rfl (s_move  rfl ?_)
  refine l_pure rfl (s_lenr  rfl (hv.below hS.below) ⟨_, Tryz.underlying22⟩ ?_)
  refine l_pure rfl (s_neq  rfl rfl ?_)
  refine l_nil ?_
  repeat (with_reducible first | refine c_seq ?_ | refine c_block ?_ | refine c_skip ?_ | refine x_then ?_ | refine x_block ?_)
  by_cases hlen : paid.length = l.length
  · refine c_no rfl (decide_eq_false (by omega)) ?_
    repeat (with_reducible first | refine c_seq ?_ | refine c_block ?_ | refine c_skip ?_ | refine x_then ?_ | refine x_block ?_)
    refine c_reg ?_
    refine l_pure rfl (s_move  rfl ?_)
    refine l_heavy rfl (s_call Tryz.call73 rfl (unpaid_ok vp paid _ (hp.below hS.below)) ?_)
    rintro r w2 ⟨rfl, rfl⟩
    cases hn : nneg paid with
    | true =>
      have he : iE paid l = 7 := by unfold iE; rw [if_neg (not_not_intro hlen), if_pos (.inl hn)]
      refine l_pure rfl (s_move  rfl ?_)
      refine l_no (gno_yes 18 (by kernel_rfl) rfl rfl) ?_
      refine l_no (gno_yes 18 (by kernel_rfl) rfl rfl) ?_
      refine l_pure rfl (s_pick (vb rfl rfl) rfl ?_)
      refine l_nil ?_
      repeat (with_reducible first | refine c_seq ?_ | refine c_block ?_ | refine c_skip ?_ | refine x_then ?_ | refine x_block ?_)
      refine c_yes rfl (rfl) ?_
      repeat (with_reducible first | refine c_seq ?_ | refine c_block ?_ | refine c_skip ?_ | refine x_then ?_ | refine x_block ?_)
      refine c_reg ?_
      refine l_pure rfl (s_asg  rfl ?_)
      refine l_pure rfl (s_asg  rfl ?_)
      refine l_nil ?_
      repeat (with_reducible first | refine c_seq ?_ | refine c_block ?_ | refine c_skip ?_ | refine x_then ?_ | refine x_block ?_)
      refine c_ret ?_
      repeat (with_reducible first | refine x_then_ret ?_ | refine x_block_ret ?_)
      refine r_two rfl rfl rfl ?_
      refine ⟨⟨_, by rw [he]; rfl, ?_⟩, hS.below⟩
      rw [hno (by rw [he]; decide)]; exact Sl.nil _ _ _
    | false =>
    refine l_pure rfl (s_move  rfl ?_)
    refine l_pure (gd_yes 18 (by kernel_rfl) rfl rfl) (s_move  rfl ?_)
    refine l_heavy (gd_yes 18 (by kernel_rfl) rfl rfl) (s_call Tryz.call67 rfl (pnegative_ok vf l _ (hv.below hS.below) (RB_mono hl (by omega))) ?_)
    rintro r w3 ⟨rfl, hB3⟩
    replace hS := hS.grow hB3
    refine l_pure rfl (s_pick (vb rfl rfl) rfl ?_)
    refine l_nil ?_
    repeat (with_reducible first | refine c_seq ?_ | refine c_block ?_ | refine c_skip ?_ | refine x_then ?_ | refine x_block ?_)
    cases hn2 : negs l with
    | true =>
      have he : iE paid l = 7 := by unfold iE; rw [if_neg (not_not_intro hlen), if_pos (.inr hn2)]
      refine c_yes rfl (rfl) ?_
      repeat (with_reducible first | refine c_seq ?_ | refine c_block ?_ | refine c_skip ?_ | refine x_then ?_ | refine x_block ?_)
      refine c_reg ?_
      refine l_pure rfl (s_asg  rfl ?_)
      refine l_pure rfl (s_asg  rfl ?_)
      refine l_nil ?_
      repeat (with_reducible first | refine c_seq ?_ | refine c_block ?_ | refine c_skip ?_ | refine x_then ?_ | refine x_block ?_)
      refine c_ret ?_
      repeat (with_reducible first | refine x_then_ret ?_ | refine x_block_ret ?_)
      refine r_two rfl rfl rfl ?_
      refine ⟨⟨_, by rw [he]; rfl, ?_⟩, hS.below⟩
      rw [hno (by rw [he]; decide)]; exact Sl.nil _ _ _
    | false =>
    refine c_no rfl (rfl) ?_
    repeat (with_reducible first | refine c_seq ?_ | refine c_block ?_ | refine c_skip ?_ | refine x_then ?_ | refine x_block ?_)
    have heO : iE paid l = firstE (fun r => cE (toQ r)) l := by
      unfold iE
      rw [if_neg (not_not_intro hlen), if_neg (by rw [hn, hn2]; decide)]
    repeat (with_reducible first | refine c_seq ?_ | refine c_block ?_ | refine c_skip ?_ | refine x_then ?_ | refine x_block ?_)
    refine c_reg ?_
    refine l_pure rfl (s_asg  rfl ?_)
    refine l_nil ?_
    repeat (with_reducible first | refine c_seq ?_ | refine c_block ?_ | refine c_skip ?_ | refine x_then ?_ | refine x_block ?_)
    refine c_reg ?_
    refine l_pure rfl (s_move  rfl ?_)
    refine l_pure rfl (s_lenr  rfl (hv.below hS.below) ⟨_, Tryz.underlying22⟩ ?_)
    refine l_pure rfl (s_move  rfl ?_)
    refine l_nil ?_
    repeat (with_reducible first | refine c_seq ?_ | refine c_block ?_ | refine c_skip ?_ | refine x_then ?_ | refine x_block ?_)
    refine c_loop (σ := Nat) (fun i ρ w' => i ≤ l.length ∧ firstE (fun r => cE (toQ r)) (l.take i) = 0 ∧ ρ 0 = vp ∧ ρ 22 = vf ∧ ρ 23 = .int .i64 l.length ∧ ρ 24 = .int .i64 i ∧ ∃ sO LO, ρ 6 = sO ∧ Gl enI 2 1 sO (tab i (iV paid l)) LO ∧ St w2 w' ([] ++ LO)) (fun i => l.length - i) 0
      ⟨Nat.zero_le _, rfl, rfl, rfl, rfl, rfl, ⟨_, [], rfl, Gl.nil _ _ _, hS⟩⟩ ?_
    clear hS
    rintro i ρ w4 ⟨hi, hf, h0, h22, h23, h24, sO, LO, h6, hG, hS⟩
    have htl := tab_len i (iV paid l)
    repeat (with_reducible first | refine c_seq ?_ | refine c_block ?_ | refine c_skip ?_ | refine x_then ?_ | refine x_block ?_)
    refine c_reg ?_
    refine l_pure rfl (s_lss  h24 h23 ?_)
    refine l_nil ?_
    repeat (with_reducible first | refine c_seq ?_ | refine c_block ?_ | refine c_skip ?_ | refine x_then ?_ | refine x_block ?_)
    by_cases hlt : i < l.length
    · refine c_yes rfl (decide_eq_true (by omega)) ?_
      repeat (with_reducible first | refine c_seq ?_ | refine c_block ?_ | refine c_skip ?_ | refine x_then ?_ | refine x_block ?_)
      obtain ⟨e1, e2⟩ := firstE_step (fun r => cE (toQ r)) l zRR hlt hf
      have hLi := hl _ (getD_mem l i zRR hlt)
      have hcb := cN_bound (toQ (l.getD i zRR))
      have hpi : 0 ≤ pdF paid i ∧ pdF paid i ≤ 9223372036854775807 := ⟨nneg_get hn (by omega), (int64_get hpb (i := i) (by omega)).2⟩
      have hpe : paid.getD i 0 = pdF paid i := rfl
      repeat (with_reducible first | refine c_seq ?_ | refine c_block ?_ | refine c_skip ?_ | refine x_then ?_ | refine x_block ?_)
      refine c_reg ?_
      refine l_pure rfl (s_move  h24 ?_)
      refine l_pure rfl (s_ixr (i := i)  h22 h24 (hv.below hS.below) (by omega) (by first | omega | (simp; done) | (simp; omega)) si_22 ?_)
      refine l_read rfl (s_lde (i := i) zRR  rfl vi_37 (hv.below hS.below) (by first | omega | (simp; done) | (simp; omega)) rfl rfl (.inl rfl) ?_)
      refine l_heavy rfl (s_alloc  vi_37 hS ?_)
      intro b8 wz1 hS hBz1
      refine l_pure rfl (s_asg  rfl ?_)
      refine l_heavy rfl (s_sta (k := 0)  rfl rfl vi_37 hS rfl rfl rfl (Nat.le_of_ble_eq_true rfl) rfl ?_)
      intro wz2 hS
      refine l_nil ?_
      repeat (with_reducible first | refine c_seq ?_ | refine c_block ?_ | refine c_skip ?_ | refine x_then ?_ | refine x_block ?_)
      replace hS : St w2 _ ([(b8, 37, encR (l.getD i zRR))] ++ LO) := hS
      repeat (with_reducible first | refine c_seq ?_ | refine c_block ?_ | refine c_skip ?_ | refine x_then ?_ | refine x_block ?_)
      refine c_reg ?_
      refine l_read rfl (s_ldo (k := 0)  rfl vi_37 hS rfl rfl rfl (.inl rfl) ?_)
      refine l_heavy rfl (s_call Tryz.call20 rfl (Cents_ok (l.getD i zRR) _ (by omega)) ?_)
      rintro _ wc3 ⟨rfl, hBc3⟩
      replace hS := hS.grow hBc3
      refine l_pure rfl (s_move  rfl ?_)
      refine l_pure rfl (s_ext  rfl rfl ?_)
      refine l_pure rfl (s_ext  rfl rfl ?_)
      refine l_pure rfl (s_asg  rfl ?_)
      refine l_pure rfl (s_asg  rfl ?_)
      refine l_nil ?_
      repeat (with_reducible first | refine c_seq ?_ | refine c_block ?_ | refine c_skip ?_ | refine x_then ?_ | refine x_block ?_)
      refine c_reg ?_
      refine l_pure rfl (s_move  rfl ?_)
      refine l_pure rfl (s_neq  rfl rfl ?_)
      refine l_nil ?_
      repeat (with_reducible first | refine c_seq ?_ | refine c_block ?_ | refine c_skip ?_ | refine x_then ?_ | refine x_block ?_)
      by_cases hc : cE (toQ (l.getD i zRR)) = 0
      · refine c_no rfl (decide_eq_false (not_not_intro hc)) ?_
        repeat (with_reducible first | refine c_seq ?_ | refine c_block ?_ | refine c_skip ?_ | refine x_then ?_ | refine x_block ?_)
        refine c_reg ?_
        refine l_pure rfl (s_move  h6 ?_)
        refine l_pure rfl (s_move  rfl ?_)
        refine l_pure rfl (s_move  h0 ?_)
        refine l_pure rfl (s_move  rfl ?_)
        refine l_pure rfl (s_ixr (i := i)  rfl rfl (hp.below hS.below) (by omega) (by first | omega | (simp; done) | (simp; omega)) si_25 ?_)
        refine l_read rfl (s_lde (i := i) 0  rfl vi_2 (hp.below hS.below) (by first | omega | (simp; done) | (simp; omega)) rfl rfl (.inr rfl) ?_)
        refine l_pure rfl (s_sub  rfl rfl (r := (cN (toQ (l.getD i zRR)) - pdF paid i)) (by rw [hpe]; exact wr_i64 _ ⟨rfl, by omega, by omega⟩) ?_)
        refine l_pure rfl (s_max  rfl rfl ?_)
        refine l_heavy rfl (s_bsl (vs := [.int .i64 (iV paid l i)])  rfl si_25 rfl (by decide) (by decide) (by decide) (by simp [Value.cells]) rfl hS ?_)
        intro bx wz4 hS hBz4
        refine l_heavy rfl (s_appl [iV paid l i]  rfl rfl si_25 (by decide) hG hS rfl rfl enI_len (enI_one [iV paid l i]) (by first | omega | (simp only [List.length_cons, List.length_nil]; omega)) (by first | omega | (simp only [List.length_cons, List.length_nil]; omega)) ?_)
        intro va5 La5 wa5 hG hS hga5
        refine l_pure rfl (s_asg  rfl ?_)
        refine l_nil ?_
        repeat (with_reducible first | refine c_seq ?_ | refine c_block ?_ | refine c_skip ?_ | refine x_then ?_ | refine x_block ?_)
        rw [← tab_succ] at hG
        repeat (with_reducible first | refine c_seq ?_ | refine c_block ?_ | refine c_skip ?_ | refine x_then ?_ | refine x_block ?_)
        refine c_reg ?_
        refine l_pure rfl (s_add  h24 rfl (IntWalk.i64_in _ (by omega)) ?_)
        refine l_pure rfl (s_move  rfl ?_)
        refine l_nil ?_
        repeat (with_reducible first | refine c_seq ?_ | refine c_block ?_ | refine c_skip ?_ | refine x_then ?_ | refine x_block ?_)
        exact ⟨i + 1, _, rfl, ⟨hlt, e1 hc, by assumption, by assumption, by assumption, vi rfl (by omega), ⟨_, _, rfl, hG, hS.drop (List.sublist_cons_self _ _)⟩⟩, by omega⟩
      · have he : iE paid l = cE (toQ (l.getD i zRR)) := by rw [heO]; exact e2 hc
        refine c_yes rfl (decide_eq_true hc) ?_
        repeat (with_reducible first | refine c_seq ?_ | refine c_block ?_ | refine c_skip ?_ | refine x_then ?_ | refine x_block ?_)
        refine c_reg ?_
        refine l_pure rfl (s_move  rfl ?_)
        refine l_pure rfl (s_asg  rfl ?_)
        refine l_pure rfl (s_asg  rfl ?_)
        refine l_nil ?_
        repeat (with_reducible first | refine c_seq ?_ | refine c_block ?_ | refine c_skip ?_ | refine x_then ?_ | refine x_block ?_)
        refine c_ret ?_
        repeat (with_reducible first | refine x_then_ret ?_ | refine x_block_ret ?_)
        refine r_two rfl rfl rfl ?_
        refine ⟨⟨_, by rw [he]; rfl, ?_⟩, hS.below⟩
        rw [hno (by rw [he]; exact hc)]; exact Sl.nil _ _ _
    · refine c_no rfl (decide_eq_false (by omega)) ?_
      repeat (with_reducible first | refine c_seq ?_ | refine c_block ?_ | refine c_skip ?_ | refine x_then ?_ | refine x_block ?_)
      refine c_exit ?_
      repeat (with_reducible first | refine x_then_exit ?_ | refine x_block_exit ?_ | refine x_block_pass rfl ?_)
      repeat (with_reducible first | refine c_seq ?_ | refine c_block ?_ | refine c_skip ?_ | refine x_then ?_ | refine x_block ?_)
      obtain rfl : i = l.length := by omega
      rw [List.take_length] at hf
      have he : iE paid l = 0 := by rw [heO, hf]
      repeat (with_reducible first | refine c_seq ?_ | refine c_block ?_ | refine c_skip ?_ | refine x_then ?_ | refine x_block ?_)
      refine c_reg ?_
      refine l_pure rfl (s_move  h6 ?_)
      refine l_pure rfl (s_asg  rfl ?_)
      refine l_pure rfl (s_asg  rfl ?_)
      refine l_nil ?_
      repeat (with_reducible first | refine c_seq ?_ | refine c_block ?_ | refine c_skip ?_ | refine x_then ?_ | refine x_block ?_)
      refine c_ret ?_
      repeat (with_reducible first | refine x_then_ret ?_ | refine x_block_ret ?_)
      refine r_two rfl rfl rfl ?_
      refine ⟨⟨_, by rw [he]; rfl, ?_⟩, hS.below⟩
      unfold iL
      rw [if_pos he]
      exact hG.sl hS enI_len
  · have he : iE paid l = 4 := by unfold iE; rw [if_pos hlen]
    refine c_yes rfl (decide_eq_true (by omega)) ?_
    repeat (with_reducible first | refine c_seq ?_ | refine c_block ?_ | refine c_skip ?_ | refine x_then ?_ | refine x_block ?_)
    refine c_reg ?_
    refine l_pure rfl (s_asg  rfl ?_)
    refine l_pure rfl (s_asg  rfl ?_)
    refine l_nil ?_
    repeat (with_reducible first | refine c_seq ?_ | refine c_block ?_ | refine c_skip ?_ | refine x_then ?_ | refine x_block ?_)
    refine c_ret ?_
    repeat (with_reducible first | refine x_then_ret ?_ | refine x_block_ret ?_)
    refine r_two rfl rfl rfl ?_
    refine ⟨⟨_, by rw [he]; rfl, ?_⟩, hS.below⟩
    rw [hno (by rw [he]; decide)]; exact Sl.nil _ _ _
end Go.Proofs.YtmapmdldlcfjhaaGreatDoor
