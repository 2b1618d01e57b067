/-
  Walks: rounding to cents, without the lists (reference); comparing lists.
-/
import Derived.Test.YtmapmdldlcfjhaaGreatDoorLawUa
namespace Go.Proofs.YtmapmdldlcfjhaaGreatDoor
open Go Go.RowKit Go.Sx

theorem rint100_ok (w : World) : Ret Tryz.prog 31 #[.int .i64 100] w fun v w' => v = aggR (ofQ h100) ∧ Below w.heap.size w w' := rInt_ok 100 w (by decide) (by decide)
theorem hundred_ok (r : RR) (w : World) (hr : Lr r + 1 ≤ MX) :
    Ret Tryz.prog 62 #[aggR r] w fun v w' => v = aggR (ofQ (hdQ (toQ r))) ∧ Below w.heap.size w w' := by
  have hc1 := fun w => rFix_ok r w (show Lr r ≤ MX by omega)
  unfold fx at hc1
  have hL := L_toQ r
  have lh := L_h100
  have ht := fun w => rTimes_ok h100 (toQ r) w (by omega)
  rw [Rat.mul_comm] at ht
  have hS := St.init w
  refine enter Tryz.func62 rfl Tryz.ntmps62 rfl ?_
  repeat (with_reducible first | refine c_seq ?_ | refine c_block ?_ | refine c_skip ?_ | refine x_then ?_ | refine x_block ?_)
  refine c_reg ?_
  refine l_heavy rfl (s_box (new := encR r)  rfl rfl hS ?_)
  intro b1 wz2 hS hBz2
  refine l_heavy rfl (s_alloc  vi_37 hS ?_)
  intro b3 wz4 hS hBz4
  refine l_nil ?_
  repeat (with_reducible first | refine c_seq ?_ | refine c_block ?_ | refine c_skip ?_ | refine x_then ?_ | refine x_block ?_)
  refine c_draw [(1, .read), (0, .grow), (2, .grow), (3, .grow), (4, .free)] (by kernel_rfl) (by kernel_rfl) hS ?_
  intro wz5 hS hBz5
  refine w_read rfl rfl (s_ldo (k := 1)  rfl vi_37 hS rfl rfl rfl (.inl rfl) ?_)
  refine w_grow rfl rfl (s_call Tryz.call31 rfl (rint100_ok _) ?_)
  rintro _ wc6 ⟨rfl, hBc6⟩
  replace hS := hS.grow hBc6
  refine ⟨hBc6, ?_⟩
  refine w_grow rfl rfl (s_call Tryz.call52 rfl (hc1 _) ?_)
  rintro _ wc7 ⟨rfl, hBc7⟩
  replace hS := hS.grow hBc7
  refine ⟨hBc7, ?_⟩
  refine w_grow rfl rfl (s_call Tryz.call57 rfl (ht _) ?_)
  rintro _ wc8 ⟨rfl, hBc8⟩
  replace hS := hS.grow hBc8
  refine ⟨hBc8, ?_⟩
  refine w_free rfl rfl (s_sta (k := 0)  rfl rfl vi_37 hS rfl rfl rfl (Nat.le_of_ble_eq_true rfl) rfl ?_)
  intro wz9 hS
  refine w_end ?_
  repeat (with_reducible first | refine c_seq ?_ | refine c_block ?_ | refine c_skip ?_ | refine x_then ?_ | refine x_block ?_)
  refine c_ret ?_
  repeat (with_reducible first | refine x_then_ret ?_ | refine x_block_ret ?_)
  refine r_cell (k := 0) rfl rfl vi_37 hS rfl rfl ?_
  exact ⟨rfl, hS.below⟩
theorem i64V_fl {z : Int} (hz : 0 ≤ z) : i64V (z : Rat) = if z ≤ 9223372036854775807 then (z, true) else (0, false) := by
  rw [i64V_int]
  by_cases h : z ≤ 9223372036854775807
  · rw [if_pos h, if_pos ⟨by omega, h⟩]
  · rw [if_neg h, if_neg (fun g => h g.2)]
set_option maxHeartbeats 1000000 in
theorem rCents_ok (r : RR) (w : World) (hr : 2 * Lr r + 10 ≤ MX) :
    Ret Tryz.prog 21 #[aggR r] w fun v w' => v = .tuple #[.int .i64 (cN (toQ r)), .int .i64 (cE (toQ r))] ∧ Below w.heap.size w w' := by
  have hM : MX = 1099511627776 := rfl
  have hm : mxC = 1125899906842624 := rfl
  have hL := L_toQ r
  have hL1 := L_hd (toQ r)
  have hL2 := L_flC (toQ r)
  have hS := St.init w
  refine enter Tryz.func21 rfl Tryz.ntmps21 rfl ?_
  repeat (with_reducible first | refine c_seq ?_ | refine c_block ?_ | refine c_skip ?_ | refine x_then ?_ | refine x_block ?_)
  refine c_reg ?_
  refine l_heavy rfl (s_box (new := encR r)  rfl rfl hS ?_)
  intro b1 wz1 hS hBz1
  refine l_pure rfl (s_asg  rfl ?_)
  refine l_pure rfl (s_asg  rfl ?_)
  refine l_nil ?_
  repeat (with_reducible first | refine c_seq ?_ | refine c_block ?_ | refine c_skip ?_ | refine x_then ?_ | refine x_block ?_)
  refine c_reg ?_
  refine l_read rfl (s_ldo (k := 0)  rfl vi_37 hS rfl rfl rfl (.inl rfl) ?_)
  refine l_heavy rfl (s_call Tryz.call61 rfl (rSign_ok r _ (by omega)) ?_)
  rintro _ wc2 ⟨rfl, hBc2⟩
  replace hS := hS.grow hBc2
  refine l_pure rfl (s_lss  rfl rfl ?_)
  refine l_nil ?_
  repeat (with_reducible first | refine c_seq ?_ | refine c_block ?_ | refine c_skip ?_ | refine x_then ?_ | refine x_block ?_)
  by_cases hneg : toQ r < 0
  · have e1 : cE (toQ r) = 7 := if_pos hneg
    have e2 : cN (toQ r) = 0 := by unfold cN; rw [e1]; rfl
    rw [e1, e2]
    refine c_yes rfl (decide_eq_true (sgnQ_neg.2 hneg)) ?_
    repeat (with_reducible first | refine c_seq ?_ | refine c_block ?_ | refine c_skip ?_ | refine x_then ?_ | refine x_block ?_)
    refine c_reg ?_
    refine l_pure rfl (s_asg  rfl ?_)
    refine l_pure rfl (s_asg  rfl ?_)
    refine l_nil ?_
    repeat (with_reducible first | refine c_seq ?_ | refine c_block ?_ | refine c_skip ?_ | refine x_then ?_ | refine x_block ?_)
    refine c_ret ?_
    repeat (with_reducible first | refine x_then_ret ?_ | refine x_block_ret ?_)
    refine r_two rfl rfl rfl ?_
    exact ⟨rfl, hS.below⟩
  · have h0 : 0 ≤ toQ r := Rat.not_lt.1 hneg
    have hz := flC_nonneg h0
    have hfl := fun w => rFloor_ok (ofQ (hdQ (toQ r))) w (by rw [Lr_ofQ]; omega)
    rw [toQ_ofQ] at hfl
    have hi := fun w => rInt64_ok (ofQ (flC (toQ r) : Rat)) w (by rw [Lr_ofQ]; omega) (by rw [toQ_ofQ]; exact Rat.intCast_nonneg.2 hz)
    rw [toQ_ofQ, i64V_fl hz] at hi
    refine c_no rfl (decide_eq_false (fun g => hneg (sgnQ_neg.1 g))) ?_
    repeat (with_reducible first | refine c_seq ?_ | refine c_block ?_ | refine c_skip ?_ | refine x_then ?_ | refine x_block ?_)
    refine c_reg ?_
    refine l_read rfl (s_ldo (k := 0)  rfl vi_37 hS rfl rfl rfl (.inl rfl) ?_)
    refine l_heavy rfl (s_call Tryz.call62 rfl (hundred_ok r _ (by omega)) ?_)
    rintro _ wc3 ⟨rfl, hBc3⟩
    replace hS := hS.grow hBc3
    refine l_heavy rfl (s_call Tryz.call50 rfl (hfl _) ?_)
    rintro _ wc4 ⟨rfl, hBc4⟩
    replace hS := hS.grow hBc4
    refine l_heavy rfl (s_call Tryz.call49 rfl (hi _) ?_)
    rintro _ wc5 ⟨rfl, hBc5⟩
    replace hS := hS.grow hBc5
    refine l_pure rfl (s_move  rfl ?_)
    refine l_pure rfl (s_ext  rfl rfl ?_)
    refine l_pure rfl (s_ext  rfl rfl ?_)
    refine l_pure rfl (s_asg  rfl ?_)
    refine l_pure rfl (s_asg  rfl ?_)
    refine l_nil ?_
    repeat (with_reducible first | refine c_seq ?_ | refine c_block ?_ | refine c_skip ?_ | refine x_then ?_ | refine x_block ?_)
    by_cases hle : flC (toQ r) ≤ 9223372036854775807
    · rw [if_pos hle]
      by_cases hle2 : flC (toQ r) ≤ mxC
      · have e1 : cE (toQ r) = 0 := by unfold cE; rw [if_neg hneg, if_neg (by omega)]
        have e2 : cN (toQ r) = flC (toQ r) := by unfold cN; rw [if_pos e1]
        rw [e1, e2]
        repeat (with_reducible first | refine c_seq ?_ | refine c_block ?_ | refine c_skip ?_ | refine x_then ?_ | refine x_block ?_)
        refine c_reg ?_
        refine l_pure rfl (s_move  rfl ?_)
        refine l_pure rfl (s_not  rfl ?_)
        refine l_pure rfl (s_move  rfl ?_)
        refine l_pure (gd_yes 18 (by kernel_rfl) rfl rfl) (s_move  rfl ?_)
        refine l_pure (gd_yes 18 (by kernel_rfl) rfl rfl) (s_gtr  rfl rfl ?_)
        refine l_pure rfl (s_pick (vb rfl rfl) rfl ?_)
        refine l_nil ?_
        repeat (with_reducible first | refine c_seq ?_ | refine c_block ?_ | refine c_skip ?_ | refine x_then ?_ | refine x_block ?_)
        refine c_no rfl (decide_eq_false (by omega)) ?_
        repeat (with_reducible first | refine c_seq ?_ | refine c_block ?_ | refine c_skip ?_ | refine x_then ?_ | refine x_block ?_)
        refine c_reg ?_
        refine l_pure rfl (s_move  rfl ?_)
        refine l_pure rfl (s_asg  rfl ?_)
        refine l_pure rfl (s_asg  rfl ?_)
        refine l_nil ?_
        repeat (with_reducible first | refine c_seq ?_ | refine c_block ?_ | refine c_skip ?_ | refine x_then ?_ | refine x_block ?_)
        refine c_ret ?_
        repeat (with_reducible first | refine x_then_ret ?_ | refine x_block_ret ?_)
        refine r_two rfl rfl rfl ?_
        exact ⟨rfl, hS.below⟩
      · have e1 : cE (toQ r) = 1 := by unfold cE; rw [if_neg hneg, if_pos (by omega)]
        have e2 : cN (toQ r) = 0 := by unfold cN; rw [e1]; rfl
        rw [e1, e2]
        repeat (with_reducible first | refine c_seq ?_ | refine c_block ?_ | refine c_skip ?_ | refine x_then ?_ | refine x_block ?_)
        refine c_reg ?_
        refine l_pure rfl (s_move  rfl ?_)
        refine l_pure rfl (s_not  rfl ?_)
        refine l_pure rfl (s_move  rfl ?_)
        refine l_pure (gd_yes 18 (by kernel_rfl) rfl rfl) (s_move  rfl ?_)
        refine l_pure (gd_yes 18 (by kernel_rfl) rfl rfl) (s_gtr  rfl rfl ?_)
        refine l_pure rfl (s_pick (vb rfl rfl) rfl ?_)
        refine l_nil ?_
        repeat (with_reducible first | refine c_seq ?_ | refine c_block ?_ | refine c_skip ?_ | refine x_then ?_ | refine x_block ?_)
        refine c_yes rfl (decide_eq_true (by omega)) ?_
        repeat (with_reducible first | refine c_seq ?_ | refine c_block ?_ | refine c_skip ?_ | refine x_then ?_ | refine x_block ?_)
        refine c_reg ?_
        refine l_pure rfl (s_asg  rfl ?_)
        refine l_pure rfl (s_asg  rfl ?_)
        refine l_nil ?_
        repeat (with_reducible first | refine c_seq ?_ | refine c_block ?_ | refine c_skip ?_ | refine x_then ?_ | refine x_block ?_)
        refine c_ret ?_
        repeat (with_reducible first | refine x_then_ret ?_ | refine x_block_ret ?_)
        refine r_two rfl rfl rfl ?_
        exact ⟨rfl, hS.below⟩
    · have e1 : cE (toQ r) = 1 := by unfold cE; rw [if_neg hneg, if_pos (by omega)]
      have e2 : cN (toQ r) = 0 := by unfold cN; rw [e1]; rfl
      rw [if_neg hle, e1, e2]
      repeat (with_reducible first | refine c_seq ?_ | refine c_block ?_ | refine c_skip ?_ | refine x_then ?_ | refine x_block ?_)
      refine c_reg ?_
      refine l_pure rfl (s_move  rfl ?_)
      refine l_pure rfl (s_not  rfl ?_)
      refine l_pure rfl (s_move  rfl ?_)
      refine l_no (gno_yes 18 (by kernel_rfl) rfl rfl) ?_
      refine l_no (gno_yes 18 (by kernel_rfl) rfl rfl) ?_
      refine l_pure rfl (s_pick (vb rfl rfl) rfl ?_)
      refine l_nil ?_
      repeat (with_reducible first | refine c_seq ?_ | refine c_block ?_ | refine c_skip ?_ | refine x_then ?_ | refine x_block ?_)
      refine c_yes rfl (rfl) ?_
      repeat (with_reducible first | refine c_seq ?_ | refine c_block ?_ | refine c_skip ?_ | refine x_then ?_ | refine x_block ?_)
      refine c_reg ?_
      refine l_pure rfl (s_asg  rfl ?_)
      refine l_pure rfl (s_asg  rfl ?_)
      refine l_nil ?_
      repeat (with_reducible first | refine c_seq ?_ | refine c_block ?_ | refine c_skip ?_ | refine x_then ?_ | refine x_block ?_)
      refine c_ret ?_
      repeat (with_reducible first | refine x_then_ret ?_ | refine x_block_ret ?_)
      refine r_two rfl rfl rfl ?_
      exact ⟨rfl, hS.below⟩
theorem fraction_ok (r : RR) (w : World) (hr : 2 * Lr r + 10 ≤ MX) :
    Ret Tryz.prog 70 #[aggR r] w fun v w' => v = aggR (ofQ (frC (toQ r))) ∧ Below w.heap.size w w' := by
  have hL := L_toQ r
  have hL1 := L_hd (toQ r)
  have hL2 := L_flC (toQ r)
  have hfl := fun w => rFloor_ok (ofQ (hdQ (toQ r))) w (by rw [Lr_ofQ]; omega)
  rw [toQ_ofQ] at hfl
  have hS := St.init w
  refine enter Tryz.func70 rfl Tryz.ntmps70 rfl ?_
  repeat (with_reducible first | refine c_seq ?_ | refine c_block ?_ | refine c_skip ?_ | refine x_then ?_ | refine x_block ?_)
  refine c_reg ?_
  refine l_heavy rfl (s_box (new := encR r)  rfl rfl hS ?_)
  intro b1 wz2 hS hBz2
  refine l_heavy rfl (s_alloc  vi_37 hS ?_)
  intro b3 wz4 hS hBz4
  refine l_nil ?_
  repeat (with_reducible first | refine c_seq ?_ | refine c_block ?_ | refine c_skip ?_ | refine x_then ?_ | refine x_block ?_)
  refine c_draw [(0, .read), (2, .read), (1, .grow), (3, .grow), (4, .grow), (5, .grow), (6, .free)] (by kernel_rfl) (by kernel_rfl) hS ?_
  intro wz5 hS hBz5
  refine w_read rfl rfl (s_ldo (k := 1)  rfl vi_37 hS rfl rfl rfl (.inl rfl) ?_)
  refine w_read rfl rfl (s_ldo (k := 1)  rfl vi_37 hS rfl rfl rfl (.inl rfl) ?_)
  refine w_grow rfl rfl (s_call Tryz.call62 rfl (hundred_ok r _ (by omega)) ?_)
  rintro _ wc6 ⟨rfl, hBc6⟩
  replace hS := hS.grow hBc6
  refine ⟨hBc6, ?_⟩
  refine w_grow rfl rfl (s_call Tryz.call62 rfl (hundred_ok r _ (by omega)) ?_)
  rintro _ wc7 ⟨rfl, hBc7⟩
  replace hS := hS.grow hBc7
  refine ⟨hBc7, ?_⟩
  refine w_grow rfl rfl (s_call Tryz.call50 rfl (hfl _) ?_)
  rintro _ wc8 ⟨rfl, hBc8⟩
  replace hS := hS.grow hBc8
  refine ⟨hBc8, ?_⟩
  refine w_grow rfl rfl (s_call Tryz.call51 rfl (rMinus_ok (hdQ (toQ r)) (flC (toQ r) : Rat) _ (by omega)) ?_)
  rintro _ wc9 ⟨rfl, hBc9⟩
  replace hS := hS.grow hBc9
  refine ⟨hBc9, ?_⟩
  refine w_free rfl rfl (s_sta (k := 0)  rfl rfl vi_37 hS rfl rfl rfl (Nat.le_of_ble_eq_true rfl) rfl ?_)
  intro wz10 hS
  refine w_end ?_
  repeat (with_reducible first | refine c_seq ?_ | refine c_block ?_ | refine c_skip ?_ | refine x_then ?_ | refine x_block ?_)
  refine c_ret ?_
  repeat (with_reducible first | refine x_then_ret ?_ | refine x_block_ret ?_)
  refine r_cell (k := 0) rfl rfl vi_37 hS rfl rfl ?_
  exact ⟨rfl, hS.below⟩
theorem SameCents_ok (va vb : Value) (A B : List Int) (w : World) (ha : Sl enI 1 w va A) (hb : Sl enI 1 w vb B) :
    Ret Tryz.prog 26 #[va, vb] w fun v w' => v = .bool (decide (A = B)) ∧ Below w.heap.size w w' := by
  have hS := St.init w
  have hla := ha.maxLen
  have hlb := hb.maxLen
  refine enter Tryz.func26 rfl Tryz.ntmps26 rfl ?_
  repeat (with_reducible first | refine c_seq ?_ | refine c_block ?_ | refine c_skip ?_ | refine x_then ?_ | refine x_block ?_)
  refine c_reg ?_
  refine l_pure rfl (s_asg  rfl ?_)
  refine l_nil ?_
  repeat (with_reducible first | refine c_seq ?_ | refine c_block ?_ | refine c_skip ?_ | refine x_then ?_ | refine x_block ?_)
  refine c_reg ?_
  refine l_pure rfl (s_move  rfl ?_)
  refine l_pure rfl (s_lenr  rfl (ha.below hS.below) ⟨_, Tryz.underlying25⟩ ?_)
  refine l_pure rfl (s_move  rfl ?_)
  refine l_pure rfl (s_lenr  rfl (hb.below hS.below) ⟨_, Tryz.underlying25⟩ ?_)
  refine l_pure rfl (s_neq  rfl rfl ?_)
  refine l_nil ?_
  repeat (with_reducible first | refine c_seq ?_ | refine c_block ?_ | refine c_skip ?_ | refine x_then ?_ | refine x_block ?_)
  by_cases hl : A.length = B.length
  · refine c_no rfl (decide_eq_false (by omega)) ?_
    repeat (with_reducible first | refine c_seq ?_ | refine c_block ?_ | refine c_skip ?_ | refine x_then ?_ | refine x_block ?_)
    refine c_reg ?_
    refine l_pure rfl (s_asg  rfl ?_)
    refine l_nil ?_
    repeat (with_reducible first | refine c_seq ?_ | refine c_block ?_ | refine c_skip ?_ | refine x_then ?_ | refine x_block ?_)
    refine c_loop (σ := Nat) (fun i ρ w' => i ≤ A.length ∧ A.take i = B.take i ∧ ρ 0 = va ∧ ρ 1 = vb ∧ ρ 5 = .int .i64 i ∧ St w w' []) (fun i => A.length - i) 0
      ⟨Nat.zero_le _, rfl, rfl, rfl, rfl, hS⟩ ?_
    clear hS
    rintro i ρ w2 ⟨hi, hq, h0, h1, h5, hS⟩
    repeat (with_reducible first | refine c_seq ?_ | refine c_block ?_ | refine c_skip ?_ | refine x_then ?_ | refine x_block ?_)
    refine c_reg ?_
    refine l_pure rfl (s_move  h5 ?_)
    refine l_pure rfl (s_move  h0 ?_)
    refine l_pure rfl (s_lenr  rfl (ha.below hS.below) ⟨_, Tryz.underlying25⟩ ?_)
    refine l_pure rfl (s_lss  rfl rfl ?_)
    refine l_nil ?_
    repeat (with_reducible first | refine c_seq ?_ | refine c_block ?_ | refine c_skip ?_ | refine x_then ?_ | refine x_block ?_)
    by_cases hlt : i < A.length
    · refine c_yes rfl (decide_eq_true (by omega)) ?_
      repeat (with_reducible first | refine c_seq ?_ | refine c_block ?_ | refine c_skip ?_ | refine x_then ?_ | refine x_block ?_)
      have hltb : i < B.length := by omega
      repeat (with_reducible first | refine c_seq ?_ | refine c_block ?_ | refine c_skip ?_ | refine x_then ?_ | refine x_block ?_)
      refine c_draw [(0, .pure), (1, .pure), (2, .pure), (3, .read), (4, .pure), (5, .pure), (6, .pure), (7, .read), (8, .pure)] (by kernel_rfl) (by kernel_rfl) hS ?_
      intro wz1 hS hBz1
      refine w_pure rfl rfl (s_move  h0 ?_)
      refine w_pure rfl rfl (s_move  h5 ?_)
      refine w_pure rfl rfl (s_ixr (i := i)  rfl rfl (ha.below hS.below) (by omega) (by first | omega | (simp; done) | (simp; omega)) si_25 ?_)
      refine w_read rfl rfl (s_lde (i := i) 0  rfl vi_2 (ha.below hS.below) (by first | omega | (simp; done) | (simp; omega)) rfl rfl (.inr rfl) ?_)
      refine w_pure rfl rfl (s_move  h1 ?_)
      refine w_pure rfl rfl (s_move  h5 ?_)
      refine w_pure rfl rfl (s_ixr (i := i)  rfl rfl (hb.below hS.below) (by omega) (by first | omega | (simp; done) | (simp; omega)) si_25 ?_)
      refine w_read rfl rfl (s_lde (i := i) 0  rfl vi_2 (hb.below hS.below) (by first | omega | (simp; done) | (simp; omega)) rfl rfl (.inr rfl) ?_)
      refine w_pure rfl rfl (s_neq  rfl rfl ?_)
      refine w_end ?_
      repeat (with_reducible first | refine c_seq ?_ | refine c_block ?_ | refine c_skip ?_ | refine x_then ?_ | refine x_block ?_)
      have ta := take_succ' A i 0 hlt
      have tb := take_succ' B i 0 hltb
      by_cases he : A.getD i 0 = B.getD i 0
      · refine c_no rfl (decide_eq_false (not_not_intro he)) ?_
        repeat (with_reducible first | refine c_seq ?_ | refine c_block ?_ | refine c_skip ?_ | refine x_then ?_ | refine x_block ?_)
        refine c_reg ?_
        refine l_pure rfl (s_move  h5 ?_)
        refine l_pure rfl (s_add  rfl rfl (IntWalk.i64_in _ (by omega)) ?_)
        refine l_pure rfl (s_asg  rfl ?_)
        refine l_nil ?_
        repeat (with_reducible first | refine c_seq ?_ | refine c_block ?_ | refine c_skip ?_ | refine x_then ?_ | refine x_block ?_)
        exact ⟨i + 1, _, rfl, ⟨hlt, by rw [ta, tb, hq, he], h0, h1, vi rfl (by omega), hS⟩, by omega⟩
      · refine c_yes rfl (decide_eq_true he) ?_
        repeat (with_reducible first | refine c_seq ?_ | refine c_block ?_ | refine c_skip ?_ | refine x_then ?_ | refine x_block ?_)
        refine c_reg ?_
        refine l_pure rfl (s_asg  rfl ?_)
        refine l_nil ?_
        repeat (with_reducible first | refine c_seq ?_ | refine c_block ?_ | refine c_skip ?_ | refine x_then ?_ | refine x_block ?_)
        refine c_ret ?_
        repeat (with_reducible first | refine x_then_ret ?_ | refine x_block_ret ?_)
        refine r_one rfl rfl ?_
        refine ⟨congrArg Value.bool ?_, hS.below⟩
        symm; rw [decide_eq_false_iff_not]
        intro h
        rw [h] at he
        exact he rfl
    · refine c_no rfl (decide_eq_false (by omega)) ?_
      repeat (with_reducible first | refine c_seq ?_ | refine c_block ?_ | refine c_skip ?_ | refine x_then ?_ | refine x_block ?_)
      refine c_exit ?_
      repeat (with_reducible first | refine x_then_exit ?_ | refine x_block_exit ?_ | refine x_block_pass rfl ?_)
      repeat (with_reducible first | refine c_seq ?_ | refine c_block ?_ | refine c_skip ?_ | refine x_then ?_ | refine x_block ?_)
      obtain rfl : i = A.length := by omega
      rw [List.take_length, hl, List.take_length] at hq
      repeat (with_reducible first | refine c_seq ?_ | refine c_block ?_ | refine c_skip ?_ | refine x_then ?_ | refine x_block ?_)
      refine c_reg ?_
      refine l_pure rfl (s_asg  rfl ?_)
      refine l_nil ?_
      repeat (with_reducible first | refine c_seq ?_ | refine c_block ?_ | refine c_skip ?_ | refine x_then ?_ | refine x_block ?_)
      refine c_ret ?_
      repeat (with_reducible first | refine x_then_ret ?_ | refine x_block_ret ?_)
      refine r_one rfl rfl ?_
      exact ⟨congrArg Value.bool (decide_eq_true hq).symm, hS.below⟩
  · refine c_yes rfl (decide_eq_true (by omega)) ?_
    repeat (with_reducible first | refine c_seq ?_ | refine c_block ?_ | refine c_skip ?_ | refine x_then ?_ | refine x_block ?_)
    refine c_reg ?_
    refine l_pure rfl (s_asg  rfl ?_)
    refine l_nil ?_
    repeat (with_reducible first | refine c_seq ?_ | refine c_block ?_ | refine c_skip ?_ | refine x_then ?_ | refine x_block ?_)
    refine c_ret ?_
    repeat (with_reducible first | refine x_then_ret ?_ | refine x_block_ret ?_)
    refine r_one rfl rfl ?_
    refine ⟨congrArg Value.bool ?_, hS.below⟩
    symm; rw [decide_eq_false_iff_not]
    intro h
    rw [h] at hl
    exact hl rfl
end Go.Proofs.YtmapmdldlcfjhaaGreatDoor
