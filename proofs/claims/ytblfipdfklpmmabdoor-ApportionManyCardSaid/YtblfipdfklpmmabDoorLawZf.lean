/-
  Walk: the law on how many shares are accepted.
-/
import Derived.Test.YtblfipdfklpmmabDoorLawZe
namespace Go.Proofs.YtblfipdfklpmmabDoor
open Go Go.RowKit Go.Sx

set_option maxHeartbeats 1000000 in
theorem ApportionMany_ok (x : Int) (w : World) (h1 : 0 ≤ x) :
    Ret Tryd.prog 3 #[.int .u16 x] w fun v w' => v = .bool true ∧ Below w.heap.size w w' := by
  have hM : MX = 1099511627776 := rfl
  obtain ⟨k, hk⟩ : ∃ k : Nat, (k : Int) = 1 + x % 1100 := ⟨(1 + x % 1100).toNat, by omega⟩
  have hk1 : 1 ≤ k := by omega
  have hk2 : k ≤ 1100 := by omega
  have hS := St.init w
  refine enter Tryd.func3 rfl Tryd.ntmps3 rfl ?_
  repeat (with_reducible first | refine c_seq ?_ | refine c_block ?_ | refine c_skip ?_ | refine x_then ?_ | refine x_block ?_)
  refine c_reg ?_
  refine l_pure rfl (s_asg  rfl ?_)
  refine l_nil ?_
  repeat (with_reducible first | refine c_seq ?_ | refine c_block ?_ | refine c_skip ?_ | refine x_then ?_ | refine x_block ?_)
  refine c_reg ?_
  refine l_pure rfl (s_move  rfl ?_)
  refine l_pure rfl (s_rem  rfl rfl (by omega) (Int.tmod_eq_emod_of_nonneg (by omega)) ?_)
  refine l_pure rfl (s_conv  rfl Tryd.underlying3 ⟨_, Tryd.underlying22⟩ (IntWalk.i64_in _ (by omega)) ?_)
  refine l_pure rfl (s_add  rfl rfl (IntWalk.i64_in _ (by omega)) ?_)
  refine l_pure rfl (s_asg  rfl ?_)
  refine l_nil ?_
  repeat (with_reducible first | refine c_seq ?_ | refine c_block ?_ | refine c_skip ?_ | refine x_then ?_ | refine x_block ?_)
  refine c_reg ?_
  refine l_pure rfl (s_move  rfl ?_)
  refine l_heavy rfl (s_makeE (enc := encR) (n := k) zRR  rfl rfl si_23 rfl (by omega) (by omega) (by omega) (by omega) hS ?_)
  intro b14 wz1 hS hBz1
  refine l_pure rfl (s_asg  rfl ?_)
  refine l_nil ?_
  repeat (with_reducible first | refine c_seq ?_ | refine c_block ?_ | refine c_skip ?_ | refine x_then ?_ | refine x_block ?_)
  refine c_reg ?_
  refine l_pure rfl (s_move  rfl ?_)
  refine l_heavy rfl (s_call Tryd.call4 rfl (QInt_ok 1 _ (by decide) (by decide)) ?_)
  rintro _ wc2 ⟨rfl, hBc2⟩
  replace hS := hS.grow hBc2
  refine l_pure rfl (s_ixo (i := 0)  rfl rfl (by omega) (by first | omega | (simp; done) | (simp; omega)) si_23 ?_)
  refine l_heavy rfl (s_stE (k := 0) (i := 0) (enc := encR) (ofQ r1) (fun _ => rfl)  rfl rfl vi_25 hS rfl (by first | omega | simp) (by first | omega | (simp; done) | (simp; omega)) rfl rfl ?_)
  intro wz3 hS
  refine l_nil ?_
  repeat (with_reducible first | refine c_seq ?_ | refine c_block ?_ | refine c_skip ?_ | refine x_then ?_ | refine x_block ?_)
  have hset : (List.replicate k zRR).set 0 (ofQ r1) = cst 1 k := cst_set k 1
  replace hS : St w _ [(b14, 25, ((List.replicate k zRR).set 0 (ofQ r1)).flatMap encR)] := hS
  rw [hset] at hS
  have hlen := cst_len 1 k
  have hlen5 := cst_len 5 k
  have hRB := RB_cst (c := 1) (by decide) k
  have hT := hS.sle (k := 0) (L := cst 1 k) (n := k) (cap := k) rfl encR_len (by omega) (by omega) (by omega)
  rw [List.take_of_length_le (by omega)] at hT
  by_cases hk3 : k ≤ 1024
  · repeat (with_reducible first | refine c_seq ?_ | refine c_block ?_ | refine c_skip ?_ | refine x_then ?_ | refine x_block ?_)
    refine c_reg ?_
    refine l_pure rfl (s_move  rfl ?_)
    refine l_heavy rfl (s_call Tryd.call5 rfl (Largest_big _ (cst 1 k) 1 _ hT hRB (by omega) (fun i hi => fr_cst (by omega)) (by omega)) ?_)
    rintro r w3 ⟨⟨va, rfl, -⟩, hB3⟩
    rw [lgE_cst (by decide) (by decide) hk1 hk3]
    replace hS := hS.grow hB3
    replace hT := hT.below hB3
    refine l_pure rfl (s_move  rfl ?_)
    refine l_pure rfl (s_ext  rfl rfl ?_)
    refine l_pure rfl (s_ext  rfl rfl ?_)
    refine l_pure rfl (s_asg  rfl ?_)
    refine l_pure rfl (s_asg  rfl ?_)
    refine l_nil ?_
    repeat (with_reducible first | refine c_seq ?_ | refine c_block ?_ | refine c_skip ?_ | refine x_then ?_ | refine x_block ?_)
    refine c_reg ?_
    refine l_pure rfl (s_move  rfl ?_)
    refine l_heavy rfl (s_call Tryd.call6 rfl (Split_big 5 _ (cst 1 k) 1 _ (by decide) (by decide) hT hRB (by omega) (fun i hi => by rw [shL_cst hk1] at hi ⊢; exact fr_cst (by omega)) (by omega)) ?_)
    rintro r w4 ⟨⟨vb_, rfl, -⟩, hB4⟩
    rw [spE_cst hk1 hk3]
    replace hS := hS.grow hB4
    refine l_pure rfl (s_move  rfl ?_)
    refine l_pure rfl (s_ext  rfl rfl ?_)
    refine l_pure rfl (s_ext  rfl rfl ?_)
    refine l_pure rfl (s_asg  rfl ?_)
    refine l_pure rfl (s_asg  rfl ?_)
    refine l_nil ?_
    repeat (with_reducible first | refine c_seq ?_ | refine c_block ?_ | refine c_skip ?_ | refine x_then ?_ | refine x_block ?_)
    refine c_reg ?_
    refine l_pure rfl (s_move  rfl ?_)
    refine l_pure rfl (s_gtr  rfl rfl ?_)
    refine l_nil ?_
    repeat (with_reducible first | refine c_seq ?_ | refine c_block ?_ | refine c_skip ?_ | refine x_then ?_ | refine x_block ?_)
    refine c_no rfl (decide_eq_false (by omega)) ?_
    repeat (with_reducible first | refine c_seq ?_ | refine c_block ?_ | refine c_skip ?_ | refine x_then ?_ | refine x_block ?_)
    refine c_reg ?_
    refine l_heavy rfl (s_call Tryd.call7 rfl (Aawake_ok _) ?_)
    rintro _ wc4 ⟨rfl, hBc4⟩
    replace hS := hS.grow hBc4
    refine l_pure rfl (s_move  rfl ?_)
    refine l_pure (gd_yes 40 (by kernel_rfl) rfl rfl) (s_move  rfl ?_)
    refine l_pure (gd_yes 40 (by kernel_rfl) rfl rfl) (s_eql  rfl rfl ?_)
    refine l_pure rfl (s_pick (vb rfl rfl) rfl ?_)
    refine l_pure rfl (s_move  rfl ?_)
    refine l_pure (gd_yes 44 (by kernel_rfl) rfl (decide_eq_true rfl)) (s_move  rfl ?_)
    refine l_pure (gd_yes 44 (by kernel_rfl) rfl (decide_eq_true rfl)) (s_eql  rfl rfl ?_)
    refine l_pure rfl (s_pick (vb rfl (decide_eq_true rfl)) rfl ?_)
    refine l_pure rfl (s_asg  rfl ?_)
    refine l_nil ?_
    repeat (with_reducible first | refine c_seq ?_ | refine c_block ?_ | refine c_skip ?_ | refine x_then ?_ | refine x_block ?_)
    refine c_ret ?_
    repeat (with_reducible first | refine x_then_ret ?_ | refine x_block_ret ?_)
    refine r_one rfl rfl ?_
    exact ⟨vb rfl (decide_eq_true rfl), hS.below⟩
  · repeat (with_reducible first | refine c_seq ?_ | refine c_block ?_ | refine c_skip ?_ | refine x_then ?_ | refine x_block ?_)
    refine c_reg ?_
    refine l_pure rfl (s_move  rfl ?_)
    refine l_heavy rfl (s_call Tryd.call5 rfl (Largest_long _ (cst 1 k) _ hT (by omega)) ?_)
    rintro r w3 ⟨⟨va, rfl⟩, hB3⟩
    replace hS := hS.grow hB3
    replace hT := hT.below hB3
    refine l_pure rfl (s_move  rfl ?_)
    refine l_pure rfl (s_ext  rfl rfl ?_)
    refine l_pure rfl (s_ext  rfl rfl ?_)
    refine l_pure rfl (s_asg  rfl ?_)
    refine l_pure rfl (s_asg  rfl ?_)
    refine l_nil ?_
    repeat (with_reducible first | refine c_seq ?_ | refine c_block ?_ | refine c_skip ?_ | refine x_then ?_ | refine x_block ?_)
    refine c_reg ?_
    refine l_pure rfl (s_move  rfl ?_)
    refine l_heavy rfl (s_call Tryd.call6 rfl (Split_long 5 _ (cst 1 k) _ hT (by omega)) ?_)
    rintro r w4 ⟨⟨vb_, rfl⟩, hB4⟩
    replace hS := hS.grow hB4
    refine l_pure rfl (s_move  rfl ?_)
    refine l_pure rfl (s_ext  rfl rfl ?_)
    refine l_pure rfl (s_ext  rfl rfl ?_)
    refine l_pure rfl (s_asg  rfl ?_)
    refine l_pure rfl (s_asg  rfl ?_)
    refine l_nil ?_
    repeat (with_reducible first | refine c_seq ?_ | refine c_block ?_ | refine c_skip ?_ | refine x_then ?_ | refine x_block ?_)
    refine c_reg ?_
    refine l_pure rfl (s_move  rfl ?_)
    refine l_pure rfl (s_gtr  rfl rfl ?_)
    refine l_nil ?_
    repeat (with_reducible first | refine c_seq ?_ | refine c_block ?_ | refine c_skip ?_ | refine x_then ?_ | refine x_block ?_)
    refine c_yes rfl (decide_eq_true (by omega)) ?_
    repeat (with_reducible first | refine c_seq ?_ | refine c_block ?_ | refine c_skip ?_ | refine x_then ?_ | refine x_block ?_)
    refine c_reg ?_
    refine l_heavy rfl (s_call Tryd.call7 rfl (Aawake_ok _) ?_)
    rintro _ wc5 ⟨rfl, hBc5⟩
    replace hS := hS.grow hBc5
    refine l_pure rfl (s_move  rfl ?_)
    refine l_pure (gd_yes 31 (by kernel_rfl) rfl rfl) (s_move  rfl ?_)
    refine l_pure (gd_yes 31 (by kernel_rfl) rfl rfl) (s_eql  rfl rfl ?_)
    refine l_pure rfl (s_pick (vb rfl rfl) rfl ?_)
    refine l_pure rfl (s_move  rfl ?_)
    refine l_pure (gd_yes 35 (by kernel_rfl) rfl (decide_eq_true rfl)) (s_move  rfl ?_)
    refine l_pure (gd_yes 35 (by kernel_rfl) rfl (decide_eq_true rfl)) (s_eql  rfl rfl ?_)
    refine l_pure rfl (s_pick (vb rfl (decide_eq_true rfl)) rfl ?_)
    refine l_pure rfl (s_asg  rfl ?_)
    refine l_nil ?_
    repeat (with_reducible first | refine c_seq ?_ | refine c_block ?_ | refine c_skip ?_ | refine x_then ?_ | refine x_block ?_)
    refine c_ret ?_
    repeat (with_reducible first | refine x_then_ret ?_ | refine x_block_ret ?_)
    refine r_one rfl rfl ?_
    exact ⟨vb rfl (decide_eq_true rfl), hS.below⟩
end Go.Proofs.YtblfipdfklpmmabDoor
