/-
  Walks of the document's side: the days, sums, the amount that is set off.
-/
import Derived.Test.YtdafaibhiobpaaaDoorLawOp2
namespace Go.Proofs.YtdafaibhiobpaaaDoor
open Go Go.RowKit Go.Sx

theorem rIsDay_ok (d : Int) (w : World) : Ret Tryd.prog 31 #[.int .i64 d] w fun v w' => v = .bool (isDay d) ∧ w' = w := by
  refine enter Tryd.func31 rfl Tryd.ntmps31 rfl ?_
  repeat (with_reducible first | refine c_seq ?_ | refine c_block ?_ | refine c_skip ?_ | refine x_then ?_ | refine x_block ?_)
  refine c_reg ?_
  refine l_pure rfl (s_asg  rfl ?_)
  refine l_nil ?_
  repeat (with_reducible first | refine c_seq ?_ | refine c_block ?_ | refine c_skip ?_ | refine x_then ?_ | refine x_block ?_)
  by_cases h : 0 ≤ d
  · repeat (with_reducible first | refine c_seq ?_ | refine c_block ?_ | refine c_skip ?_ | refine x_then ?_ | refine x_block ?_)
    refine c_reg ?_
    refine l_pure rfl (s_move  rfl ?_)
    refine l_pure rfl (s_geq  rfl rfl ?_)
    refine l_pure rfl (s_move  rfl ?_)
    refine l_pure (gd_yes 5 (by kernel_rfl) rfl (decide_eq_true h)) (s_move  rfl ?_)
    refine l_pure (gd_yes 5 (by kernel_rfl) rfl (decide_eq_true h)) (s_leq  rfl rfl ?_)
    refine l_pure rfl (s_pick (vb rfl (decide_eq_true h)) rfl ?_)
    refine l_pure rfl (s_asg  rfl ?_)
    refine l_nil ?_
    repeat (with_reducible first | refine c_seq ?_ | refine c_block ?_ | refine c_skip ?_ | refine x_then ?_ | refine x_block ?_)
    refine c_ret ?_
    repeat (with_reducible first | refine x_then_ret ?_ | refine x_block_ret ?_)
    refine r_one rfl rfl ?_
    exact ⟨vb rfl (by unfold isDay; simp [h]), rfl⟩
  · repeat (with_reducible first | refine c_seq ?_ | refine c_block ?_ | refine c_skip ?_ | refine x_then ?_ | refine x_block ?_)
    refine c_reg ?_
    refine l_pure rfl (s_move  rfl ?_)
    refine l_pure rfl (s_geq  rfl rfl ?_)
    refine l_pure rfl (s_move  rfl ?_)
    refine l_no (gno_yes 5 (by kernel_rfl) rfl (decide_eq_false h)) ?_
    refine l_no (gno_yes 5 (by kernel_rfl) rfl (decide_eq_false h)) ?_
    refine l_pure rfl (s_pick (vb rfl (decide_eq_false h)) rfl ?_)
    refine l_pure rfl (s_asg  rfl ?_)
    refine l_nil ?_
    repeat (with_reducible first | refine c_seq ?_ | refine c_block ?_ | refine c_skip ?_ | refine x_then ?_ | refine x_block ?_)
    refine c_ret ?_
    repeat (with_reducible first | refine x_then_ret ?_ | refine x_block_ret ?_)
    refine r_one rfl rfl ?_
    exact ⟨vb rfl (by unfold isDay; simp [h]), rfl⟩
theorem rpair_ok (n a b : Int) (w : World) : Ret Tryd.prog 33 #[.int .i64 n, .int .i64 a, .int .i64 b] w fun v w' => v = .bool (pairB n a b) ∧ w' = w := by
  refine enter Tryd.func33 rfl Tryd.ntmps33 rfl ?_
  repeat (with_reducible first | refine c_seq ?_ | refine c_block ?_ | refine c_skip ?_ | refine x_then ?_ | refine x_block ?_)
  refine c_reg ?_
  refine l_pure rfl (s_asg  rfl ?_)
  refine l_nil ?_
  repeat (with_reducible first | refine c_seq ?_ | refine c_block ?_ | refine c_skip ?_ | refine x_then ?_ | refine x_block ?_)
  by_cases h1 : 0 ≤ a
  case neg =>
    repeat (with_reducible first | refine c_seq ?_ | refine c_block ?_ | refine c_skip ?_ | refine x_then ?_ | refine x_block ?_)
    refine c_reg ?_
    refine l_pure rfl (s_move  rfl ?_)
    refine l_pure rfl (s_geq  rfl rfl ?_)
    refine l_pure rfl (s_move  rfl ?_)
    refine l_no (gno_yes 9 (by kernel_rfl) rfl (decide_eq_false h1)) ?_
    refine l_no (gno_yes 9 (by kernel_rfl) rfl (decide_eq_false h1)) ?_
    refine l_no (gno_yes 9 (by kernel_rfl) rfl (decide_eq_false h1)) ?_
    refine l_pure rfl (s_pick (vb rfl (decide_eq_false h1)) rfl ?_)
    refine l_pure rfl (s_move  rfl ?_)
    refine l_no (gno_yes 14 (by kernel_rfl) rfl rfl) ?_
    refine l_no (gno_yes 14 (by kernel_rfl) rfl rfl) ?_
    refine l_pure rfl (s_pick (vb rfl rfl) rfl ?_)
    refine l_pure rfl (s_move  rfl ?_)
    refine l_no (gno_yes 18 (by kernel_rfl) rfl rfl) ?_
    refine l_no (gno_yes 18 (by kernel_rfl) rfl rfl) ?_
    refine l_no (gno_yes 18 (by kernel_rfl) rfl rfl) ?_
    refine l_pure rfl (s_pick (vb rfl rfl) rfl ?_)
    refine l_pure rfl (s_move  rfl ?_)
    refine l_no (gno_yes 23 (by kernel_rfl) rfl rfl) ?_
    refine l_no (gno_yes 23 (by kernel_rfl) rfl rfl) ?_
    refine l_no (gno_yes 23 (by kernel_rfl) rfl rfl) ?_
    refine l_pure rfl (s_pick (vb rfl rfl) rfl ?_)
    refine l_pure rfl (s_asg  rfl ?_)
    refine l_nil ?_
    repeat (with_reducible first | refine c_seq ?_ | refine c_block ?_ | refine c_skip ?_ | refine x_then ?_ | refine x_block ?_)
    refine c_ret ?_
    repeat (with_reducible first | refine x_then_ret ?_ | refine x_block_ret ?_)
    refine r_one rfl rfl ?_
    exact ⟨vb rfl (by unfold pairB; simp [h1]), rfl⟩
  by_cases h2 : a < n
  case neg =>
    repeat (with_reducible first | refine c_seq ?_ | refine c_block ?_ | refine c_skip ?_ | refine x_then ?_ | refine x_block ?_)
    refine c_reg ?_
    refine l_pure rfl (s_move  rfl ?_)
    refine l_pure rfl (s_geq  rfl rfl ?_)
    refine l_pure rfl (s_move  rfl ?_)
    refine l_pure (gd_yes 9 (by kernel_rfl) rfl (decide_eq_true h1)) (s_move  rfl ?_)
    refine l_pure (gd_yes 9 (by kernel_rfl) rfl (decide_eq_true h1)) (s_move  rfl ?_)
    refine l_pure (gd_yes 9 (by kernel_rfl) rfl (decide_eq_true h1)) (s_lss  rfl rfl ?_)
    refine l_pure rfl (s_pick (vb rfl (decide_eq_true h1)) rfl ?_)
    refine l_pure rfl (s_move  rfl ?_)
    refine l_no (gno_yes 14 (by kernel_rfl) rfl (decide_eq_false h2)) ?_
    refine l_no (gno_yes 14 (by kernel_rfl) rfl (decide_eq_false h2)) ?_
    refine l_pure rfl (s_pick (vb rfl (decide_eq_false h2)) rfl ?_)
    refine l_pure rfl (s_move  rfl ?_)
    refine l_no (gno_yes 18 (by kernel_rfl) rfl rfl) ?_
    refine l_no (gno_yes 18 (by kernel_rfl) rfl rfl) ?_
    refine l_no (gno_yes 18 (by kernel_rfl) rfl rfl) ?_
    refine l_pure rfl (s_pick (vb rfl rfl) rfl ?_)
    refine l_pure rfl (s_move  rfl ?_)
    refine l_no (gno_yes 23 (by kernel_rfl) rfl rfl) ?_
    refine l_no (gno_yes 23 (by kernel_rfl) rfl rfl) ?_
    refine l_no (gno_yes 23 (by kernel_rfl) rfl rfl) ?_
    refine l_pure rfl (s_pick (vb rfl rfl) rfl ?_)
    refine l_pure rfl (s_asg  rfl ?_)
    refine l_nil ?_
    repeat (with_reducible first | refine c_seq ?_ | refine c_block ?_ | refine c_skip ?_ | refine x_then ?_ | refine x_block ?_)
    refine c_ret ?_
    repeat (with_reducible first | refine x_then_ret ?_ | refine x_block_ret ?_)
    refine r_one rfl rfl ?_
    exact ⟨vb rfl (by unfold pairB; simp [h2]), rfl⟩
  by_cases h3 : 0 ≤ b
  case neg =>
    repeat (with_reducible first | refine c_seq ?_ | refine c_block ?_ | refine c_skip ?_ | refine x_then ?_ | refine x_block ?_)
    refine c_reg ?_
    refine l_pure rfl (s_move  rfl ?_)
    refine l_pure rfl (s_geq  rfl rfl ?_)
    refine l_pure rfl (s_move  rfl ?_)
    refine l_pure (gd_yes 9 (by kernel_rfl) rfl (decide_eq_true h1)) (s_move  rfl ?_)
    refine l_pure (gd_yes 9 (by kernel_rfl) rfl (decide_eq_true h1)) (s_move  rfl ?_)
    refine l_pure (gd_yes 9 (by kernel_rfl) rfl (decide_eq_true h1)) (s_lss  rfl rfl ?_)
    refine l_pure rfl (s_pick (vb rfl (decide_eq_true h1)) rfl ?_)
    refine l_pure rfl (s_move  rfl ?_)
    refine l_pure (gd_yes 14 (by kernel_rfl) rfl (decide_eq_true h2)) (s_move  rfl ?_)
    refine l_pure (gd_yes 14 (by kernel_rfl) rfl (decide_eq_true h2)) (s_geq  rfl rfl ?_)
    refine l_pure rfl (s_pick (vb rfl (decide_eq_true h2)) rfl ?_)
    refine l_pure rfl (s_move  rfl ?_)
    refine l_no (gno_yes 18 (by kernel_rfl) rfl (decide_eq_false h3)) ?_
    refine l_no (gno_yes 18 (by kernel_rfl) rfl (decide_eq_false h3)) ?_
    refine l_no (gno_yes 18 (by kernel_rfl) rfl (decide_eq_false h3)) ?_
    refine l_pure rfl (s_pick (vb rfl (decide_eq_false h3)) rfl ?_)
    refine l_pure rfl (s_move  rfl ?_)
    refine l_no (gno_yes 23 (by kernel_rfl) rfl rfl) ?_
    refine l_no (gno_yes 23 (by kernel_rfl) rfl rfl) ?_
    refine l_no (gno_yes 23 (by kernel_rfl) rfl rfl) ?_
    refine l_pure rfl (s_pick (vb rfl rfl) rfl ?_)
    refine l_pure rfl (s_asg  rfl ?_)
    refine l_nil ?_
    repeat (with_reducible first | refine c_seq ?_ | refine c_block ?_ | refine c_skip ?_ | refine x_then ?_ | refine x_block ?_)
    refine c_ret ?_
    repeat (with_reducible first | refine x_then_ret ?_ | refine x_block_ret ?_)
    refine r_one rfl rfl ?_
    exact ⟨vb rfl (by unfold pairB; simp [h3]), rfl⟩
  by_cases h4 : b < n
  case neg =>
    repeat (with_reducible first | refine c_seq ?_ | refine c_block ?_ | refine c_skip ?_ | refine x_then ?_ | refine x_block ?_)
    refine c_reg ?_
    refine l_pure rfl (s_move  rfl ?_)
    refine l_pure rfl (s_geq  rfl rfl ?_)
    refine l_pure rfl (s_move  rfl ?_)
    refine l_pure (gd_yes 9 (by kernel_rfl) rfl (decide_eq_true h1)) (s_move  rfl ?_)
    refine l_pure (gd_yes 9 (by kernel_rfl) rfl (decide_eq_true h1)) (s_move  rfl ?_)
    refine l_pure (gd_yes 9 (by kernel_rfl) rfl (decide_eq_true h1)) (s_lss  rfl rfl ?_)
    refine l_pure rfl (s_pick (vb rfl (decide_eq_true h1)) rfl ?_)
    refine l_pure rfl (s_move  rfl ?_)
    refine l_pure (gd_yes 14 (by kernel_rfl) rfl (decide_eq_true h2)) (s_move  rfl ?_)
    refine l_pure (gd_yes 14 (by kernel_rfl) rfl (decide_eq_true h2)) (s_geq  rfl rfl ?_)
    refine l_pure rfl (s_pick (vb rfl (decide_eq_true h2)) rfl ?_)
    refine l_pure rfl (s_move  rfl ?_)
    refine l_pure (gd_yes 18 (by kernel_rfl) rfl (decide_eq_true h3)) (s_move  rfl ?_)
    refine l_pure (gd_yes 18 (by kernel_rfl) rfl (decide_eq_true h3)) (s_move  rfl ?_)
    refine l_pure (gd_yes 18 (by kernel_rfl) rfl (decide_eq_true h3)) (s_lss  rfl rfl ?_)
    refine l_pure rfl (s_pick (vb rfl (decide_eq_true h3)) rfl ?_)
    refine l_pure rfl (s_move  rfl ?_)
    refine l_no (gno_yes 23 (by kernel_rfl) rfl (decide_eq_false h4)) ?_
    refine l_no (gno_yes 23 (by kernel_rfl) rfl (decide_eq_false h4)) ?_
    refine l_no (gno_yes 23 (by kernel_rfl) rfl (decide_eq_false h4)) ?_
    refine l_pure rfl (s_pick (vb rfl (decide_eq_false h4)) rfl ?_)
    refine l_pure rfl (s_asg  rfl ?_)
    refine l_nil ?_
    repeat (with_reducible first | refine c_seq ?_ | refine c_block ?_ | refine c_skip ?_ | refine x_then ?_ | refine x_block ?_)
    refine c_ret ?_
    repeat (with_reducible first | refine x_then_ret ?_ | refine x_block_ret ?_)
    refine r_one rfl rfl ?_
    exact ⟨vb rfl (by unfold pairB; simp [h4]), rfl⟩
  repeat (with_reducible first | refine c_seq ?_ | refine c_block ?_ | refine c_skip ?_ | refine x_then ?_ | refine x_block ?_)
  refine c_reg ?_
  refine l_pure rfl (s_move  rfl ?_)
  refine l_pure rfl (s_geq  rfl rfl ?_)
  refine l_pure rfl (s_move  rfl ?_)
  refine l_pure (gd_yes 9 (by kernel_rfl) rfl (decide_eq_true h1)) (s_move  rfl ?_)
  refine l_pure (gd_yes 9 (by kernel_rfl) rfl (decide_eq_true h1)) (s_move  rfl ?_)
  refine l_pure (gd_yes 9 (by kernel_rfl) rfl (decide_eq_true h1)) (s_lss  rfl rfl ?_)
  refine l_pure rfl (s_pick (vb rfl (decide_eq_true h1)) rfl ?_)
  refine l_pure rfl (s_move  rfl ?_)
  refine l_pure (gd_yes 14 (by kernel_rfl) rfl (decide_eq_true h2)) (s_move  rfl ?_)
  refine l_pure (gd_yes 14 (by kernel_rfl) rfl (decide_eq_true h2)) (s_geq  rfl rfl ?_)
  refine l_pure rfl (s_pick (vb rfl (decide_eq_true h2)) rfl ?_)
  refine l_pure rfl (s_move  rfl ?_)
  refine l_pure (gd_yes 18 (by kernel_rfl) rfl (decide_eq_true h3)) (s_move  rfl ?_)
  refine l_pure (gd_yes 18 (by kernel_rfl) rfl (decide_eq_true h3)) (s_move  rfl ?_)
  refine l_pure (gd_yes 18 (by kernel_rfl) rfl (decide_eq_true h3)) (s_lss  rfl rfl ?_)
  refine l_pure rfl (s_pick (vb rfl (decide_eq_true h3)) rfl ?_)
  refine l_pure rfl (s_move  rfl ?_)
  refine l_pure (gd_yes 23 (by kernel_rfl) rfl (decide_eq_true h4)) (s_move  rfl ?_)
  refine l_pure (gd_yes 23 (by kernel_rfl) rfl (decide_eq_true h4)) (s_move  rfl ?_)
  refine l_pure (gd_yes 23 (by kernel_rfl) rfl (decide_eq_true h4)) (s_neq  rfl rfl ?_)
  refine l_pure rfl (s_pick (vb rfl (decide_eq_true h4)) rfl ?_)
  refine l_pure rfl (s_asg  rfl ?_)
  refine l_nil ?_
  repeat (with_reducible first | refine c_seq ?_ | refine c_block ?_ | refine c_skip ?_ | refine x_then ?_ | refine x_block ?_)
  refine c_ret ?_
  repeat (with_reducible first | refine x_then_ret ?_ | refine x_block_ret ?_)
  refine r_one rfl rfl ?_
  exact ⟨vb rfl (by unfold pairB; simp [h1, h2, h3, h4]), rfl⟩
set_option maxHeartbeats 1000000 in
theorem rEligible_ok (o : Ob) (c s : Int) (w : World) : Ret Tryd.prog 14 #[aggOb o, .int .i64 c, .int .i64 s] w fun v w' => v = .bool (eligB o c s) ∧ Below w.heap.size w w' := by
  have hS := St.init w
  refine enter Tryd.func14 rfl Tryd.ntmps14 rfl ?_
  repeat (with_reducible first | refine c_seq ?_ | refine c_block ?_ | refine c_skip ?_ | refine x_then ?_ | refine x_block ?_)
  refine c_reg ?_
  refine l_heavy rfl (s_box  rfl rfl hS ?_)
  intro b3 wz1 hS hBz1
  refine l_pure rfl (s_asg  rfl ?_)
  refine l_nil ?_
  repeat (with_reducible first | refine c_seq ?_ | refine c_block ?_ | refine c_skip ?_ | refine x_then ?_ | refine x_block ?_)
  replace hS : St w _ [(b3, 28, encOb o)] := hS
  obtain ⟨bad, hbad⟩ : ∃ bad : Bool, bad = (!isDay c || !isDay s || o.cont || decide (c < o.inc)) := ⟨_, rfl⟩
  refine c_cut1 (fun ρ w' => ρ 1 = .int .i64 c ∧ ρ 2 = .int .i64 s ∧ ρ 3 = .pointer (some ⟨b3, 0, none⟩) ∧ ρ 24 = .bool bad ∧ St w w' [(b3, 28, encOb o)]) ?_ ?_
  · cases h1 : isDay c with
    | false =>
      have h1n : (!isDay c) = true := by rw [h1]; rfl
      repeat (with_reducible first | refine c_seq ?_ | refine c_block ?_ | refine c_skip ?_ | refine x_then ?_ | refine x_block ?_)
      refine c_reg ?_
      refine l_pure rfl (s_move  rfl ?_)
      refine l_heavy rfl (s_call Tryd.call31 rfl (rIsDay_ok c _) ?_)
      rintro _ wq2 ⟨rfl, hq2⟩
      replace hq2 := hq2.symm
      subst hq2
      refine l_pure rfl (s_not  rfl ?_)
      refine l_pure rfl (s_move  rfl ?_)
      refine l_no (gno_yes 10 (by kernel_rfl) rfl h1n) ?_
      refine l_no (gno_yes 10 (by kernel_rfl) rfl h1n) ?_
      refine l_no (gno_yes 10 (by kernel_rfl) rfl h1n) ?_
      refine l_pure rfl (s_pick (vb rfl h1n) rfl ?_)
      refine l_pure rfl (s_move  rfl ?_)
      refine l_no (gno_yes 15 (by kernel_rfl) rfl rfl) ?_
      refine l_no (gno_yes 15 (by kernel_rfl) rfl rfl) ?_
      refine l_pure rfl (s_pick (vb rfl rfl) rfl ?_)
      refine l_pure rfl (s_move  rfl ?_)
      refine l_no (gno_yes 19 (by kernel_rfl) rfl rfl) ?_
      refine l_no (gno_yes 19 (by kernel_rfl) rfl rfl) ?_
      refine l_no (gno_yes 19 (by kernel_rfl) rfl rfl) ?_
      refine l_no (gno_yes 19 (by kernel_rfl) rfl rfl) ?_
      refine l_pure rfl (s_pick (vb rfl rfl) rfl ?_)
      refine l_nil ?_
      repeat (with_reducible first | refine c_seq ?_ | refine c_block ?_ | refine c_skip ?_ | refine x_then ?_ | refine x_block ?_)
      exact ⟨_, rfl, rfl, rfl, rfl, vb rfl (by rw [hbad, h1]; simp), hS⟩
    | true =>
    have h1y : (!isDay c) = false := by rw [h1]; rfl
    cases h2 : isDay s with
    | false =>
      have h2n : (!isDay s) = true := by rw [h2]; rfl
      repeat (with_reducible first | refine c_seq ?_ | refine c_block ?_ | refine c_skip ?_ | refine x_then ?_ | refine x_block ?_)
      refine c_reg ?_
      refine l_pure rfl (s_move  rfl ?_)
      refine l_heavy rfl (s_call Tryd.call31 rfl (rIsDay_ok c _) ?_)
      rintro _ wq3 ⟨rfl, hq3⟩
      replace hq3 := hq3.symm
      subst hq3
      refine l_pure rfl (s_not  rfl ?_)
      refine l_pure rfl (s_move  rfl ?_)
      refine l_pure (gd_yes 10 (by kernel_rfl) rfl h1y) (s_move  rfl ?_)
      refine l_heavy (gd_yes 10 (by kernel_rfl) rfl h1y) (s_call Tryd.call31 rfl (rIsDay_ok s _) ?_)
      rintro _ wq4 ⟨rfl, hq4⟩
      replace hq4 := hq4.symm
      subst hq4
      refine l_pure (gd_yes 10 (by kernel_rfl) rfl h1y) (s_not  rfl ?_)
      refine l_pure rfl (s_pick (vb rfl h1y) rfl ?_)
      refine l_pure rfl (s_move  rfl ?_)
      refine l_no (gno_yes 15 (by kernel_rfl) rfl h2n) ?_
      refine l_no (gno_yes 15 (by kernel_rfl) rfl h2n) ?_
      refine l_pure rfl (s_pick (vb rfl h2n) rfl ?_)
      refine l_pure rfl (s_move  rfl ?_)
      refine l_no (gno_yes 19 (by kernel_rfl) rfl rfl) ?_
      refine l_no (gno_yes 19 (by kernel_rfl) rfl rfl) ?_
      refine l_no (gno_yes 19 (by kernel_rfl) rfl rfl) ?_
      refine l_no (gno_yes 19 (by kernel_rfl) rfl rfl) ?_
      refine l_pure rfl (s_pick (vb rfl rfl) rfl ?_)
      refine l_nil ?_
      repeat (with_reducible first | refine c_seq ?_ | refine c_block ?_ | refine c_skip ?_ | refine x_then ?_ | refine x_block ?_)
      exact ⟨_, rfl, rfl, rfl, rfl, vb rfl (by rw [hbad, h2]; simp), hS⟩
    | true =>
    have h2y : (!isDay s) = false := by rw [h2]; rfl
    cases h3 : o.cont with
    | true =>
      repeat (with_reducible first | refine c_seq ?_ | refine c_block ?_ | refine c_skip ?_ | refine x_then ?_ | refine x_block ?_)
      refine c_reg ?_
      refine l_pure rfl (s_move  rfl ?_)
      refine l_heavy rfl (s_call Tryd.call31 rfl (rIsDay_ok c _) ?_)
      rintro _ wq5 ⟨rfl, hq5⟩
      replace hq5 := hq5.symm
      subst hq5
      refine l_pure rfl (s_not  rfl ?_)
      refine l_pure rfl (s_move  rfl ?_)
      refine l_pure (gd_yes 10 (by kernel_rfl) rfl h1y) (s_move  rfl ?_)
      refine l_heavy (gd_yes 10 (by kernel_rfl) rfl h1y) (s_call Tryd.call31 rfl (rIsDay_ok s _) ?_)
      rintro _ wq6 ⟨rfl, hq6⟩
      replace hq6 := hq6.symm
      subst hq6
      refine l_pure (gd_yes 10 (by kernel_rfl) rfl h1y) (s_not  rfl ?_)
      refine l_pure rfl (s_pick (vb rfl h1y) rfl ?_)
      refine l_pure rfl (s_move  rfl ?_)
      refine l_pure (gd_yes 15 (by kernel_rfl) rfl h2y) (s_fld  rfl fo_28_5 ?_)
      refine l_read (gd_yes 15 (by kernel_rfl) rfl h2y) (s_ldo (k := 0)  rfl vi_4 hS rfl rfl rfl (.inr rfl) ?_)
      refine l_pure rfl (s_pick (vb rfl h2y) rfl ?_)
      refine l_pure rfl (s_move  rfl ?_)
      refine l_no (gno_yes 19 (by kernel_rfl) rfl h3) ?_
      refine l_no (gno_yes 19 (by kernel_rfl) rfl h3) ?_
      refine l_no (gno_yes 19 (by kernel_rfl) rfl h3) ?_
      refine l_no (gno_yes 19 (by kernel_rfl) rfl h3) ?_
      refine l_pure rfl (s_pick (vb rfl h3) rfl ?_)
      refine l_nil ?_
      repeat (with_reducible first | refine c_seq ?_ | refine c_block ?_ | refine c_skip ?_ | refine x_then ?_ | refine x_block ?_)
      exact ⟨_, rfl, rfl, rfl, rfl, vb rfl (by rw [hbad, h3]; simp), hS⟩
    | false =>
      repeat (with_reducible first | refine c_seq ?_ | refine c_block ?_ | refine c_skip ?_ | refine x_then ?_ | refine x_block ?_)
      refine c_reg ?_
      refine l_pure rfl (s_move  rfl ?_)
      refine l_heavy rfl (s_call Tryd.call31 rfl (rIsDay_ok c _) ?_)
      rintro _ wq7 ⟨rfl, hq7⟩
      replace hq7 := hq7.symm
      subst hq7
      refine l_pure rfl (s_not  rfl ?_)
      refine l_pure rfl (s_move  rfl ?_)
      refine l_pure (gd_yes 10 (by kernel_rfl) rfl h1y) (s_move  rfl ?_)
      refine l_heavy (gd_yes 10 (by kernel_rfl) rfl h1y) (s_call Tryd.call31 rfl (rIsDay_ok s _) ?_)
      rintro _ wq8 ⟨rfl, hq8⟩
      replace hq8 := hq8.symm
      subst hq8
      refine l_pure (gd_yes 10 (by kernel_rfl) rfl h1y) (s_not  rfl ?_)
      refine l_pure rfl (s_pick (vb rfl h1y) rfl ?_)
      refine l_pure rfl (s_move  rfl ?_)
      refine l_pure (gd_yes 15 (by kernel_rfl) rfl h2y) (s_fld  rfl fo_28_5 ?_)
      refine l_read (gd_yes 15 (by kernel_rfl) rfl h2y) (s_ldo (k := 0)  rfl vi_4 hS rfl rfl rfl (.inr rfl) ?_)
      refine l_pure rfl (s_pick (vb rfl h2y) rfl ?_)
      refine l_pure rfl (s_move  rfl ?_)
      refine l_pure (gd_yes 19 (by kernel_rfl) rfl h3) (s_fld  rfl fo_28_3 ?_)
      refine l_read (gd_yes 19 (by kernel_rfl) rfl h3) (s_ldo (k := 0)  rfl vi_3 hS rfl rfl rfl (.inr rfl) ?_)
      refine l_pure (gd_yes 19 (by kernel_rfl) rfl h3) (s_move  rfl ?_)
      refine l_pure (gd_yes 19 (by kernel_rfl) rfl h3) (s_gtr  rfl rfl ?_)
      refine l_pure rfl (s_pick (vb rfl h3) rfl ?_)
      refine l_nil ?_
      repeat (with_reducible first | refine c_seq ?_ | refine c_block ?_ | refine c_skip ?_ | refine x_then ?_ | refine x_block ?_)
      exact ⟨_, rfl, rfl, rfl, rfl, vb rfl (by rw [hbad, h1, h2, h3]; simp), hS⟩
  clear hS
  rintro ρ w2 ⟨h1, h2, h3, h24, hS⟩
  repeat (with_reducible first | refine c_seq ?_ | refine c_block ?_ | refine c_skip ?_ | refine x_then ?_ | refine x_block ?_)
  cases hb : bad with
  | true =>
    have he : eligB o c s = false := by
      rw [hb] at hbad
      have hbad := hbad.symm
      simp only [Bool.or_eq_true, Bool.not_eq_true', decide_eq_true_eq] at hbad
      unfold eligB
      rcases hbad with ((g | g) | g) | g
      · simp [g]
      · simp [g]
      · simp [g]
      · have : ¬ o.inc ≤ c := by omega
        simp [this]
    refine c_yes h24 hb ?_
    repeat (with_reducible first | refine c_seq ?_ | refine c_block ?_ | refine c_skip ?_ | refine x_then ?_ | refine x_block ?_)
    refine c_reg ?_
    refine l_pure rfl (s_asg  rfl ?_)
    refine l_nil ?_
    repeat (with_reducible first | refine c_seq ?_ | refine c_block ?_ | refine c_skip ?_ | refine x_then ?_ | refine x_block ?_)
    refine c_ret ?_
    repeat (with_reducible first | refine x_then_ret ?_ | refine x_block_ret ?_)
    refine r_one rfl rfl ?_
    exact ⟨vb rfl he.symm, hS.below⟩
  | false =>
    rw [hb] at hbad
    have hbad := hbad.symm
    simp only [Bool.or_eq_false_iff, Bool.not_eq_false', decide_eq_false_iff_not] at hbad
    obtain ⟨⟨⟨g1, g2⟩, g3⟩, g4⟩ := hbad
    have c1 := isDay_b g1
    have s1 := isDay_b g2
    have g5 : o.inc ≤ c := by omega
    refine c_no h24 hb ?_
    repeat (with_reducible first | refine c_seq ?_ | refine c_block ?_ | refine c_skip ?_ | refine x_then ?_ | refine x_block ?_)
    by_cases h5 : o.acq = o.inc
    · repeat (with_reducible first | refine c_seq ?_ | refine c_block ?_ | refine c_skip ?_ | refine x_then ?_ | refine x_block ?_)
      refine c_reg ?_
      refine l_pure rfl (s_fld  h3 fo_28_4 ?_)
      refine l_read rfl (s_ldo (k := 0)  rfl vi_3 hS rfl rfl rfl (.inr rfl) ?_)
      refine l_pure rfl (s_fld  h3 fo_28_3 ?_)
      refine l_read rfl (s_ldo (k := 0)  rfl vi_3 hS rfl rfl rfl (.inr rfl) ?_)
      refine l_pure rfl (s_eql  rfl rfl ?_)
      refine l_pure rfl (s_move  rfl ?_)
      refine l_no (gno_yes 30 (by kernel_rfl) rfl (decide_eq_true h5)) ?_
      refine l_no (gno_yes 30 (by kernel_rfl) rfl (decide_eq_true h5)) ?_
      refine l_no (gno_yes 30 (by kernel_rfl) rfl (decide_eq_true h5)) ?_
      refine l_no (gno_yes 30 (by kernel_rfl) rfl (decide_eq_true h5)) ?_
      refine l_no (gno_yes 30 (by kernel_rfl) rfl (decide_eq_true h5)) ?_
      refine l_no (gno_yes 30 (by kernel_rfl) rfl (decide_eq_true h5)) ?_
      refine l_pure rfl (s_pick (vb rfl (decide_eq_true h5)) rfl ?_)
      refine l_pure rfl (s_asg  rfl ?_)
      refine l_nil ?_
      repeat (with_reducible first | refine c_seq ?_ | refine c_block ?_ | refine c_skip ?_ | refine x_then ?_ | refine x_block ?_)
      refine c_ret ?_
      repeat (with_reducible first | refine x_then_ret ?_ | refine x_block_ret ?_)
      refine r_one rfl rfl ?_
      exact ⟨vb rfl (by unfold eligB; simp [g1, g2, g3, g5, h5]), hS.below⟩
    · repeat (with_reducible first | refine c_seq ?_ | refine c_block ?_ | refine c_skip ?_ | refine x_then ?_ | refine x_block ?_)
      refine c_reg ?_
      refine l_pure rfl (s_fld  h3 fo_28_4 ?_)
      refine l_read rfl (s_ldo (k := 0)  rfl vi_3 hS rfl rfl rfl (.inr rfl) ?_)
      refine l_pure rfl (s_fld  h3 fo_28_3 ?_)
      refine l_read rfl (s_ldo (k := 0)  rfl vi_3 hS rfl rfl rfl (.inr rfl) ?_)
      refine l_pure rfl (s_eql  rfl rfl ?_)
      refine l_pure rfl (s_move  rfl ?_)
      refine l_pure (gd_yes 30 (by kernel_rfl) rfl (decide_eq_false h5)) (s_fld  h3 fo_28_4 ?_)
      refine l_read (gd_yes 30 (by kernel_rfl) rfl (decide_eq_false h5)) (s_ldo (k := 0)  rfl vi_3 hS rfl rfl rfl (.inr rfl) ?_)
      refine l_pure (gd_yes 30 (by kernel_rfl) rfl (decide_eq_false h5)) (s_move  h1 ?_)
      refine l_pure (gd_yes 30 (by kernel_rfl) rfl (decide_eq_false h5)) (s_move  h2 ?_)
      refine l_pure (gd_yes 30 (by kernel_rfl) rfl (decide_eq_false h5)) (s_sub  rfl rfl (IntWalk.i64_in _ (by omega)) ?_)
      refine l_pure (gd_yes 30 (by kernel_rfl) rfl (decide_eq_false h5)) (s_lss  rfl rfl ?_)
      refine l_pure rfl (s_pick (vb rfl (decide_eq_false h5)) rfl ?_)
      refine l_pure rfl (s_asg  rfl ?_)
      refine l_nil ?_
      repeat (with_reducible first | refine c_seq ?_ | refine c_block ?_ | refine c_skip ?_ | refine x_then ?_ | refine x_block ?_)
      refine c_ret ?_
      repeat (with_reducible first | refine x_then_ret ?_ | refine x_block_ret ?_)
      refine r_one rfl rfl ?_
      exact ⟨vb rfl (by unfold eligB; simp [g1, g2, g3, g5, h5]), hS.below⟩
set_option maxHeartbeats 1000000 in
theorem rOCheck_ok (n : Int) (vl : Value) (l : List Ob) (w : World) (hl : Sl encOb 8 w vl l) (hB : ObB MX l) :
    Ret Tryd.prog 16 #[.int .i64 n, vl] w fun v w' => v = .int .i64 (obsE n l) ∧ Below w.heap.size w w' := by
  have hmax := hl.maxLen
  have hS := St.init w
  refine enter Tryd.func16 rfl Tryd.ntmps16 rfl ?_
  repeat (with_reducible first | refine c_seq ?_ | refine c_block ?_ | refine c_skip ?_ | refine x_then ?_ | refine x_block ?_)
  refine c_reg ?_
  refine l_pure rfl (s_asg  rfl ?_)
  refine l_nil ?_
  repeat (with_reducible first | refine c_seq ?_ | refine c_block ?_ | refine c_skip ?_ | refine x_then ?_ | refine x_block ?_)
  refine c_cut1 (fun ρ w' => ρ 0 = .int .i64 n ∧ ρ 1 = vl ∧ ρ 12 = .bool (decide (n < 0 ∨ 32 < n)) ∧ w' = w) ?_ ?_
  · by_cases h1 : n < 0
    · repeat (with_reducible first | refine c_seq ?_ | refine c_block ?_ | refine c_skip ?_ | refine x_then ?_ | refine x_block ?_)
      refine c_reg ?_
      refine l_pure rfl (s_move  rfl ?_)
      refine l_pure rfl (s_lss  rfl rfl ?_)
      refine l_pure rfl (s_move  rfl ?_)
      refine l_no (gno_yes 9 (by kernel_rfl) rfl (decide_eq_true h1)) ?_
      refine l_no (gno_yes 9 (by kernel_rfl) rfl (decide_eq_true h1)) ?_
      refine l_pure rfl (s_pick (vb rfl (decide_eq_true h1)) rfl ?_)
      refine l_nil ?_
      repeat (with_reducible first | refine c_seq ?_ | refine c_block ?_ | refine c_skip ?_ | refine x_then ?_ | refine x_block ?_)
      exact ⟨_, rfl, rfl, rfl, vb rfl (by simp [h1]), rfl⟩
    · repeat (with_reducible first | refine c_seq ?_ | refine c_block ?_ | refine c_skip ?_ | refine x_then ?_ | refine x_block ?_)
      refine c_reg ?_
      refine l_pure rfl (s_move  rfl ?_)
      refine l_pure rfl (s_lss  rfl rfl ?_)
      refine l_pure rfl (s_move  rfl ?_)
      refine l_pure (gd_yes 9 (by kernel_rfl) rfl (decide_eq_false h1)) (s_move  rfl ?_)
      refine l_pure (gd_yes 9 (by kernel_rfl) rfl (decide_eq_false h1)) (s_gtr  rfl rfl ?_)
      refine l_pure rfl (s_pick (vb rfl (decide_eq_false h1)) rfl ?_)
      refine l_nil ?_
      repeat (with_reducible first | refine c_seq ?_ | refine c_block ?_ | refine c_skip ?_ | refine x_then ?_ | refine x_block ?_)
      exact ⟨_, rfl, rfl, rfl, vb rfl (by simp [h1]), rfl⟩
  rintro ρ w2 ⟨h0, h1, h12, rfl⟩
  repeat (with_reducible first | refine c_seq ?_ | refine c_block ?_ | refine c_skip ?_ | refine x_then ?_ | refine x_block ?_)
  by_cases hr : n < 0 ∨ 32 < n
  · refine c_yes h12 (decide_eq_true hr) ?_
    repeat (with_reducible first | refine c_seq ?_ | refine c_block ?_ | refine c_skip ?_ | refine x_then ?_ | refine x_block ?_)
    refine c_reg ?_
    refine l_pure rfl (s_asg  rfl ?_)
    refine l_nil ?_
    repeat (with_reducible first | refine c_seq ?_ | refine c_block ?_ | refine c_skip ?_ | refine x_then ?_ | refine x_block ?_)
    refine c_ret ?_
    repeat (with_reducible first | refine x_then_ret ?_ | refine x_block_ret ?_)
    refine r_one rfl rfl ?_
    exact ⟨vi rfl (by unfold obsE; rw [if_pos hr]), hS.below⟩
  refine c_no h12 (decide_eq_false hr) ?_
  repeat (with_reducible first | refine c_seq ?_ | refine c_block ?_ | refine c_skip ?_ | refine x_then ?_ | refine x_block ?_)
  refine c_reg ?_
  refine l_pure rfl (s_move  h1 ?_)
  refine l_pure rfl (s_lenr  rfl (hl.below hS.below) ⟨_, Tryd.underlying22⟩ ?_)
  refine l_pure rfl (s_gtr  rfl rfl ?_)
  refine l_nil ?_
  repeat (with_reducible first | refine c_seq ?_ | refine c_block ?_ | refine c_skip ?_ | refine x_then ?_ | refine x_block ?_)
  by_cases h64 : 64 < l.length
  · refine c_yes rfl (decide_eq_true (by omega)) ?_
    repeat (with_reducible first | refine c_seq ?_ | refine c_block ?_ | refine c_skip ?_ | refine x_then ?_ | refine x_block ?_)
    refine c_reg ?_
    refine l_pure rfl (s_asg  rfl ?_)
    refine l_nil ?_
    repeat (with_reducible first | refine c_seq ?_ | refine c_block ?_ | refine c_skip ?_ | refine x_then ?_ | refine x_block ?_)
    refine c_ret ?_
    repeat (with_reducible first | refine x_then_ret ?_ | refine x_block_ret ?_)
    refine r_one rfl rfl ?_
    exact ⟨vi rfl (by unfold obsE; rw [if_neg hr, if_pos h64]), hS.below⟩
  refine c_no rfl (decide_eq_false (by omega)) ?_
  repeat (with_reducible first | refine c_seq ?_ | refine c_block ?_ | refine c_skip ?_ | refine x_then ?_ | refine x_block ?_)
  have hfin : obsE n l = firstE (obErr n) l := by unfold obsE; rw [if_neg hr, if_neg h64]
  rw [hfin]
  repeat (with_reducible first | refine c_seq ?_ | refine c_block ?_ | refine c_skip ?_ | refine x_then ?_ | refine x_block ?_)
  refine c_reg ?_
  refine l_pure rfl (s_asg  rfl ?_)
  refine l_nil ?_
  repeat (with_reducible first | refine c_seq ?_ | refine c_block ?_ | refine c_skip ?_ | refine x_then ?_ | refine x_block ?_)
  refine c_loop (σ := Nat) (fun i ρ w' => i ≤ l.length ∧ firstE (obErr n) (l.take i) = 0 ∧ ρ 0 = .int .i64 n ∧ ρ 1 = vl ∧ ρ 5 = .int .i64 i ∧ St w2 w' []) (fun i => l.length - i) 0
    ⟨Nat.zero_le _, rfl, h0, h1, rfl, hS⟩ ?_
  clear hS h0 h1
  rintro i ρ w3 ⟨hi, hok, h0, h1, h5, hS⟩
  repeat (with_reducible first | refine c_seq ?_ | refine c_block ?_ | refine c_skip ?_ | refine x_then ?_ | refine x_block ?_)
  refine c_reg ?_
  refine l_pure rfl (s_move  h5 ?_)
  refine l_pure rfl (s_move  h1 ?_)
  refine l_pure rfl (s_lenr  rfl (hl.below hS.below) ⟨_, Tryd.underlying22⟩ ?_)
  refine l_pure rfl (s_lss  rfl rfl ?_)
  refine l_nil ?_
  repeat (with_reducible first | refine c_seq ?_ | refine c_block ?_ | refine c_skip ?_ | refine x_then ?_ | refine x_block ?_)
  by_cases hlt : i < l.length
  · refine c_yes rfl (decide_eq_true (by omega)) ?_
    repeat (with_reducible first | refine c_seq ?_ | refine c_block ?_ | refine c_skip ?_ | refine x_then ?_ | refine x_block ?_)
    obtain ⟨o, ho⟩ : ∃ o, o = l.getD i zOb := ⟨_, rfl⟩
    obtain ⟨f1, f2⟩ := firstE_step (obErr n) l zOb hlt hok
    have hoB : Lr o.amt ≤ MX := by rw [ho]; exact hB _ (getD_mem l i zOb hlt)
    rw [← ho] at f1 f2
    repeat (with_reducible first | refine c_seq ?_ | refine c_block ?_ | refine c_skip ?_ | refine x_then ?_ | refine x_block ?_)
    refine c_reg ?_
    refine l_pure rfl (s_move  h1 ?_)
    refine l_pure rfl (s_move  h5 ?_)
    refine l_pure rfl (s_ixr (i := i)  rfl rfl (hl.below hS.below) (by omega) (by first | omega | (simp; done) | (simp; omega)) si_22 ?_)
    refine l_read rfl (s_lde (i := i) zOb  rfl vi_28 (hl.below hS.below) (by first | omega | (simp; done) | (simp; omega)) rfl rfl (.inl rfl) ?_)
    refine l_heavy rfl (s_alloc  vi_28 hS ?_)
    intro b6 wz1 hS hBz1
    refine l_heavy rfl (s_sta (k := 0)  rfl rfl vi_28 hS rfl rfl rfl (Nat.le_of_ble_eq_true rfl) rfl ?_)
    intro wz2 hS
    refine l_nil ?_
    repeat (with_reducible first | refine c_seq ?_ | refine c_block ?_ | refine c_skip ?_ | refine x_then ?_ | refine x_block ?_)
    replace hS : St w2 _ [(b6, 28, encOb (l.getD i zOb))] := hS
    rw [← ho] at hS
    repeat (with_reducible first | refine c_seq ?_ | refine c_block ?_ | refine c_skip ?_ | refine x_then ?_ | refine x_block ?_)
    refine c_forget (fun ρ' => ρ' 0 = .int .i64 n ∧ ρ' 1 = vl ∧ ρ' 6 = .pointer (some ⟨b6, 0, none⟩) ∧ ρ' 5 = .int .i64 i ∧ True) ⟨h0, h1, rfl, h5, trivial⟩ ?_
    rintro ρk3 ⟨hk3_0, hk3_1, hk3_6, hk3_5, -⟩
    repeat (with_reducible first | refine c_seq ?_ | refine c_block ?_ | refine c_skip ?_ | refine x_then ?_ | refine x_block ?_)
    refine c_reg ?_
    refine l_pure rfl (s_move  hk3_0 ?_)
    refine l_pure rfl (s_fld  hk3_6 fo_28_0 ?_)
    refine l_read rfl (s_ldo (k := 0)  rfl vi_3 hS rfl rfl rfl (.inr rfl) ?_)
    refine l_pure rfl (s_fld  hk3_6 fo_28_1 ?_)
    refine l_read rfl (s_ldo (k := 0)  rfl vi_3 hS rfl rfl rfl (.inr rfl) ?_)
    refine l_heavy rfl (s_call Tryd.call33 rfl (rpair_ok n o.deb o.cre _) ?_)
    rintro _ wq4 ⟨rfl, hq4⟩
    replace hq4 := hq4.symm
    subst hq4
    refine l_pure rfl (s_not  rfl ?_)
    refine l_pure rfl (s_asg  rfl ?_)
    refine l_nil ?_
    repeat (with_reducible first | refine c_seq ?_ | refine c_block ?_ | refine c_skip ?_ | refine x_then ?_ | refine x_block ?_)
    cases hp : pairB n o.deb o.cre with
    | false =>
      refine c_yes rfl (rfl) ?_
      repeat (with_reducible first | refine c_seq ?_ | refine c_block ?_ | refine c_skip ?_ | refine x_then ?_ | refine x_block ?_)
      have he : obErr n o = 14 := by unfold obErr; rw [if_pos hp]
      repeat (with_reducible first | refine c_seq ?_ | refine c_block ?_ | refine c_skip ?_ | refine x_then ?_ | refine x_block ?_)
      refine c_reg ?_
      refine l_pure rfl (s_asg  rfl ?_)
      refine l_nil ?_
      repeat (with_reducible first | refine c_seq ?_ | refine c_block ?_ | refine c_skip ?_ | refine x_then ?_ | refine x_block ?_)
      refine c_ret ?_
      repeat (with_reducible first | refine x_then_ret ?_ | refine x_block_ret ?_)
      refine r_one rfl rfl ?_
      exact ⟨vi rfl (by rw [f2 (by rw [he]; decide), he]), hS.below⟩
    | true =>
    have hp' : ¬ pairB n o.deb o.cre = false := by simp [hp]
    refine c_no rfl (rfl) ?_
    repeat (with_reducible first | refine c_seq ?_ | refine c_block ?_ | refine c_skip ?_ | refine x_then ?_ | refine x_block ?_)
    refine c_reg ?_
    refine l_pure rfl (s_fld  hk3_6 fo_28_2 ?_)
    refine l_read rfl (s_ldo (k := 0)  rfl vi_26 hS rfl rfl rfl (.inl rfl) ?_)
    refine l_heavy rfl (s_call Tryd.call34 rfl (rSign_ok o.amt _ hoB) ?_)
    rintro _ wc5 ⟨rfl, hBc5⟩
    replace hS := hS.grow hBc5
    refine l_pure rfl (s_lss  rfl rfl ?_)
    refine l_pure rfl (s_asg  rfl ?_)
    refine l_nil ?_
    repeat (with_reducible first | refine c_seq ?_ | refine c_block ?_ | refine c_skip ?_ | refine x_then ?_ | refine x_block ?_)
    by_cases hneg : toQ o.amt < 0
    · refine c_yes rfl (decide_eq_true (sgnQ_neg.2 hneg)) ?_
      repeat (with_reducible first | refine c_seq ?_ | refine c_block ?_ | refine c_skip ?_ | refine x_then ?_ | refine x_block ?_)
      have he : obErr n o = 7 := by unfold obErr; rw [if_neg hp', if_pos hneg]
      repeat (with_reducible first | refine c_seq ?_ | refine c_block ?_ | refine c_skip ?_ | refine x_then ?_ | refine x_block ?_)
      refine c_reg ?_
      refine l_pure rfl (s_asg  rfl ?_)
      refine l_nil ?_
      repeat (with_reducible first | refine c_seq ?_ | refine c_block ?_ | refine c_skip ?_ | refine x_then ?_ | refine x_block ?_)
      refine c_ret ?_
      repeat (with_reducible first | refine x_then_ret ?_ | refine x_block_ret ?_)
      refine r_one rfl rfl ?_
      exact ⟨vi rfl (by rw [f2 (by rw [he]; decide), he]), hS.below⟩
    refine c_no rfl (decide_eq_false (fun g => hneg (sgnQ_neg.1 g))) ?_
    repeat (with_reducible first | refine c_seq ?_ | refine c_block ?_ | refine c_skip ?_ | refine x_then ?_ | refine x_block ?_)
    refine c_cut1 (fun ρ w' => ρ 0 = .int .i64 n ∧ ρ 6 = .pointer (some ⟨b6, 0, none⟩) ∧ ρ 1 = vl ∧ ρ 5 = .int .i64 i ∧ ρ 39 = .bool (decide (isDay o.inc = false ∨ isDay o.acq = false)) ∧ St w2 w' [(b6, 28, encOb o)]) ?_ ?_
    · repeat (with_reducible first | refine c_seq ?_ | refine c_block ?_ | refine c_skip ?_ | refine x_then ?_ | refine x_block ?_)
      cases hd : isDay o.inc with
      | false =>
        have hdn : (!isDay o.inc) = true := by rw [hd]; rfl
        repeat (with_reducible first | refine c_seq ?_ | refine c_block ?_ | refine c_skip ?_ | refine x_then ?_ | refine x_block ?_)
        refine c_reg ?_
        refine l_pure rfl (s_fld  hk3_6 fo_28_3 ?_)
        refine l_read rfl (s_ldo (k := 0)  rfl vi_3 hS rfl rfl rfl (.inr rfl) ?_)
        refine l_heavy rfl (s_call Tryd.call31 rfl (rIsDay_ok o.inc _) ?_)
        rintro _ wq6 ⟨rfl, hq6⟩
        replace hq6 := hq6.symm
        subst hq6
        refine l_pure rfl (s_not  rfl ?_)
        refine l_pure rfl (s_move  rfl ?_)
        refine l_no (gno_yes 44 (by kernel_rfl) rfl hdn) ?_
        refine l_no (gno_yes 44 (by kernel_rfl) rfl hdn) ?_
        refine l_no (gno_yes 44 (by kernel_rfl) rfl hdn) ?_
        refine l_no (gno_yes 44 (by kernel_rfl) rfl hdn) ?_
        refine l_pure rfl (s_pick (vb rfl hdn) rfl ?_)
        refine l_pure rfl (s_asg  rfl ?_)
        refine l_nil ?_
        repeat (with_reducible first | refine c_seq ?_ | refine c_block ?_ | refine c_skip ?_ | refine x_then ?_ | refine x_block ?_)
        exact ⟨_, rfl, by assumption, by assumption, by assumption, by assumption, vb rfl (by simp), hS⟩
      | true =>
        have hdy : (!isDay o.inc) = false := by rw [hd]; rfl
        repeat (with_reducible first | refine c_seq ?_ | refine c_block ?_ | refine c_skip ?_ | refine x_then ?_ | refine x_block ?_)
        refine c_reg ?_
        refine l_pure rfl (s_fld  hk3_6 fo_28_3 ?_)
        refine l_read rfl (s_ldo (k := 0)  rfl vi_3 hS rfl rfl rfl (.inr rfl) ?_)
        refine l_heavy rfl (s_call Tryd.call31 rfl (rIsDay_ok o.inc _) ?_)
        rintro _ wq7 ⟨rfl, hq7⟩
        replace hq7 := hq7.symm
        subst hq7
        refine l_pure rfl (s_not  rfl ?_)
        refine l_pure rfl (s_move  rfl ?_)
        refine l_pure (gd_yes 44 (by kernel_rfl) rfl hdy) (s_fld  hk3_6 fo_28_4 ?_)
        refine l_read (gd_yes 44 (by kernel_rfl) rfl hdy) (s_ldo (k := 0)  rfl vi_3 hS rfl rfl rfl (.inr rfl) ?_)
        refine l_heavy (gd_yes 44 (by kernel_rfl) rfl hdy) (s_call Tryd.call31 rfl (rIsDay_ok o.acq _) ?_)
        rintro _ wq8 ⟨rfl, hq8⟩
        replace hq8 := hq8.symm
        subst hq8
        refine l_pure (gd_yes 44 (by kernel_rfl) rfl hdy) (s_not  rfl ?_)
        refine l_pure rfl (s_pick (vb rfl hdy) rfl ?_)
        refine l_pure rfl (s_asg  rfl ?_)
        refine l_nil ?_
        repeat (with_reducible first | refine c_seq ?_ | refine c_block ?_ | refine c_skip ?_ | refine x_then ?_ | refine x_block ?_)
        exact ⟨_, rfl, by assumption, by assumption, by assumption, by assumption, vb rfl (by cases isDay o.acq <;> simp), hS⟩
    clear hS
    rintro ρ w4 ⟨h0, h6, h1, h5, h39, hS⟩
    repeat (with_reducible first | refine c_seq ?_ | refine c_block ?_ | refine c_skip ?_ | refine x_then ?_ | refine x_block ?_)
    by_cases hday : isDay o.inc = false ∨ isDay o.acq = false
    · refine c_yes h39 (decide_eq_true hday) ?_
      repeat (with_reducible first | refine c_seq ?_ | refine c_block ?_ | refine c_skip ?_ | refine x_then ?_ | refine x_block ?_)
      have he : obErr n o = 1 := by unfold obErr; rw [if_neg hp', if_neg hneg, if_pos hday]
      repeat (with_reducible first | refine c_seq ?_ | refine c_block ?_ | refine c_skip ?_ | refine x_then ?_ | refine x_block ?_)
      refine c_reg ?_
      refine l_pure rfl (s_asg  rfl ?_)
      refine l_nil ?_
      repeat (with_reducible first | refine c_seq ?_ | refine c_block ?_ | refine c_skip ?_ | refine x_then ?_ | refine x_block ?_)
      refine c_ret ?_
      repeat (with_reducible first | refine x_then_ret ?_ | refine x_block_ret ?_)
      refine r_one rfl rfl ?_
      exact ⟨vi rfl (by rw [f2 (by rw [he]; decide), he]), hS.below⟩
    refine c_no h39 (decide_eq_false hday) ?_
    repeat (with_reducible first | refine c_seq ?_ | refine c_block ?_ | refine c_skip ?_ | refine x_then ?_ | refine x_block ?_)
    refine c_reg ?_
    refine l_pure rfl (s_fld  h6 fo_28_4 ?_)
    refine l_read rfl (s_ldo (k := 0)  rfl vi_3 hS rfl rfl rfl (.inr rfl) ?_)
    refine l_pure rfl (s_fld  h6 fo_28_3 ?_)
    refine l_read rfl (s_ldo (k := 0)  rfl vi_3 hS rfl rfl rfl (.inr rfl) ?_)
    refine l_pure rfl (s_lss  rfl rfl ?_)
    refine l_pure rfl (s_asg  rfl ?_)
    refine l_nil ?_
    repeat (with_reducible first | refine c_seq ?_ | refine c_block ?_ | refine c_skip ?_ | refine x_then ?_ | refine x_block ?_)
    by_cases hord : o.acq < o.inc
    · refine c_yes rfl (decide_eq_true hord) ?_
      repeat (with_reducible first | refine c_seq ?_ | refine c_block ?_ | refine c_skip ?_ | refine x_then ?_ | refine x_block ?_)
      have he : obErr n o = 15 := by unfold obErr; rw [if_neg hp', if_neg hneg, if_neg hday, if_pos hord]
      repeat (with_reducible first | refine c_seq ?_ | refine c_block ?_ | refine c_skip ?_ | refine x_then ?_ | refine x_block ?_)
      refine c_reg ?_
      refine l_pure rfl (s_asg  rfl ?_)
      refine l_nil ?_
      repeat (with_reducible first | refine c_seq ?_ | refine c_block ?_ | refine c_skip ?_ | refine x_then ?_ | refine x_block ?_)
      refine c_ret ?_
      repeat (with_reducible first | refine x_then_ret ?_ | refine x_block_ret ?_)
      refine r_one rfl rfl ?_
      exact ⟨vi rfl (by rw [f2 (by rw [he]; decide), he]), hS.below⟩
    · refine c_no rfl (decide_eq_false hord) ?_
      repeat (with_reducible first | refine c_seq ?_ | refine c_block ?_ | refine c_skip ?_ | refine x_then ?_ | refine x_block ?_)
      have he : obErr n o = 0 := by unfold obErr; rw [if_neg hp', if_neg hneg, if_neg hday, if_neg hord]
      repeat (with_reducible first | refine c_seq ?_ | refine c_block ?_ | refine c_skip ?_ | refine x_then ?_ | refine x_block ?_)
      refine c_reg ?_
      refine l_pure rfl (s_move  h5 ?_)
      refine l_pure rfl (s_add  rfl rfl (IntWalk.i64_in _ (by omega)) ?_)
      refine l_pure rfl (s_asg  rfl ?_)
      refine l_nil ?_
      repeat (with_reducible first | refine c_seq ?_ | refine c_block ?_ | refine c_skip ?_ | refine x_then ?_ | refine x_block ?_)
      exact ⟨i + 1, _, rfl, ⟨hlt, f1 he, by assumption, by assumption, vi rfl (by omega), hS.drop (List.sublist_cons_self _ _)⟩, by omega⟩
  · refine c_no rfl (decide_eq_false (by omega)) ?_
    repeat (with_reducible first | refine c_seq ?_ | refine c_block ?_ | refine c_skip ?_ | refine x_then ?_ | refine x_block ?_)
    refine c_exit ?_
    repeat (with_reducible first | refine x_then_exit ?_ | refine x_block_exit ?_ | refine x_block_pass rfl ?_)
    repeat (with_reducible first | refine c_seq ?_ | refine c_block ?_ | refine c_skip ?_ | refine x_then ?_ | refine x_block ?_)
    have e : l.take i = l := List.take_of_length_le (by omega)
    rw [e] at hok
    repeat (with_reducible first | refine c_seq ?_ | refine c_block ?_ | refine c_skip ?_ | refine x_then ?_ | refine x_block ?_)
    refine c_reg ?_
    refine l_pure rfl (s_asg  rfl ?_)
    refine l_nil ?_
    repeat (with_reducible first | refine c_seq ?_ | refine c_block ?_ | refine c_skip ?_ | refine x_then ?_ | refine x_block ?_)
    refine c_ret ?_
    repeat (with_reducible first | refine x_then_ret ?_ | refine x_block_ret ?_)
    refine r_one rfl rfl ?_
    exact ⟨vi rfl hok.symm, hS.below⟩
end Go.Proofs.YtdafaibhiobpaaaDoor
namespace Go.Proofs.YtdafaibhiobpaaaDoor
open Go Go.RowKit Go.Sx

end Go.Proofs.YtdafaibhiobpaaaDoor
