/-
  Walks: the laws that payments agree with the definition.
-/
import Derived.Test.YtmapmdldlcfjhaaGreatDoorLawUh
namespace Go.Proofs.YtmapmdldlcfjhaaGreatDoor
open Go Go.RowKit Go.Sx

set_option maxHeartbeats 1000000 in
theorem Pawake_ok (w : World) :
    Ret Tryz.prog 19 #[] w fun v w' => v = .bool true ∧ Below w.heap.size w w' := by
  have hM : MX = 1099511627776 := rfl
  have hb3 : RB 1 T3 := fun x hx => by
    have : x = Q13 := by
      simp only [T3, List.mem_cons, List.not_mem_nil, or_false] at hx
      rcases hx with h | h | h <;> exact h
    rw [this]; exact RB_Q13
  have hb1 : RB 1 T1 := fun x hx => by
    have : x = Q13 := by
      simp only [T1, List.mem_cons, List.not_mem_nil, or_false] at hx
      exact hx
    rw [this]; exact RB_Q13
  have hS := St.init w
  refine enter Tryz.func19 rfl Tryz.ntmps19 rfl ?_
  repeat (with_reducible first | refine c_seq ?_ | refine c_block ?_ | refine c_skip ?_ | refine x_then ?_ | refine x_block ?_)
  refine c_reg ?_
  refine l_pure rfl (s_asg  rfl ?_)
  refine l_nil ?_
  repeat (with_reducible first | refine c_seq ?_ | refine c_block ?_ | refine c_skip ?_ | refine x_then ?_ | refine x_block ?_)
  refine c_reg ?_
  refine l_heavy rfl (s_call Tryz.call37 rfl (Ratio_ok 1 3 _ (by decide) (by decide) (by decide) (by decide)) ?_)
  rintro r w1 ⟨rfl, hB1⟩
  replace hS := hS.grow hB1
  refine l_heavy rfl (s_alloc  vi_37 hS ?_)
  intro b1 wz1 hS hBz1
  refine l_heavy rfl (s_sta (k := 0)  rfl rfl vi_37 hS rfl rfl rfl (Nat.le_of_ble_eq_true rfl) rfl ?_)
  intro wz2 hS
  refine l_nil ?_
  repeat (with_reducible first | refine c_seq ?_ | refine c_block ?_ | refine c_skip ?_ | refine x_then ?_ | refine x_block ?_)
  replace hS : St w _ [(b1, 37, encR Q13)] := hS
  repeat (with_reducible first | refine c_seq ?_ | refine c_block ?_ | refine c_skip ?_ | refine x_then ?_ | refine x_block ?_)
  refine c_reg ?_
  refine l_read rfl (s_ldo (k := 0)  rfl vi_37 hS rfl rfl rfl (.inl rfl) ?_)
  refine l_read rfl (s_ldo (k := 0)  rfl vi_37 hS rfl rfl rfl (.inl rfl) ?_)
  refine l_read rfl (s_ldo (k := 0)  rfl vi_37 hS rfl rfl rfl (.inl rfl) ?_)
  refine l_heavy rfl (s_bsl (vs := [aggR Q13, aggR Q13, aggR Q13])  rfl si_22 rfl (by decide) (by decide) (by decide) (by simp [Value.cells, aggR]) rfl hS ?_)
  intro b11 wz3 hS hBz3
  replace hS : St w _ [(b11, 37, T3.flatMap encR), (b1, 37, encR Q13)] := hS
  have hT := hS.sle (k := 0) (L := T3) (n := 3) (cap := 3) rfl encR_len (by decide) (by decide) (by decide)
  refine l_heavy rfl (s_call Tryz.call24 rfl (RoundR_ok _ T3 1 _ hT hb3 (by decide) (by omega)) ?_)
  rintro r w2 ⟨⟨va, rfl, hva⟩, hB2⟩
  rw [rE_T3]
  rw [rL_T3] at hva
  replace hS := hS.grow hB2
  refine l_pure rfl (s_move  rfl ?_)
  refine l_pure rfl (s_ext  rfl rfl ?_)
  refine l_pure rfl (s_ext  rfl rfl ?_)
  refine l_pure rfl (s_asg  rfl ?_)
  refine l_pure rfl (s_asg  rfl ?_)
  refine l_nil ?_
  repeat (with_reducible first | refine c_seq ?_ | refine c_block ?_ | refine c_skip ?_ | refine x_then ?_ | refine x_block ?_)
  refine c_reg ?_
  refine l_heavy rfl (s_bsl (vs := [.int .i64 33])  rfl si_25 rfl (by decide) (by decide) (by decide) (by simp [Value.cells]) rfl hS ?_)
  intro b16 wz4 hS hBz4
  refine l_read rfl (s_ldo (k := 2)  rfl vi_37 hS rfl rfl rfl (.inl rfl) ?_)
  refine l_heavy rfl (s_bsl (vs := [aggR Q13])  rfl si_22 rfl (by decide) (by decide) (by decide) (by simp [Value.cells, aggR]) rfl hS ?_)
  intro b18 wz5 hS hBz5
  have hBm := (bt hBz4 hBz5)
  replace hS : St w _ [(b18, 37, T1.flatMap encR), (b16, 2, [(33 : Int)].flatMap enI), (b11, 37, T3.flatMap encR), (b1, 37, encR Q13)] := hS
  have hT1 := hS.sle (k := 0) (L := T1) (n := 1) (cap := 1) rfl encR_len (by decide) (by decide) (by decide)
  have hP1 := hS.sle (k := 1) (L := [(33 : Int)]) (n := 1) (cap := 1) rfl enI_len (by decide) (by decide) (by decide)
  replace hva := hva.below hBm
  refine l_heavy rfl (s_call Tryz.call32 rfl (Last_ok _ _ [33] T1 1 _ hP1 (fun x hx => by rw [List.mem_singleton.1 hx]; decide) hT1 hb1 (by decide) (by omega)) ?_)
  rintro r w4 ⟨⟨vb_, rfl, hvb⟩, hB4⟩
  rw [lE_T1]
  rw [lL_T1] at hvb
  replace hS := hS.grow hB4
  replace hva := hva.below hB4
  refine l_pure rfl (s_move  rfl ?_)
  refine l_pure rfl (s_ext  rfl rfl ?_)
  refine l_pure rfl (s_ext  rfl rfl ?_)
  refine l_pure rfl (s_asg  rfl ?_)
  refine l_pure rfl (s_asg  rfl ?_)
  refine l_nil ?_
  repeat (with_reducible first | refine c_seq ?_ | refine c_block ?_ | refine c_skip ?_ | refine x_then ?_ | refine x_block ?_)
  refine c_reg ?_
  refine l_pure rfl (s_move  rfl ?_)
  refine l_pure rfl (s_eql  rfl rfl ?_)
  refine l_pure rfl (s_move  rfl ?_)
  refine l_pure (gd_yes 24 (by kernel_rfl) rfl rfl) (s_move  rfl ?_)
  refine l_pure (gd_yes 24 (by kernel_rfl) rfl rfl) (s_eql  rfl rfl ?_)
  refine l_pure rfl (s_pick (vb rfl rfl) rfl ?_)
  refine l_pure rfl (s_move  rfl ?_)
  refine l_pure (gd_yes 28 (by kernel_rfl) rfl rfl) (s_move  rfl ?_)
  refine l_heavy (gd_yes 28 (by kernel_rfl) rfl rfl) (s_bsl (vs := [.int .i64 34, .int .i64 33, .int .i64 33])  rfl si_25 rfl (by decide) (by decide) (by decide) (by simp [Value.cells]) rfl hS ?_)
  intro b30 wz6 hS hBz6
  have hBn := hBz6
  replace hS : St w _ [(b30, 2, [(34 : Int), 33, 33].flatMap enI), (b18, 37, T1.flatMap encR), (b16, 2, [(33 : Int)].flatMap enI), (b11, 37, T3.flatMap encR), (b1, 37, encR Q13)] := hS
  have hC1 := hS.sle (k := 0) (L := [(34 : Int), 33, 33]) (n := 3) (cap := 3) rfl enI_len (by decide) (by decide) (by decide)
  replace hva := hva.below hBn
  replace hvb := hvb.below hBn
  refine l_heavy (gd_yes 28 (by kernel_rfl) rfl rfl) (s_call Tryz.call26 rfl (SameCents_ok _ _ [34, 33, 33] [34, 33, 33] _ hva hC1) ?_)
  rintro r w5 ⟨rfl, hB5⟩
  replace hS := hS.grow hB5
  replace hvb := hvb.below hB5
  refine l_pure rfl (s_pick (vb rfl rfl) rfl ?_)
  refine l_pure rfl (s_move  rfl ?_)
  refine l_pure (gd_yes 33 (by kernel_rfl) rfl (decide_eq_true rfl)) (s_move  rfl ?_)
  refine l_heavy (gd_yes 33 (by kernel_rfl) rfl (decide_eq_true rfl)) (s_bsl (vs := [.int .i64 0])  rfl si_25 rfl (by decide) (by decide) (by decide) (by simp [Value.cells]) rfl hS ?_)
  intro b35 wz7 hS hBz7
  have hBo := hBz7
  replace hS : St w _ [(b35, 2, [(0 : Int)].flatMap enI), (b30, 2, [(34 : Int), 33, 33].flatMap enI), (b18, 37, T1.flatMap encR), (b16, 2, [(33 : Int)].flatMap enI), (b11, 37, T3.flatMap encR), (b1, 37, encR Q13)] := hS
  have hC2 := hS.sle (k := 0) (L := [(0 : Int)]) (n := 1) (cap := 1) rfl enI_len (by decide) (by decide) (by decide)
  replace hvb := hvb.below hBo
  refine l_heavy (gd_yes 33 (by kernel_rfl) rfl (decide_eq_true rfl)) (s_call Tryz.call26 rfl (SameCents_ok _ _ [0] [0] _ hvb hC2) ?_)
  rintro r w6 ⟨rfl, hB6⟩
  replace hS := hS.grow hB6
  refine l_pure rfl (s_pick (vb rfl (decide_eq_true rfl)) rfl ?_)
  refine l_pure rfl (s_asg  rfl ?_)
  refine l_nil ?_
  repeat (with_reducible first | refine c_seq ?_ | refine c_block ?_ | refine c_skip ?_ | refine x_then ?_ | refine x_block ?_)
  refine c_ret ?_
  repeat (with_reducible first | refine x_then_ret ?_ | refine x_block_ret ?_)
  refine r_one rfl rfl ?_
  exact ⟨vb rfl (decide_eq_true rfl), hS.below⟩

/-! ### The laws -/
theorem few_RB {A : List RR} (h : A.all few = true) : RB 24 A := fun r hr => few_Lr (List.all_eq_true.1 h r hr)
theorem L_edge {n : Nat} (hn : n < 1125899906842630) : L (mkRat (n : Int) 100) ≤ 8 := L_mkRat _ (by decide) (natS_size_le (by rw [Int.natAbs_natCast]; omega)) (natS_size_le (by decide))
set_option maxHeartbeats 1000000 in
theorem PayoutCents_ok (r : RR) (b : Nat) (w : World) :
    Ret Tryz.prog 5 #[aggR r, .int .u8 b] w fun v w' => v = .bool true ∧ Below w.heap.size w w' := by
  have hM : MX = 1099511627776 := rfl
  have hE := L_edge (n := 1125899906842623 + b % 4) (by omega)
  obtain ⟨E, hEe⟩ : ∃ E, E = ofQ (mkRat ((1125899906842623 + b % 4 : Nat) : Int) 100) := ⟨_, rfl⟩
  have hLE : Lr E ≤ 8 := by rw [hEe, Lr_ofQ]; exact hE
  have hS := St.init w
  refine enter Tryz.func5 rfl Tryz.ntmps5 rfl ?_
  repeat (with_reducible first | refine c_seq ?_ | refine c_block ?_ | refine c_skip ?_ | refine x_then ?_ | refine x_block ?_)
  refine c_reg ?_
  refine l_heavy rfl (s_box (new := encR r)  rfl rfl hS ?_)
  intro b2 wz1 hS hBz1
  refine l_pure rfl (s_asg  rfl ?_)
  refine l_nil ?_
  repeat (with_reducible first | refine c_seq ?_ | refine c_block ?_ | refine c_skip ?_ | refine x_then ?_ | refine x_block ?_)
  refine c_reg ?_
  refine l_read rfl (s_ldo (k := 0)  rfl vi_37 hS rfl rfl rfl (.inl rfl) ?_)
  refine l_heavy rfl (s_call Tryz.call18 rfl (Few_ok r _) ?_)
  rintro _ wc2 ⟨rfl, hBc2⟩
  replace hS := hS.grow hBc2
  refine l_pure rfl (s_not  rfl ?_)
  refine l_nil ?_
  repeat (with_reducible first | refine c_seq ?_ | refine c_block ?_ | refine c_skip ?_ | refine x_then ?_ | refine x_block ?_)
  cases hf : few r with
  | false =>
    refine c_yes rfl (rfl) ?_
    repeat (with_reducible first | refine c_seq ?_ | refine c_block ?_ | refine c_skip ?_ | refine x_then ?_ | refine x_block ?_)
    refine c_reg ?_
    refine l_heavy rfl (s_call Tryz.call19 rfl (Pawake_ok _) ?_)
    rintro _ wc3 ⟨rfl, hBc3⟩
    replace hS := hS.grow hBc3
    refine l_pure rfl (s_asg  rfl ?_)
    refine l_nil ?_
    repeat (with_reducible first | refine c_seq ?_ | refine c_block ?_ | refine c_skip ?_ | refine x_then ?_ | refine x_block ?_)
    refine c_ret ?_
    repeat (with_reducible first | refine x_then_ret ?_ | refine x_block_ret ?_)
    refine r_one rfl rfl ?_
    exact ⟨rfl, hS.below⟩
  | true =>
  have hLr := few_Lr hf
  refine c_no rfl (rfl) ?_
  repeat (with_reducible first | refine c_seq ?_ | refine c_block ?_ | refine c_skip ?_ | refine x_then ?_ | refine x_block ?_)
  replace hS : St w _ [(b2, 37, encR r)] := hS
  repeat (with_reducible first | refine c_seq ?_ | refine c_block ?_ | refine c_skip ?_ | refine x_then ?_ | refine x_block ?_)
  refine c_reg ?_
  refine l_read rfl (s_ldo (k := 0)  rfl vi_37 hS rfl rfl rfl (.inl rfl) ?_)
  refine l_heavy rfl (s_call Tryz.call20 rfl (Cents_ok r _ (by omega)) ?_)
  rintro _ wc4 ⟨rfl, hBc4⟩
  replace hS := hS.grow hBc4
  refine l_pure rfl (s_move  rfl ?_)
  refine l_pure rfl (s_ext  rfl rfl ?_)
  refine l_pure rfl (s_ext  rfl rfl ?_)
  refine l_pure rfl (s_asg  rfl ?_)
  refine l_pure rfl (s_asg  rfl ?_)
  refine l_nil ?_
  repeat (with_reducible first | refine c_seq ?_ | refine c_block ?_ | refine c_skip ?_ | refine x_then ?_ | refine x_block ?_)
  refine c_reg ?_
  refine l_read rfl (s_ldo (k := 0)  rfl vi_37 hS rfl rfl rfl (.inl rfl) ?_)
  refine l_heavy rfl (s_call Tryz.call21 rfl (rCents_ok r _ (by omega)) ?_)
  rintro _ wc5 ⟨rfl, hBc5⟩
  replace hS := hS.grow hBc5
  refine l_pure rfl (s_move  rfl ?_)
  refine l_pure rfl (s_ext  rfl rfl ?_)
  refine l_pure rfl (s_ext  rfl rfl ?_)
  refine l_pure rfl (s_asg  rfl ?_)
  refine l_pure rfl (s_asg  rfl ?_)
  refine l_nil ?_
  repeat (with_reducible first | refine c_seq ?_ | refine c_block ?_ | refine c_skip ?_ | refine x_then ?_ | refine x_block ?_)
  refine c_reg ?_
  refine l_pure rfl (s_move  rfl ?_)
  refine l_pure rfl (s_rem  rfl rfl (by omega) (r := ((b % 4 : Nat) : Int)) (by exact rem_nat b 4) ?_)
  refine l_pure rfl (s_conv  rfl Tryz.underlying2 ⟨_, Tryz.underlying5⟩ (r := ((b % 4 : Nat) : Int)) (by exact wr_i64 _ ⟨rfl, by omega, by omega⟩) ?_)
  refine l_pure rfl (s_add  rfl rfl (r := ((1125899906842623 + b % 4 : Nat) : Int)) (by exact wr_i64 _ ⟨by omega, by omega, by omega⟩) ?_)
  refine l_heavy rfl (s_call Tryz.call22 rfl (rFraction_ok ((1125899906842623 + b % 4 : Nat) : Int) 100 _ (by omega) (by omega) (by decide) (by decide)) ?_)
  rintro r w5 ⟨rfl, hB5⟩
  replace hS := hS.grow hB5
  rw [← hEe]
  refine l_pure rfl (s_move  rfl ?_)
  refine l_pure rfl (s_ext  rfl rfl ?_)
  refine l_pure rfl (s_ext  rfl rfl ?_)
  refine l_heavy rfl (s_alloc  vi_37 hS ?_)
  intro b9 wz6 hS hBz6
  refine l_heavy rfl (s_sta (k := 0)  rfl rfl vi_37 hS rfl rfl rfl (Nat.le_of_ble_eq_true rfl) rfl ?_)
  intro wz7 hS
  refine l_pure rfl (s_asg  rfl ?_)
  refine l_nil ?_
  repeat (with_reducible first | refine c_seq ?_ | refine c_block ?_ | refine c_skip ?_ | refine x_then ?_ | refine x_block ?_)
  replace hS : St w _ [(b9, 37, encR E), (b2, 37, encR r)] := hS
  repeat (with_reducible first | refine c_seq ?_ | refine c_block ?_ | refine c_skip ?_ | refine x_then ?_ | refine x_block ?_)
  refine c_reg ?_
  refine l_read rfl (s_ldo (k := 0)  rfl vi_37 hS rfl rfl rfl (.inl rfl) ?_)
  refine l_heavy rfl (s_call Tryz.call20 rfl (Cents_ok E _ (by omega)) ?_)
  rintro _ wc8 ⟨rfl, hBc8⟩
  replace hS := hS.grow hBc8
  refine l_pure rfl (s_move  rfl ?_)
  refine l_pure rfl (s_ext  rfl rfl ?_)
  refine l_pure rfl (s_ext  rfl rfl ?_)
  refine l_pure rfl (s_asg  rfl ?_)
  refine l_pure rfl (s_asg  rfl ?_)
  refine l_nil ?_
  repeat (with_reducible first | refine c_seq ?_ | refine c_block ?_ | refine c_skip ?_ | refine x_then ?_ | refine x_block ?_)
  refine c_reg ?_
  refine l_read rfl (s_ldo (k := 0)  rfl vi_37 hS rfl rfl rfl (.inl rfl) ?_)
  refine l_heavy rfl (s_call Tryz.call21 rfl (rCents_ok E _ (by omega)) ?_)
  rintro _ wc9 ⟨rfl, hBc9⟩
  replace hS := hS.grow hBc9
  refine l_pure rfl (s_move  rfl ?_)
  refine l_pure rfl (s_ext  rfl rfl ?_)
  refine l_pure rfl (s_ext  rfl rfl ?_)
  refine l_pure rfl (s_asg  rfl ?_)
  refine l_pure rfl (s_asg  rfl ?_)
  refine l_nil ?_
  repeat (with_reducible first | refine c_seq ?_ | refine c_block ?_ | refine c_skip ?_ | refine x_then ?_ | refine x_block ?_)
  refine c_reg ?_
  refine l_heavy rfl (s_call Tryz.call19 rfl (Pawake_ok _) ?_)
  rintro r wa ⟨rfl, hBa⟩
  replace hS := hS.grow hBa
  refine l_pure rfl (s_move  rfl ?_)
  refine l_pure (gd_yes 48 (by kernel_rfl) rfl rfl) (s_move  rfl ?_)
  refine l_pure (gd_yes 48 (by kernel_rfl) rfl rfl) (s_move  rfl ?_)
  refine l_pure (gd_yes 48 (by kernel_rfl) rfl rfl) (s_eql  rfl rfl ?_)
  refine l_pure rfl (s_pick (vb rfl rfl) rfl ?_)
  refine l_pure rfl (s_move  rfl ?_)
  refine l_pure (gd_yes 53 (by kernel_rfl) rfl (decide_eq_true rfl)) (s_move  rfl ?_)
  refine l_pure (gd_yes 53 (by kernel_rfl) rfl (decide_eq_true rfl)) (s_move  rfl ?_)
  refine l_pure (gd_yes 53 (by kernel_rfl) rfl (decide_eq_true rfl)) (s_eql  rfl rfl ?_)
  refine l_pure rfl (s_pick (vb rfl (decide_eq_true rfl)) rfl ?_)
  refine l_pure rfl (s_move  rfl ?_)
  refine l_pure (gd_yes 58 (by kernel_rfl) rfl (decide_eq_true rfl)) (s_move  rfl ?_)
  refine l_pure (gd_yes 58 (by kernel_rfl) rfl (decide_eq_true rfl)) (s_move  rfl ?_)
  refine l_pure (gd_yes 58 (by kernel_rfl) rfl (decide_eq_true rfl)) (s_eql  rfl rfl ?_)
  refine l_pure rfl (s_pick (vb rfl (decide_eq_true rfl)) rfl ?_)
  refine l_pure rfl (s_move  rfl ?_)
  refine l_pure (gd_yes 63 (by kernel_rfl) rfl (decide_eq_true rfl)) (s_move  rfl ?_)
  refine l_pure (gd_yes 63 (by kernel_rfl) rfl (decide_eq_true rfl)) (s_move  rfl ?_)
  refine l_pure (gd_yes 63 (by kernel_rfl) rfl (decide_eq_true rfl)) (s_eql  rfl rfl ?_)
  refine l_pure rfl (s_pick (vb rfl (decide_eq_true rfl)) rfl ?_)
  refine l_pure rfl (s_asg  rfl ?_)
  refine l_nil ?_
  repeat (with_reducible first | refine c_seq ?_ | refine c_block ?_ | refine c_skip ?_ | refine x_then ?_ | refine x_block ?_)
  refine c_ret ?_
  repeat (with_reducible first | refine x_then_ret ?_ | refine x_block_ret ?_)
  refine r_one rfl rfl ?_
  exact ⟨vb rfl (decide_eq_true rfl), hS.below⟩
set_option maxHeartbeats 1000000 in
theorem PayoutRound_ok (vl vr : Value) (l : List Nat) (raw : List RR) (w : World) (hl : Sl (uk .u16) 1 w vl l) (hlb : ∀ x ∈ l, x < 65536) (hr : Sl encR 3 w vr raw) :
    Ret Tryz.prog 6 #[vl, vr] w fun v w' => v = .bool true ∧ Below w.heap.size w w' := by
  have hM : MX = 1099511627776 := rfl
  have hS := St.init w
  refine enter Tryz.func6 rfl Tryz.ntmps6 rfl ?_
  repeat (with_reducible first | refine c_seq ?_ | refine c_block ?_ | refine c_skip ?_ | refine x_then ?_ | refine x_block ?_)
  refine c_reg ?_
  refine l_pure rfl (s_asg  rfl ?_)
  refine l_nil ?_
  repeat (with_reducible first | refine c_seq ?_ | refine c_block ?_ | refine c_skip ?_ | refine x_then ?_ | refine x_block ?_)
  refine c_reg ?_
  refine l_pure rfl (s_move  rfl ?_)
  refine l_heavy rfl (s_call Tryz.call11 rfl (FewRats_ok vr raw 8 _ (hr.below hS.below)) ?_)
  rintro _ wc1 ⟨rfl, hBc1⟩
  replace hS := hS.grow hBc1
  refine l_pure rfl (s_not  rfl ?_)
  refine l_nil ?_
  repeat (with_reducible first | refine c_seq ?_ | refine c_block ?_ | refine c_skip ?_ | refine x_then ?_ | refine x_block ?_)
  cases hf : decide ((raw.length : Int) ≤ 8) && raw.all few with
  | false =>
    refine c_yes rfl (rfl) ?_
    repeat (with_reducible first | refine c_seq ?_ | refine c_block ?_ | refine c_skip ?_ | refine x_then ?_ | refine x_block ?_)
    refine c_reg ?_
    refine l_heavy rfl (s_call Tryz.call19 rfl (Pawake_ok _) ?_)
    rintro _ wc2 ⟨rfl, hBc2⟩
    replace hS := hS.grow hBc2
    refine l_pure rfl (s_asg  rfl ?_)
    refine l_nil ?_
    repeat (with_reducible first | refine c_seq ?_ | refine c_block ?_ | refine c_skip ?_ | refine x_then ?_ | refine x_block ?_)
    refine c_ret ?_
    repeat (with_reducible first | refine x_then_ret ?_ | refine x_block_ret ?_)
    refine r_one rfl rfl ?_
    exact ⟨rfl, hS.below⟩
  | true =>
  rw [Bool.and_eq_true, decide_eq_true_eq] at hf
  have hRB := few_RB hf.2
  have hx := amts_RB l 10
  have hxl := amts_len l 10
  refine c_no rfl (rfl) ?_
  repeat (with_reducible first | refine c_seq ?_ | refine c_block ?_ | refine c_skip ?_ | refine x_then ?_ | refine x_block ?_)
  refine c_reg ?_
  refine l_pure rfl (s_move  rfl ?_)
  refine l_heavy rfl (s_call Tryz.call23 rfl (Amounts_ok vl l 10 _ (hl.below hS.below) hlb (by decide)) ?_)
  rintro x w1 ⟨hvx, hB1⟩
  replace hS := hS.grow hB1
  refine l_pure rfl (s_asg  rfl ?_)
  refine l_nil ?_
  repeat (with_reducible first | refine c_seq ?_ | refine c_block ?_ | refine c_skip ?_ | refine x_then ?_ | refine x_block ?_)
  refine c_reg ?_
  refine l_pure rfl (s_move  rfl ?_)
  refine l_heavy rfl (s_call Tryz.call24 rfl (RoundR_ok x (amts l 10) 1 _ hvx hx (by omega) (by omega)) ?_)
  rintro r w2 ⟨⟨va, rfl, hva⟩, hB2⟩
  replace hS := hS.grow hB2
  replace hvx := hvx.below hB2
  refine l_pure rfl (s_move  rfl ?_)
  refine l_pure rfl (s_ext  rfl rfl ?_)
  refine l_pure rfl (s_ext  rfl rfl ?_)
  refine l_pure rfl (s_asg  rfl ?_)
  refine l_pure rfl (s_asg  rfl ?_)
  refine l_nil ?_
  repeat (with_reducible first | refine c_seq ?_ | refine c_block ?_ | refine c_skip ?_ | refine x_then ?_ | refine x_block ?_)
  refine c_reg ?_
  refine l_pure rfl (s_move  rfl ?_)
  refine l_heavy rfl (s_call Tryz.call25 rfl (rRoundR_ok x (amts l 10) 1 _ hvx hx (by omega) (by omega)) ?_)
  rintro r w3 ⟨⟨vb_, rfl, hvb⟩, hB3⟩
  replace hS := hS.grow hB3
  replace hva := hva.below hB3
  refine l_pure rfl (s_move  rfl ?_)
  refine l_pure rfl (s_ext  rfl rfl ?_)
  refine l_pure rfl (s_ext  rfl rfl ?_)
  refine l_pure rfl (s_asg  rfl ?_)
  refine l_pure rfl (s_asg  rfl ?_)
  refine l_nil ?_
  repeat (with_reducible first | refine c_seq ?_ | refine c_block ?_ | refine c_skip ?_ | refine x_then ?_ | refine x_block ?_)
  refine c_reg ?_
  refine l_pure rfl (s_move  rfl ?_)
  refine l_heavy rfl (s_call Tryz.call24 rfl (RoundR_ok vr raw 24 _ (hr.below hS.below) hRB (by omega) (by omega)) ?_)
  rintro r w4 ⟨⟨vc, rfl, hvc⟩, hB4⟩
  replace hS := hS.grow hB4
  replace hva := hva.below hB4
  replace hvb := hvb.below hB4
  refine l_pure rfl (s_move  rfl ?_)
  refine l_pure rfl (s_ext  rfl rfl ?_)
  refine l_pure rfl (s_ext  rfl rfl ?_)
  refine l_pure rfl (s_asg  rfl ?_)
  refine l_pure rfl (s_asg  rfl ?_)
  refine l_nil ?_
  repeat (with_reducible first | refine c_seq ?_ | refine c_block ?_ | refine c_skip ?_ | refine x_then ?_ | refine x_block ?_)
  refine c_reg ?_
  refine l_pure rfl (s_move  rfl ?_)
  refine l_heavy rfl (s_call Tryz.call25 rfl (rRoundR_ok vr raw 24 _ (hr.below hS.below) hRB (by omega) (by omega)) ?_)
  rintro r w5 ⟨⟨vd, rfl, hvd⟩, hB5⟩
  replace hS := hS.grow hB5
  replace hva := hva.below hB5
  replace hvb := hvb.below hB5
  replace hvc := hvc.below hB5
  refine l_pure rfl (s_move  rfl ?_)
  refine l_pure rfl (s_ext  rfl rfl ?_)
  refine l_pure rfl (s_ext  rfl rfl ?_)
  refine l_pure rfl (s_asg  rfl ?_)
  refine l_pure rfl (s_asg  rfl ?_)
  refine l_nil ?_
  repeat (with_reducible first | refine c_seq ?_ | refine c_block ?_ | refine c_skip ?_ | refine x_then ?_ | refine x_block ?_)
  refine c_reg ?_
  refine l_heavy rfl (s_call Tryz.call19 rfl (Pawake_ok _) ?_)
  rintro r wa ⟨rfl, hBa⟩
  replace hS := hS.grow hBa
  replace hva := hva.below hBa
  replace hvb := hvb.below hBa
  replace hvc := hvc.below hBa
  replace hvd := hvd.below hBa
  refine l_pure rfl (s_move  rfl ?_)
  refine l_pure (gd_yes 41 (by kernel_rfl) rfl rfl) (s_move  rfl ?_)
  refine l_pure (gd_yes 41 (by kernel_rfl) rfl rfl) (s_move  rfl ?_)
  refine l_pure (gd_yes 41 (by kernel_rfl) rfl rfl) (s_eql  rfl rfl ?_)
  refine l_pure rfl (s_pick (vb rfl rfl) rfl ?_)
  refine l_pure rfl (s_move  rfl ?_)
  refine l_pure (gd_yes 46 (by kernel_rfl) rfl (decide_eq_true rfl)) (s_move  rfl ?_)
  refine l_pure (gd_yes 46 (by kernel_rfl) rfl (decide_eq_true rfl)) (s_move  rfl ?_)
  refine l_heavy (gd_yes 46 (by kernel_rfl) rfl (decide_eq_true rfl)) (s_call Tryz.call26 rfl (SameCents_ok _ _ _ _ _ hva hvb) ?_)
  rintro r w6 ⟨rfl, hB6⟩
  replace hS := hS.grow hB6
  replace hvc := hvc.below hB6
  replace hvd := hvd.below hB6
  refine l_pure rfl (s_pick (vb rfl (decide_eq_true rfl)) rfl ?_)
  refine l_pure rfl (s_move  rfl ?_)
  refine l_pure (gd_yes 51 (by kernel_rfl) rfl (decide_eq_true rfl)) (s_move  rfl ?_)
  refine l_pure (gd_yes 51 (by kernel_rfl) rfl (decide_eq_true rfl)) (s_move  rfl ?_)
  refine l_pure (gd_yes 51 (by kernel_rfl) rfl (decide_eq_true rfl)) (s_eql  rfl rfl ?_)
  refine l_pure rfl (s_pick (vb rfl (decide_eq_true rfl)) rfl ?_)
  refine l_pure rfl (s_move  rfl ?_)
  refine l_pure (gd_yes 56 (by kernel_rfl) rfl (decide_eq_true rfl)) (s_move  rfl ?_)
  refine l_pure (gd_yes 56 (by kernel_rfl) rfl (decide_eq_true rfl)) (s_move  rfl ?_)
  refine l_heavy (gd_yes 56 (by kernel_rfl) rfl (decide_eq_true rfl)) (s_call Tryz.call26 rfl (SameCents_ok _ _ _ _ _ hvc hvd) ?_)
  rintro r w7 ⟨rfl, hB7⟩
  replace hS := hS.grow hB7
  refine l_pure rfl (s_pick (vb rfl (decide_eq_true rfl)) rfl ?_)
  refine l_pure rfl (s_asg  rfl ?_)
  refine l_nil ?_
  repeat (with_reducible first | refine c_seq ?_ | refine c_block ?_ | refine c_skip ?_ | refine x_then ?_ | refine x_block ?_)
  refine c_ret ?_
  repeat (with_reducible first | refine x_then_ret ?_ | refine x_block_ret ?_)
  refine r_one rfl rfl ?_
  exact ⟨vb rfl (decide_eq_true rfl), hS.below⟩
theorem ctF_bound (l : List Nat) (n : Nat) : ∀ x ∈ tab n (ctF l), -9223372036854775808 ≤ x ∧ x ≤ 9223372036854775807 := by
  intro x hx
  obtain ⟨i, _, rfl⟩ := tab_mem hx
  unfold ctF
  split <;> omega
set_option maxHeartbeats 1000000 in
theorem PayoutLast_ok (vp vf vl vc : Value) (paid : List Int) (fin : List RR) (l c : List Nat) (w : World) (hp : Sl enI 1 w vp paid) (hpb : ∀ x ∈ paid, -9223372036854775808 ≤ x ∧ x ≤ 9223372036854775807) (hf : Sl encR 3 w vf fin) (hl : Sl (uk .u16) 1 w vl l) (hlb : ∀ x ∈ l, x < 65536) (hc : Sl (uk .u16) 1 w vc c) (hcb0 : ∀ x ∈ c, x < 65536) :
    Ret Tryz.prog 8 #[vp, vf, vl, vc] w fun v w' => v = .bool true ∧ Below w.heap.size w w' := by
  have hM : MX = 1099511627776 := rfl
  have hS := St.init w
  have hpm := hp.maxLen
  refine enter Tryz.func8 rfl Tryz.ntmps8 rfl ?_
  repeat (with_reducible first | refine c_seq ?_ | refine c_block ?_ | refine c_skip ?_ | refine x_then ?_ | refine x_block ?_)
  refine c_reg ?_
  refine l_pure rfl (s_asg  rfl ?_)
  refine l_nil ?_
  repeat (with_reducible first | refine c_seq ?_ | refine c_block ?_ | refine c_skip ?_ | refine x_then ?_ | refine x_block ?_)
  by_cases hlen : paid.length ≤ 8
  · repeat (with_reducible first | refine c_seq ?_ | refine c_block ?_ | refine c_skip ?_ | refine x_then ?_ | refine x_block ?_)
    refine c_reg ?_
    refine l_pure rfl (s_move  rfl ?_)
    refine l_pure rfl (s_lenr  rfl (hp.below hS.below) ⟨_, Tryz.underlying25⟩ ?_)
    refine l_pure rfl (s_gtr  rfl rfl ?_)
    refine l_pure rfl (s_move  rfl ?_)
    refine l_pure (gd_yes 22 (by kernel_rfl) rfl (decide_eq_false (by omega))) (s_move  rfl ?_)
    refine l_heavy (gd_yes 22 (by kernel_rfl) rfl (decide_eq_false (by omega))) (s_call Tryz.call11 rfl (FewRats_ok vf fin 8 _ (hf.below hS.below)) ?_)
    rintro r w0 ⟨rfl, hB0⟩
    replace hS := hS.grow hB0
    refine l_pure (gd_yes 22 (by kernel_rfl) rfl (decide_eq_false (by omega))) (s_not  rfl ?_)
    refine l_pure rfl (s_pick (vb rfl (decide_eq_false (by omega))) rfl ?_)
    refine l_nil ?_
    repeat (with_reducible first | refine c_seq ?_ | refine c_block ?_ | refine c_skip ?_ | refine x_then ?_ | refine x_block ?_)
    cases hfw : decide ((fin.length : Int) ≤ 8) && fin.all few with
    | false =>
      refine c_yes rfl (rfl) ?_
      repeat (with_reducible first | refine c_seq ?_ | refine c_block ?_ | refine c_skip ?_ | refine x_then ?_ | refine x_block ?_)
      refine c_reg ?_
      refine l_heavy rfl (s_call Tryz.call19 rfl (Pawake_ok _) ?_)
      rintro _ wc1 ⟨rfl, hBc1⟩
      replace hS := hS.grow hBc1
      refine l_pure rfl (s_asg  rfl ?_)
      refine l_nil ?_
      repeat (with_reducible first | refine c_seq ?_ | refine c_block ?_ | refine c_skip ?_ | refine x_then ?_ | refine x_block ?_)
      refine c_ret ?_
      repeat (with_reducible first | refine x_then_ret ?_ | refine x_block_ret ?_)
      refine r_one rfl rfl ?_
      exact ⟨rfl, hS.below⟩
    | true =>
    rw [Bool.and_eq_true, decide_eq_true_eq] at hfw
    have hRB := few_RB hfw.2
    have hx := amts_RB l 8
    have hxl := amts_len l 8
    have hcb := ctF_bound c (amts l 8).length
    refine c_no rfl (rfl) ?_
    repeat (with_reducible first | refine c_seq ?_ | refine c_block ?_ | refine c_skip ?_ | refine x_then ?_ | refine x_block ?_)
    refine c_reg ?_
    refine l_pure rfl (s_move  rfl ?_)
    refine l_pure rfl (s_move  rfl ?_)
    refine l_heavy rfl (s_call Tryz.call32 rfl (Last_ok vp vf paid fin 24 _ (hp.below hS.below) hpb (hf.below hS.below) hRB (by omega) (by omega)) ?_)
    rintro r w1 ⟨⟨va, rfl, hva⟩, hB1⟩
    replace hS := hS.grow hB1
    refine l_pure rfl (s_move  rfl ?_)
    refine l_pure rfl (s_ext  rfl rfl ?_)
    refine l_pure rfl (s_ext  rfl rfl ?_)
    refine l_pure rfl (s_asg  rfl ?_)
    refine l_pure rfl (s_asg  rfl ?_)
    refine l_nil ?_
    repeat (with_reducible first | refine c_seq ?_ | refine c_block ?_ | refine c_skip ?_ | refine x_then ?_ | refine x_block ?_)
    refine c_reg ?_
    refine l_pure rfl (s_move  rfl ?_)
    refine l_pure rfl (s_move  rfl ?_)
    refine l_heavy rfl (s_call Tryz.call33 rfl (rLast_ok vp vf paid fin 24 _ (hp.below hS.below) hpb (hf.below hS.below) hRB (by omega) (by omega)) ?_)
    rintro r w2 ⟨⟨vb_, rfl, hvb⟩, hB2⟩
    replace hS := hS.grow hB2
    replace hva := hva.below hB2
    refine l_pure rfl (s_move  rfl ?_)
    refine l_pure rfl (s_ext  rfl rfl ?_)
    refine l_pure rfl (s_ext  rfl rfl ?_)
    refine l_pure rfl (s_asg  rfl ?_)
    refine l_pure rfl (s_asg  rfl ?_)
    refine l_nil ?_
    repeat (with_reducible first | refine c_seq ?_ | refine c_block ?_ | refine c_skip ?_ | refine x_then ?_ | refine x_block ?_)
    refine c_reg ?_
    refine l_pure rfl (s_move  rfl ?_)
    refine l_heavy rfl (s_call Tryz.call23 rfl (Amounts_ok vl l 8 _ (hl.below hS.below) hlb (by decide)) ?_)
    rintro x w3 ⟨hvx, hB3⟩
    replace hS := hS.grow hB3
    replace hva := hva.below hB3
    replace hvb := hvb.below hB3
    refine l_pure rfl (s_asg  rfl ?_)
    refine l_nil ?_
    repeat (with_reducible first | refine c_seq ?_ | refine c_block ?_ | refine c_skip ?_ | refine x_then ?_ | refine x_block ?_)
    refine c_reg ?_
    refine l_pure rfl (s_move  rfl ?_)
    refine l_pure rfl (s_move  rfl ?_)
    refine l_pure rfl (s_lenr  rfl hvx ⟨_, Tryz.underlying22⟩ ?_)
    refine l_heavy rfl (s_call Tryz.call34 rfl (lawCents_ok vc c (amts l 8).length _ (hc.below hS.below) hcb0 (by omega)) ?_)
    rintro y w4 ⟨hvy, hB4⟩
    replace hS := hS.grow hB4
    replace hva := hva.below hB4
    replace hvb := hvb.below hB4
    replace hvx := hvx.below hB4
    refine l_pure rfl (s_asg  rfl ?_)
    refine l_nil ?_
    repeat (with_reducible first | refine c_seq ?_ | refine c_block ?_ | refine c_skip ?_ | refine x_then ?_ | refine x_block ?_)
    refine c_reg ?_
    refine l_pure rfl (s_move  rfl ?_)
    refine l_pure rfl (s_move  rfl ?_)
    refine l_heavy rfl (s_call Tryz.call32 rfl (Last_ok y x _ (amts l 8) 1 _ hvy hcb hvx hx (by omega) (by omega)) ?_)
    rintro r w5 ⟨⟨vd, rfl, hvd⟩, hB5⟩
    replace hS := hS.grow hB5
    replace hva := hva.below hB5
    replace hvb := hvb.below hB5
    replace hvx := hvx.below hB5
    replace hvy := hvy.below hB5
    refine l_pure rfl (s_move  rfl ?_)
    refine l_pure rfl (s_ext  rfl rfl ?_)
    refine l_pure rfl (s_ext  rfl rfl ?_)
    refine l_pure rfl (s_asg  rfl ?_)
    refine l_pure rfl (s_asg  rfl ?_)
    refine l_nil ?_
    repeat (with_reducible first | refine c_seq ?_ | refine c_block ?_ | refine c_skip ?_ | refine x_then ?_ | refine x_block ?_)
    refine c_reg ?_
    refine l_pure rfl (s_move  rfl ?_)
    refine l_pure rfl (s_move  rfl ?_)
    refine l_heavy rfl (s_call Tryz.call33 rfl (rLast_ok y x _ (amts l 8) 1 _ hvy hcb hvx hx (by omega) (by omega)) ?_)
    rintro r w6 ⟨⟨ve, rfl, hve⟩, hB6⟩
    replace hS := hS.grow hB6
    replace hva := hva.below hB6
    replace hvb := hvb.below hB6
    replace hvd := hvd.below hB6
    refine l_pure rfl (s_move  rfl ?_)
    refine l_pure rfl (s_ext  rfl rfl ?_)
    refine l_pure rfl (s_ext  rfl rfl ?_)
    refine l_pure rfl (s_asg  rfl ?_)
    refine l_pure rfl (s_asg  rfl ?_)
    refine l_nil ?_
    repeat (with_reducible first | refine c_seq ?_ | refine c_block ?_ | refine c_skip ?_ | refine x_then ?_ | refine x_block ?_)
    refine c_reg ?_
    refine l_heavy rfl (s_call Tryz.call19 rfl (Pawake_ok _) ?_)
    rintro r wa ⟨rfl, hBa⟩
    replace hS := hS.grow hBa
    replace hva := hva.below hBa
    replace hvb := hvb.below hBa
    replace hvd := hvd.below hBa
    replace hve := hve.below hBa
    refine l_pure rfl (s_move  rfl ?_)
    refine l_pure (gd_yes 59 (by kernel_rfl) rfl rfl) (s_move  rfl ?_)
    refine l_pure (gd_yes 59 (by kernel_rfl) rfl rfl) (s_move  rfl ?_)
    refine l_pure (gd_yes 59 (by kernel_rfl) rfl rfl) (s_eql  rfl rfl ?_)
    refine l_pure rfl (s_pick (vb rfl rfl) rfl ?_)
    refine l_pure rfl (s_move  rfl ?_)
    refine l_pure (gd_yes 64 (by kernel_rfl) rfl (decide_eq_true rfl)) (s_move  rfl ?_)
    refine l_pure (gd_yes 64 (by kernel_rfl) rfl (decide_eq_true rfl)) (s_move  rfl ?_)
    refine l_heavy (gd_yes 64 (by kernel_rfl) rfl (decide_eq_true rfl)) (s_call Tryz.call26 rfl (SameCents_ok _ _ _ _ _ hva hvb) ?_)
    rintro r w7 ⟨rfl, hB7⟩
    replace hS := hS.grow hB7
    replace hvd := hvd.below hB7
    replace hve := hve.below hB7
    refine l_pure rfl (s_pick (vb rfl (decide_eq_true rfl)) rfl ?_)
    refine l_pure rfl (s_move  rfl ?_)
    refine l_pure (gd_yes 69 (by kernel_rfl) rfl (decide_eq_true rfl)) (s_move  rfl ?_)
    refine l_pure (gd_yes 69 (by kernel_rfl) rfl (decide_eq_true rfl)) (s_move  rfl ?_)
    refine l_pure (gd_yes 69 (by kernel_rfl) rfl (decide_eq_true rfl)) (s_eql  rfl rfl ?_)
    refine l_pure rfl (s_pick (vb rfl (decide_eq_true rfl)) rfl ?_)
    refine l_pure rfl (s_move  rfl ?_)
    refine l_pure (gd_yes 74 (by kernel_rfl) rfl (decide_eq_true rfl)) (s_move  rfl ?_)
    refine l_pure (gd_yes 74 (by kernel_rfl) rfl (decide_eq_true rfl)) (s_move  rfl ?_)
    refine l_heavy (gd_yes 74 (by kernel_rfl) rfl (decide_eq_true rfl)) (s_call Tryz.call26 rfl (SameCents_ok _ _ _ _ _ hvd hve) ?_)
    rintro r w8 ⟨rfl, hB8⟩
    replace hS := hS.grow hB8
    refine l_pure rfl (s_pick (vb rfl (decide_eq_true rfl)) rfl ?_)
    refine l_pure rfl (s_asg  rfl ?_)
    refine l_nil ?_
    repeat (with_reducible first | refine c_seq ?_ | refine c_block ?_ | refine c_skip ?_ | refine x_then ?_ | refine x_block ?_)
    refine c_ret ?_
    repeat (with_reducible first | refine x_then_ret ?_ | refine x_block_ret ?_)
    refine r_one rfl rfl ?_
    exact ⟨vb rfl (decide_eq_true rfl), hS.below⟩
  · repeat (with_reducible first | refine c_seq ?_ | refine c_block ?_ | refine c_skip ?_ | refine x_then ?_ | refine x_block ?_)
    refine c_reg ?_
    refine l_pure rfl (s_move  rfl ?_)
    refine l_pure rfl (s_lenr  rfl (hp.below hS.below) ⟨_, Tryz.underlying25⟩ ?_)
    refine l_pure rfl (s_gtr  rfl rfl ?_)
    refine l_pure rfl (s_move  rfl ?_)
    refine l_no (gno_yes 22 (by kernel_rfl) rfl (decide_eq_true (by omega))) ?_
    refine l_no (gno_yes 22 (by kernel_rfl) rfl (decide_eq_true (by omega))) ?_
    refine l_no (gno_yes 22 (by kernel_rfl) rfl (decide_eq_true (by omega))) ?_
    refine l_pure rfl (s_pick (vb rfl (decide_eq_true (by omega))) rfl ?_)
    refine l_nil ?_
    repeat (with_reducible first | refine c_seq ?_ | refine c_block ?_ | refine c_skip ?_ | refine x_then ?_ | refine x_block ?_)
    refine c_yes rfl (rfl) ?_
    repeat (with_reducible first | refine c_seq ?_ | refine c_block ?_ | refine c_skip ?_ | refine x_then ?_ | refine x_block ?_)
    refine c_reg ?_
    refine l_heavy rfl (s_call Tryz.call19 rfl (Pawake_ok _) ?_)
    rintro _ wc2 ⟨rfl, hBc2⟩
    replace hS := hS.grow hBc2
    refine l_pure rfl (s_asg  rfl ?_)
    refine l_nil ?_
    repeat (with_reducible first | refine c_seq ?_ | refine c_block ?_ | refine c_skip ?_ | refine x_then ?_ | refine x_block ?_)
    refine c_ret ?_
    repeat (with_reducible first | refine x_then_ret ?_ | refine x_block_ret ?_)
    refine r_one rfl rfl ?_
    exact ⟨rfl, hS.below⟩
set_option maxHeartbeats 1000000 in
theorem PayoutInterim_ok (vp vf vl vc : Value) (paid : List Int) (fin : List RR) (l c : List Nat) (w : World) (hp : Sl enI 1 w vp paid) (hpb : ∀ x ∈ paid, -9223372036854775808 ≤ x ∧ x ≤ 9223372036854775807) (hf : Sl encR 3 w vf fin) (hl : Sl (uk .u16) 1 w vl l) (hlb : ∀ x ∈ l, x < 65536) (hc : Sl (uk .u16) 1 w vc c) (hcb0 : ∀ x ∈ c, x < 65536) :
    Ret Tryz.prog 9 #[vp, vf, vl, vc] w fun v w' => v = .bool true ∧ Below w.heap.size w w' := by
  have hM : MX = 1099511627776 := rfl
  have hS := St.init w
  have hpm := hp.maxLen
  refine enter Tryz.func9 rfl Tryz.ntmps9 rfl ?_
  repeat (with_reducible first | refine c_seq ?_ | refine c_block ?_ | refine c_skip ?_ | refine x_then ?_ | refine x_block ?_)
  refine c_reg ?_
  refine l_pure rfl (s_asg  rfl ?_)
  refine l_nil ?_
  repeat (with_reducible first | refine c_seq ?_ | refine c_block ?_ | refine c_skip ?_ | refine x_then ?_ | refine x_block ?_)
  by_cases hlen : paid.length ≤ 8
  · repeat (with_reducible first | refine c_seq ?_ | refine c_block ?_ | refine c_skip ?_ | refine x_then ?_ | refine x_block ?_)
    refine c_reg ?_
    refine l_pure rfl (s_move  rfl ?_)
    refine l_pure rfl (s_lenr  rfl (hp.below hS.below) ⟨_, Tryz.underlying25⟩ ?_)
    refine l_pure rfl (s_gtr  rfl rfl ?_)
    refine l_pure rfl (s_move  rfl ?_)
    refine l_pure (gd_yes 22 (by kernel_rfl) rfl (decide_eq_false (by omega))) (s_move  rfl ?_)
    refine l_heavy (gd_yes 22 (by kernel_rfl) rfl (decide_eq_false (by omega))) (s_call Tryz.call11 rfl (FewRats_ok vf fin 8 _ (hf.below hS.below)) ?_)
    rintro r w0 ⟨rfl, hB0⟩
    replace hS := hS.grow hB0
    refine l_pure (gd_yes 22 (by kernel_rfl) rfl (decide_eq_false (by omega))) (s_not  rfl ?_)
    refine l_pure rfl (s_pick (vb rfl (decide_eq_false (by omega))) rfl ?_)
    refine l_nil ?_
    repeat (with_reducible first | refine c_seq ?_ | refine c_block ?_ | refine c_skip ?_ | refine x_then ?_ | refine x_block ?_)
    cases hfw : decide ((fin.length : Int) ≤ 8) && fin.all few with
    | false =>
      refine c_yes rfl (rfl) ?_
      repeat (with_reducible first | refine c_seq ?_ | refine c_block ?_ | refine c_skip ?_ | refine x_then ?_ | refine x_block ?_)
      refine c_reg ?_
      refine l_heavy rfl (s_call Tryz.call19 rfl (Pawake_ok _) ?_)
      rintro _ wc1 ⟨rfl, hBc1⟩
      replace hS := hS.grow hBc1
      refine l_pure rfl (s_asg  rfl ?_)
      refine l_nil ?_
      repeat (with_reducible first | refine c_seq ?_ | refine c_block ?_ | refine c_skip ?_ | refine x_then ?_ | refine x_block ?_)
      refine c_ret ?_
      repeat (with_reducible first | refine x_then_ret ?_ | refine x_block_ret ?_)
      refine r_one rfl rfl ?_
      exact ⟨rfl, hS.below⟩
    | true =>
    rw [Bool.and_eq_true, decide_eq_true_eq] at hfw
    have hRB := few_RB hfw.2
    have hx := amts_RB l 8
    have hxl := amts_len l 8
    have hcb := ctF_bound c (amts l 8).length
    refine c_no rfl (rfl) ?_
    repeat (with_reducible first | refine c_seq ?_ | refine c_block ?_ | refine c_skip ?_ | refine x_then ?_ | refine x_block ?_)
    refine c_reg ?_
    refine l_pure rfl (s_move  rfl ?_)
    refine l_pure rfl (s_move  rfl ?_)
    refine l_heavy rfl (s_call Tryz.call35 rfl (Interim_ok vp vf paid fin 24 _ (hp.below hS.below) hpb (hf.below hS.below) hRB (by omega) (by omega)) ?_)
    rintro r w1 ⟨⟨va, rfl, hva⟩, hB1⟩
    replace hS := hS.grow hB1
    refine l_pure rfl (s_move  rfl ?_)
    refine l_pure rfl (s_ext  rfl rfl ?_)
    refine l_pure rfl (s_ext  rfl rfl ?_)
    refine l_pure rfl (s_asg  rfl ?_)
    refine l_pure rfl (s_asg  rfl ?_)
    refine l_nil ?_
    repeat (with_reducible first | refine c_seq ?_ | refine c_block ?_ | refine c_skip ?_ | refine x_then ?_ | refine x_block ?_)
    refine c_reg ?_
    refine l_pure rfl (s_move  rfl ?_)
    refine l_pure rfl (s_move  rfl ?_)
    refine l_heavy rfl (s_call Tryz.call36 rfl (rInterim_ok vp vf paid fin 24 _ (hp.below hS.below) hpb (hf.below hS.below) hRB (by omega) (by omega)) ?_)
    rintro r w2 ⟨⟨vb_, rfl, hvb⟩, hB2⟩
    replace hS := hS.grow hB2
    replace hva := hva.below hB2
    refine l_pure rfl (s_move  rfl ?_)
    refine l_pure rfl (s_ext  rfl rfl ?_)
    refine l_pure rfl (s_ext  rfl rfl ?_)
    refine l_pure rfl (s_asg  rfl ?_)
    refine l_pure rfl (s_asg  rfl ?_)
    refine l_nil ?_
    repeat (with_reducible first | refine c_seq ?_ | refine c_block ?_ | refine c_skip ?_ | refine x_then ?_ | refine x_block ?_)
    refine c_reg ?_
    refine l_pure rfl (s_move  rfl ?_)
    refine l_heavy rfl (s_call Tryz.call23 rfl (Amounts_ok vl l 8 _ (hl.below hS.below) hlb (by decide)) ?_)
    rintro x w3 ⟨hvx, hB3⟩
    replace hS := hS.grow hB3
    replace hva := hva.below hB3
    replace hvb := hvb.below hB3
    refine l_pure rfl (s_asg  rfl ?_)
    refine l_nil ?_
    repeat (with_reducible first | refine c_seq ?_ | refine c_block ?_ | refine c_skip ?_ | refine x_then ?_ | refine x_block ?_)
    refine c_reg ?_
    refine l_pure rfl (s_move  rfl ?_)
    refine l_pure rfl (s_move  rfl ?_)
    refine l_pure rfl (s_lenr  rfl hvx ⟨_, Tryz.underlying22⟩ ?_)
    refine l_heavy rfl (s_call Tryz.call34 rfl (lawCents_ok vc c (amts l 8).length _ (hc.below hS.below) hcb0 (by omega)) ?_)
    rintro y w4 ⟨hvy, hB4⟩
    replace hS := hS.grow hB4
    replace hva := hva.below hB4
    replace hvb := hvb.below hB4
    replace hvx := hvx.below hB4
    refine l_pure rfl (s_asg  rfl ?_)
    refine l_nil ?_
    repeat (with_reducible first | refine c_seq ?_ | refine c_block ?_ | refine c_skip ?_ | refine x_then ?_ | refine x_block ?_)
    refine c_reg ?_
    refine l_pure rfl (s_move  rfl ?_)
    refine l_pure rfl (s_move  rfl ?_)
    refine l_heavy rfl (s_call Tryz.call35 rfl (Interim_ok y x _ (amts l 8) 1 _ hvy hcb hvx hx (by omega) (by omega)) ?_)
    rintro r w5 ⟨⟨vd, rfl, hvd⟩, hB5⟩
    replace hS := hS.grow hB5
    replace hva := hva.below hB5
    replace hvb := hvb.below hB5
    replace hvx := hvx.below hB5
    replace hvy := hvy.below hB5
    refine l_pure rfl (s_move  rfl ?_)
    refine l_pure rfl (s_ext  rfl rfl ?_)
    refine l_pure rfl (s_ext  rfl rfl ?_)
    refine l_pure rfl (s_asg  rfl ?_)
    refine l_pure rfl (s_asg  rfl ?_)
    refine l_nil ?_
    repeat (with_reducible first | refine c_seq ?_ | refine c_block ?_ | refine c_skip ?_ | refine x_then ?_ | refine x_block ?_)
    refine c_reg ?_
    refine l_pure rfl (s_move  rfl ?_)
    refine l_pure rfl (s_move  rfl ?_)
    refine l_heavy rfl (s_call Tryz.call36 rfl (rInterim_ok y x _ (amts l 8) 1 _ hvy hcb hvx hx (by omega) (by omega)) ?_)
    rintro r w6 ⟨⟨ve, rfl, hve⟩, hB6⟩
    replace hS := hS.grow hB6
    replace hva := hva.below hB6
    replace hvb := hvb.below hB6
    replace hvd := hvd.below hB6
    refine l_pure rfl (s_move  rfl ?_)
    refine l_pure rfl (s_ext  rfl rfl ?_)
    refine l_pure rfl (s_ext  rfl rfl ?_)
    refine l_pure rfl (s_asg  rfl ?_)
    refine l_pure rfl (s_asg  rfl ?_)
    refine l_nil ?_
    repeat (with_reducible first | refine c_seq ?_ | refine c_block ?_ | refine c_skip ?_ | refine x_then ?_ | refine x_block ?_)
    refine c_reg ?_
    refine l_heavy rfl (s_call Tryz.call19 rfl (Pawake_ok _) ?_)
    rintro r wa ⟨rfl, hBa⟩
    replace hS := hS.grow hBa
    replace hva := hva.below hBa
    replace hvb := hvb.below hBa
    replace hvd := hvd.below hBa
    replace hve := hve.below hBa
    refine l_pure rfl (s_move  rfl ?_)
    refine l_pure (gd_yes 59 (by kernel_rfl) rfl rfl) (s_move  rfl ?_)
    refine l_pure (gd_yes 59 (by kernel_rfl) rfl rfl) (s_move  rfl ?_)
    refine l_pure (gd_yes 59 (by kernel_rfl) rfl rfl) (s_eql  rfl rfl ?_)
    refine l_pure rfl (s_pick (vb rfl rfl) rfl ?_)
    refine l_pure rfl (s_move  rfl ?_)
    refine l_pure (gd_yes 64 (by kernel_rfl) rfl (decide_eq_true rfl)) (s_move  rfl ?_)
    refine l_pure (gd_yes 64 (by kernel_rfl) rfl (decide_eq_true rfl)) (s_move  rfl ?_)
    refine l_heavy (gd_yes 64 (by kernel_rfl) rfl (decide_eq_true rfl)) (s_call Tryz.call26 rfl (SameCents_ok _ _ _ _ _ hva hvb) ?_)
    rintro r w7 ⟨rfl, hB7⟩
    replace hS := hS.grow hB7
    replace hvd := hvd.below hB7
    replace hve := hve.below hB7
    refine l_pure rfl (s_pick (vb rfl (decide_eq_true rfl)) rfl ?_)
    refine l_pure rfl (s_move  rfl ?_)
    refine l_pure (gd_yes 69 (by kernel_rfl) rfl (decide_eq_true rfl)) (s_move  rfl ?_)
    refine l_pure (gd_yes 69 (by kernel_rfl) rfl (decide_eq_true rfl)) (s_move  rfl ?_)
    refine l_pure (gd_yes 69 (by kernel_rfl) rfl (decide_eq_true rfl)) (s_eql  rfl rfl ?_)
    refine l_pure rfl (s_pick (vb rfl (decide_eq_true rfl)) rfl ?_)
    refine l_pure rfl (s_move  rfl ?_)
    refine l_pure (gd_yes 74 (by kernel_rfl) rfl (decide_eq_true rfl)) (s_move  rfl ?_)
    refine l_pure (gd_yes 74 (by kernel_rfl) rfl (decide_eq_true rfl)) (s_move  rfl ?_)
    refine l_heavy (gd_yes 74 (by kernel_rfl) rfl (decide_eq_true rfl)) (s_call Tryz.call26 rfl (SameCents_ok _ _ _ _ _ hvd hve) ?_)
    rintro r w8 ⟨rfl, hB8⟩
    replace hS := hS.grow hB8
    refine l_pure rfl (s_pick (vb rfl (decide_eq_true rfl)) rfl ?_)
    refine l_pure rfl (s_asg  rfl ?_)
    refine l_nil ?_
    repeat (with_reducible first | refine c_seq ?_ | refine c_block ?_ | refine c_skip ?_ | refine x_then ?_ | refine x_block ?_)
    refine c_ret ?_
    repeat (with_reducible first | refine x_then_ret ?_ | refine x_block_ret ?_)
    refine r_one rfl rfl ?_
    exact ⟨vb rfl (decide_eq_true rfl), hS.below⟩
  · repeat (with_reducible first | refine c_seq ?_ | refine c_block ?_ | refine c_skip ?_ | refine x_then ?_ | refine x_block ?_)
    refine c_reg ?_
    refine l_pure rfl (s_move  rfl ?_)
    refine l_pure rfl (s_lenr  rfl (hp.below hS.below) ⟨_, Tryz.underlying25⟩ ?_)
    refine l_pure rfl (s_gtr  rfl rfl ?_)
    refine l_pure rfl (s_move  rfl ?_)
    refine l_no (gno_yes 22 (by kernel_rfl) rfl (decide_eq_true (by omega))) ?_
    refine l_no (gno_yes 22 (by kernel_rfl) rfl (decide_eq_true (by omega))) ?_
    refine l_no (gno_yes 22 (by kernel_rfl) rfl (decide_eq_true (by omega))) ?_
    refine l_pure rfl (s_pick (vb rfl (decide_eq_true (by omega))) rfl ?_)
    refine l_nil ?_
    repeat (with_reducible first | refine c_seq ?_ | refine c_block ?_ | refine c_skip ?_ | refine x_then ?_ | refine x_block ?_)
    refine c_yes rfl (rfl) ?_
    repeat (with_reducible first | refine c_seq ?_ | refine c_block ?_ | refine c_skip ?_ | refine x_then ?_ | refine x_block ?_)
    refine c_reg ?_
    refine l_heavy rfl (s_call Tryz.call19 rfl (Pawake_ok _) ?_)
    rintro _ wc2 ⟨rfl, hBc2⟩
    replace hS := hS.grow hBc2
    refine l_pure rfl (s_asg  rfl ?_)
    refine l_nil ?_
    repeat (with_reducible first | refine c_seq ?_ | refine c_block ?_ | refine c_skip ?_ | refine x_then ?_ | refine x_block ?_)
    refine c_ret ?_
    repeat (with_reducible first | refine x_then_ret ?_ | refine x_block_ret ?_)
    refine r_one rfl rfl ?_
    exact ⟨rfl, hS.below⟩
end Go.Proofs.YtmapmdldlcfjhaaGreatDoor
