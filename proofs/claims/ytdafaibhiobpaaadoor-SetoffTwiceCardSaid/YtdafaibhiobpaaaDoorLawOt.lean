/-
  The law that after set-off at most one of two parties owes the other one: its walk.
-/
import Derived.Test.YtdafaibhiobpaaaDoorLawOs
namespace Go.Proofs.YtdafaibhiobpaaaDoor
open Go Go.RowKit Go.Sx

theorem L_sumIf16 {p : Nat → Bool} {q : Nat → Rat} {k : Nat} (hk : k ≤ 16) (h : ∀ i, i < k → L (q i) ≤ 200) : L (sumIf k p q) ≤ 4000 := by
  have h1 := L_sumIf k p q 200 h
  have h2 : k * (200 + 1) ≤ 16 * (200 + 1) := Nat.mul_le_mul_right _ hk
  omega
set_option maxHeartbeats 4000000 in
theorem SetoffOneSided_ok (vl : Value) (a : List (Nat → Nat)) (cc ss xx yy : Nat) (w : World) (hv : Sl enc5 5 w vl a) (hb : ∀ x ∈ a, ∀ i, i < 5 → x i < 65536) (hcc : cc < 256) :
    Ret Tryd.prog 9 #[vl, .int .u8 cc, .int .u8 ss, .int .u8 xx, .int .u8 yy] w fun v w' => v = .bool true ∧ Below w.heap.size w w' := by
  have hM : MX = 1099511627776 := rfl
  have hS := St.init w
  have hs40 : ss % 40 < 40 := Nat.mod_lt _ (by decide)
  have hx4 : xx % 4 < 4 := Nat.mod_lt _ (by decide)
  have hy3 : yy % 3 < 3 := Nat.mod_lt _ (by decide)
  obtain ⟨s, hs⟩ : ∃ s, s = ss % 40 := ⟨_, rfl⟩
  obtain ⟨l, hl⟩ : ∃ l, l = obsL a 16 := ⟨_, rfl⟩
  have hE := obsL_E a
  have hC := obsL_chk a hcc (show s < 256 by omega)
  have hB := obsL_B a 16
  have hlen : (obsL a 16).length ≤ 16 := by rw [obsL_len]; omega
  have hamt := amt_ofQ a 16
  rw [← hl] at hE hC hB hlen hamt
  have hN := nng_of hE
  obtain ⟨p, hp⟩ : ∃ p, p = xx % 4 := ⟨_, rfl⟩
  obtain ⟨q, hq⟩ : ∃ q, q = creOf (xx % 4) (yy % 3) := ⟨_, rfl⟩
  obtain ⟨hq4, hqp⟩ := creOf_b (xx % 4) (yy % 3) hy3
  rw [← hq] at hq4 hqp
  rw [← hp] at hqp
  have hpr : pairB 4 p q = true := decide_eq_true (by omega)
  have hpr2 : pairB 4 q p = true := decide_eq_true (by omega)
  have eA : amtE 4 l cc s p q = 0 := by unfold amtE; rw [if_neg (fun g => g hC), if_neg (by rw [hpr]; decide)]
  have eA2 : amtE 4 l cc s q p = 0 := by unfold amtE; rw [if_neg (fun g => g hC), if_neg (by rw [hpr2]; decide)]
  obtain ⟨m, hm⟩ : ∃ m, m = mQ l cc s p q := ⟨_, rfl⟩
  have rA : amtR2 4 l cc s p q = ofQ m := by rw [hm]; exact if_pos eA
  have rA2 : amtR2 4 l cc s q p = ofQ m := by rw [hm, mQ_comm]; exact if_pos eA2
  refine enter Tryd.func9 rfl Tryd.ntmps9 rfl ?_
  repeat (with_reducible first | refine c_seq ?_ | refine c_block ?_ | refine c_skip ?_ | refine x_then ?_ | refine x_block ?_)
  refine c_reg ?_
  refine l_pure rfl (s_asg  rfl ?_)
  refine l_nil ?_
  repeat (with_reducible first | refine c_seq ?_ | refine c_block ?_ | refine c_skip ?_ | refine x_then ?_ | refine x_block ?_)
  refine c_reg ?_
  refine l_pure rfl (s_move  rfl ?_)
  refine l_heavy rfl (s_call Tryd.call17 rfl (Obligations_ok vl a _ hv hb) ?_)
  rintro vo w1 ⟨LO0, hG0, hSO⟩
  rw [← hl] at hG0
  have ho := hG0.sl hSO encOb_len
  have hW := bt hS.below hSO.below
  clear hS
  have hS := St.init w1
  refine l_pure rfl (s_asg  rfl ?_)
  refine l_nil ?_
  repeat (with_reducible first | refine c_seq ?_ | refine c_block ?_ | refine c_skip ?_ | refine x_then ?_ | refine x_block ?_)
  refine c_reg ?_
  refine l_pure rfl (s_move  rfl ?_)
  refine l_pure rfl (s_rem  rfl rfl (by omega) (r := ((xx % 4 : Nat) : Int)) (by exact rem_nat xx 4) ?_)
  refine l_pure rfl (s_conv  rfl Tryd.underlying3 ⟨_, Tryd.underlying5⟩ (r := ((xx % 4 : Nat) : Int)) (by exact wr_i64 _ ⟨rfl, by omega, by omega⟩) ?_)
  refine l_pure rfl (s_move  rfl ?_)
  refine l_pure rfl (s_rem  rfl rfl (by omega) (r := ((yy % 3 : Nat) : Int)) (by exact rem_nat yy 3) ?_)
  refine l_pure rfl (s_conv  rfl Tryd.underlying3 ⟨_, Tryd.underlying5⟩ (r := ((yy % 3 : Nat) : Int)) (by exact wr_i64 _ ⟨rfl, by omega, by omega⟩) ?_)
  refine l_pure rfl (s_asg  rfl ?_)
  refine l_pure rfl (s_asg  rfl ?_)
  refine l_nil ?_
  repeat (with_reducible first | refine c_seq ?_ | refine c_block ?_ | refine c_skip ?_ | refine x_then ?_ | refine x_block ?_)
  refine c_forget (fun ρ' => ρ' 1 = .int .u8 cc ∧ ρ' 2 = .int .u8 ss ∧ ρ' 11 = vo ∧ ρ' 12 = .int .i64 ((xx % 4 : Nat) : Int) ∧ ρ' 13 = .int .i64 ((yy % 3 : Nat) : Int) ∧ True) ⟨rfl, rfl, rfl, rfl, rfl, trivial⟩ ?_
  rintro ρk1 ⟨hk1_1, hk1_2, hk1_11, hk1_12, hk1_13, -⟩
  repeat (with_reducible first | refine c_seq ?_ | refine c_block ?_ | refine c_skip ?_ | refine x_then ?_ | refine x_block ?_)
  refine c_reg ?_
  refine l_pure rfl (s_move  hk1_13 ?_)
  refine l_pure rfl (s_move  hk1_12 ?_)
  refine l_pure rfl (s_geq  rfl rfl ?_)
  refine l_nil ?_
  repeat (with_reducible first | refine c_seq ?_ | refine c_block ?_ | refine c_skip ?_ | refine x_then ?_ | refine x_block ?_)
  refine c_cut1 (fun ρ w' => ρ 1 = .int .u8 cc ∧ ρ 2 = .int .u8 ss ∧ ρ 11 = vo ∧ ρ 12 = .int .i64 p ∧ ρ 13 = .int .i64 q ∧ St w1 w' []) ?_ ?_
  · by_cases hle : xx % 4 ≤ yy % 3
    · have hq2 : q = yy % 3 + 1 := by rw [hq]; exact if_pos hle
      refine c_yes rfl (decide_eq_true (by omega)) ?_
      repeat (with_reducible first | refine c_seq ?_ | refine c_block ?_ | refine c_skip ?_ | refine x_then ?_ | refine x_block ?_)
      refine c_reg ?_
      refine l_pure rfl (s_move  hk1_13 ?_)
      refine l_pure rfl (s_add  rfl rfl (IntWalk.i64_in _ (by omega)) ?_)
      refine l_pure rfl (s_asg  rfl ?_)
      refine l_nil ?_
      repeat (with_reducible first | refine c_seq ?_ | refine c_block ?_ | refine c_skip ?_ | refine x_then ?_ | refine x_block ?_)
      exact ⟨_, rfl, by assumption, by assumption, by assumption, by rw [hp]; assumption, vi rfl (by omega), hS⟩
    · have hq2 : q = yy % 3 := by rw [hq]; exact if_neg hle
      refine c_no rfl (decide_eq_false (by omega)) ?_
      repeat (with_reducible first | refine c_seq ?_ | refine c_block ?_ | refine c_skip ?_ | refine x_then ?_ | refine x_block ?_)
      exact ⟨_, rfl, by assumption, by assumption, by assumption, by rw [hp]; assumption, by rw [hq2]; assumption, hS⟩
  clear hS
  rintro ρ w2 ⟨h1, h2, h11, h12, h13, hS⟩
  repeat (with_reducible first | refine c_seq ?_ | refine c_block ?_ | refine c_skip ?_ | refine x_then ?_ | refine x_block ?_)
  refine c_reg ?_
  refine l_pure rfl (s_move  h1 ?_)
  refine l_pure rfl (s_conv  rfl Tryd.underlying3 ⟨_, Tryd.underlying5⟩ (IntWalk.i64_in _ (by omega)) ?_)
  refine l_pure rfl (s_move  h2 ?_)
  refine l_pure rfl (s_rem  rfl rfl (by omega) (r := ((ss % 40 : Nat) : Int)) (by exact rem_nat ss 40) ?_)
  refine l_pure rfl (s_conv  rfl Tryd.underlying3 ⟨_, Tryd.underlying5⟩ (r := ((ss % 40 : Nat) : Int)) (by exact wr_i64 _ ⟨rfl, by omega, by omega⟩) ?_)
  refine l_pure rfl (s_asg  rfl ?_)
  refine l_pure rfl (s_asg  rfl ?_)
  refine l_nil ?_
  repeat (with_reducible first | refine c_seq ?_ | refine c_block ?_ | refine c_skip ?_ | refine x_then ?_ | refine x_block ?_)
  rw [← hs]
  repeat (with_reducible first | refine c_seq ?_ | refine c_block ?_ | refine c_skip ?_ | refine x_then ?_ | refine x_block ?_)
  refine c_forget (fun ρ' => ρ' 11 = vo ∧ ρ' 12 = .int .i64 p ∧ ρ' 13 = .int .i64 q ∧ ρ' 14 = .int .i64 cc ∧ ρ' 15 = .int .i64 s ∧ True) ⟨h11, h12, h13, rfl, rfl, trivial⟩ ?_
  rintro ρk2 ⟨hk2_11, hk2_12, hk2_13, hk2_14, hk2_15, -⟩
  repeat (with_reducible first | refine c_seq ?_ | refine c_block ?_ | refine c_skip ?_ | refine x_then ?_ | refine x_block ?_)
  refine c_reg ?_
  refine l_pure rfl (s_move  hk2_11 ?_)
  refine l_pure rfl (s_move  hk2_14 ?_)
  refine l_pure rfl (s_move  hk2_15 ?_)
  refine l_heavy rfl (s_call Tryd.call18 rfl (OApply_ok 4 cc s _ l 1 _ (ho.below hS.below) hB (by rw [hM]; decide) (by omega)) ?_)
  rintro r w3 ⟨⟨vr, rfl, hr⟩, hB3⟩
  rw [hC]
  rw [show appL 4 l cc s = tab l.length fun i => ofQ (finQ l cc s i) from if_pos hC] at hr
  replace hS := hS.grow hB3
  replace ho := ho.below hS.below
  replace hW := bt hW hS.below
  clear hS
  have hS := St.init w3
  have htl : (tab l.length fun i => ofQ (finQ l cc s i)).length = l.length := tab_len _ _
  have hLf : ∀ i, i < l.length → L (finQ l cc s i) ≤ 84 := fun i hi => by
    have := L_finQ hB (by omega) cc s hi
    omega
  have hLo : ∀ i, i < l.length → L (oQ l i) ≤ 1 := fun i hi => L_oQ hB hi
  refine l_pure rfl (s_move  rfl ?_)
  refine l_pure rfl (s_ext  rfl rfl ?_)
  refine l_pure rfl (s_ext  rfl rfl ?_)
  refine l_pure rfl (s_asg  rfl ?_)
  refine l_pure rfl (s_asg  rfl ?_)
  refine l_nil ?_
  repeat (with_reducible first | refine c_seq ?_ | refine c_block ?_ | refine c_skip ?_ | refine x_then ?_ | refine x_block ?_)
  refine c_forget (fun ρ' => ρ' 11 = vo ∧ ρ' 12 = .int .i64 p ∧ ρ' 13 = .int .i64 q ∧ ρ' 14 = .int .i64 cc ∧ ρ' 15 = .int .i64 s ∧ ρ' 16 = vr ∧ ρ' 17 = .int .i64 0 ∧ True) ⟨hk2_11, hk2_12, hk2_13, hk2_14, hk2_15, rfl, rfl, trivial⟩ ?_
  rintro ρk3 ⟨hk3_11, hk3_12, hk3_13, hk3_14, hk3_15, hk3_16, hk3_17, -⟩
  repeat (with_reducible first | refine c_seq ?_ | refine c_block ?_ | refine c_skip ?_ | refine x_then ?_ | refine x_block ?_)
  refine c_reg ?_
  refine l_pure rfl (s_move  hk3_11 ?_)
  refine l_pure rfl (s_move  hk3_14 ?_)
  refine l_pure rfl (s_move  hk3_15 ?_)
  refine l_pure rfl (s_move  hk3_12 ?_)
  refine l_pure rfl (s_move  hk3_13 ?_)
  refine l_heavy rfl (s_call Tryd.call23 rfl (OAmount_ok 4 cc s p q vo l 1 _ (ho.below hS.below) hB (by rw [hM]; decide) (by omega)) ?_)
  rintro r w4 ⟨rfl, hB4⟩
  rw [rA, eA]
  replace hS := hS.grow hB4
  refine l_pure rfl (s_move  rfl ?_)
  refine l_pure rfl (s_ext  rfl rfl ?_)
  refine l_pure rfl (s_ext  rfl rfl ?_)
  refine l_heavy rfl (s_alloc  vi_26 hS ?_)
  intro b18 wz4 hS hBz4
  refine l_heavy rfl (s_sta (k := 0)  rfl rfl vi_26 hS rfl rfl rfl (Nat.le_of_ble_eq_true rfl) rfl ?_)
  intro wz5 hS
  refine l_pure rfl (s_asg  rfl ?_)
  refine l_nil ?_
  repeat (with_reducible first | refine c_seq ?_ | refine c_block ?_ | refine c_skip ?_ | refine x_then ?_ | refine x_block ?_)
  replace hS : St w3 _ [(b18, 26, encR (ofQ m))] := hS
  repeat (with_reducible first | refine c_seq ?_ | refine c_block ?_ | refine c_skip ?_ | refine x_then ?_ | refine x_block ?_)
  refine c_forget (fun ρ' => ρ' 11 = vo ∧ ρ' 12 = .int .i64 p ∧ ρ' 13 = .int .i64 q ∧ ρ' 14 = .int .i64 cc ∧ ρ' 15 = .int .i64 s ∧ ρ' 16 = vr ∧ ρ' 17 = .int .i64 0 ∧ ρ' 18 = .pointer (some ⟨b18, 0, none⟩) ∧ ρ' 19 = .int .i64 0 ∧ True) ⟨hk3_11, hk3_12, hk3_13, hk3_14, hk3_15, hk3_16, hk3_17, rfl, rfl, trivial⟩ ?_
  rintro ρk6 ⟨hk6_11, hk6_12, hk6_13, hk6_14, hk6_15, hk6_16, hk6_17, hk6_18, hk6_19, -⟩
  repeat (with_reducible first | refine c_seq ?_ | refine c_block ?_ | refine c_skip ?_ | refine x_then ?_ | refine x_block ?_)
  refine c_reg ?_
  refine l_pure rfl (s_move  hk6_11 ?_)
  refine l_pure rfl (s_move  hk6_14 ?_)
  refine l_pure rfl (s_move  hk6_15 ?_)
  refine l_pure rfl (s_move  hk6_13 ?_)
  refine l_pure rfl (s_move  hk6_12 ?_)
  refine l_heavy rfl (s_call Tryd.call23 rfl (OAmount_ok 4 cc s q p vo l 1 _ (ho.below hS.below) hB (by rw [hM]; decide) (by omega)) ?_)
  rintro r w5 ⟨rfl, hB5⟩
  rw [rA2, eA2]
  replace hS := hS.grow hB5
  refine l_pure rfl (s_move  rfl ?_)
  refine l_pure rfl (s_ext  rfl rfl ?_)
  refine l_pure rfl (s_ext  rfl rfl ?_)
  refine l_heavy rfl (s_alloc  vi_26 hS ?_)
  intro b20 wz7 hS hBz7
  refine l_heavy rfl (s_sta (k := 0)  rfl rfl vi_26 hS rfl rfl rfl (Nat.le_of_ble_eq_true rfl) rfl ?_)
  intro wz8 hS
  refine l_pure rfl (s_asg  rfl ?_)
  refine l_nil ?_
  repeat (with_reducible first | refine c_seq ?_ | refine c_block ?_ | refine c_skip ?_ | refine x_then ?_ | refine x_block ?_)
  replace hS : St w3 _ [(b20, 26, encR (ofQ m)), (b18, 26, encR (ofQ m))] := hS
  repeat (with_reducible first | refine c_seq ?_ | refine c_block ?_ | refine c_skip ?_ | refine x_then ?_ | refine x_block ?_)
  refine c_forget (fun ρ' => ρ' 11 = vo ∧ ρ' 12 = .int .i64 p ∧ ρ' 13 = .int .i64 q ∧ ρ' 14 = .int .i64 cc ∧ ρ' 15 = .int .i64 s ∧ ρ' 16 = vr ∧ ρ' 17 = .int .i64 0 ∧ ρ' 18 = .pointer (some ⟨b18, 0, none⟩) ∧ ρ' 19 = .int .i64 0 ∧ ρ' 20 = .pointer (some ⟨b20, 0, none⟩) ∧ ρ' 21 = .int .i64 0 ∧ True) ⟨hk6_11, hk6_12, hk6_13, hk6_14, hk6_15, hk6_16, hk6_17, hk6_18, hk6_19, rfl, rfl, trivial⟩ ?_
  rintro ρk9 ⟨hk9_11, hk9_12, hk9_13, hk9_14, hk9_15, hk9_16, hk9_17, hk9_18, hk9_19, hk9_20, hk9_21, -⟩
  repeat (with_reducible first | refine c_seq ?_ | refine c_block ?_ | refine c_skip ?_ | refine x_then ?_ | refine x_block ?_)
  refine c_reg ?_
  refine l_pure rfl (s_move  hk9_17 ?_)
  refine l_pure rfl (s_neq  rfl rfl ?_)
  refine l_pure rfl (s_move  rfl ?_)
  refine l_pure (gd_yes 72 (by kernel_rfl) rfl rfl) (s_move  hk9_19 ?_)
  refine l_pure (gd_yes 72 (by kernel_rfl) rfl rfl) (s_neq  rfl rfl ?_)
  refine l_pure rfl (s_pick (vb rfl rfl) rfl ?_)
  refine l_pure rfl (s_move  rfl ?_)
  refine l_pure (gd_yes 76 (by kernel_rfl) rfl rfl) (s_move  hk9_21 ?_)
  refine l_pure (gd_yes 76 (by kernel_rfl) rfl rfl) (s_neq  rfl rfl ?_)
  refine l_pure rfl (s_pick (vb rfl rfl) rfl ?_)
  refine l_pure rfl (s_move  rfl ?_)
  refine l_read (gd_yes 80 (by kernel_rfl) rfl rfl) (s_ldo (k := 1)  hk9_18 vi_26 hS rfl rfl rfl (.inl rfl) ?_)
  refine l_read (gd_yes 80 (by kernel_rfl) rfl rfl) (s_ldo (k := 0)  hk9_20 vi_26 hS rfl rfl rfl (.inl rfl) ?_)
  refine l_pure (gd_yes 80 (by kernel_rfl) rfl rfl) (s_neR  rfl rfl (r := ofQ m) (s := ofQ m) ?_)
  refine l_pure rfl (s_pick (vb rfl rfl) rfl ?_)
  refine l_pure rfl (s_move  rfl ?_)
  refine l_pure (gd_yes 85 (by kernel_rfl) rfl (decide_eq_false (by simp))) (s_move  hk9_16 ?_)
  refine l_pure (gd_yes 85 (by kernel_rfl) rfl (decide_eq_false (by simp))) (s_lenr  rfl (hr.below hS.below) ⟨_, Tryd.underlying37⟩ ?_)
  refine l_pure (gd_yes 85 (by kernel_rfl) rfl (decide_eq_false (by simp))) (s_move  hk9_11 ?_)
  refine l_pure (gd_yes 85 (by kernel_rfl) rfl (decide_eq_false (by simp))) (s_lenr  rfl (ho.below hS.below) ⟨_, Tryd.underlying22⟩ ?_)
  refine l_pure (gd_yes 85 (by kernel_rfl) rfl (decide_eq_false (by simp))) (s_neq  rfl rfl ?_)
  refine l_pure rfl (s_pick (vb rfl (decide_eq_false (by simp))) rfl ?_)
  refine l_nil ?_
  repeat (with_reducible first | refine c_seq ?_ | refine c_block ?_ | refine c_skip ?_ | refine x_then ?_ | refine x_block ?_)
  refine c_no rfl (decide_eq_false (by omega)) ?_
  repeat (with_reducible first | refine c_seq ?_ | refine c_block ?_ | refine c_skip ?_ | refine x_then ?_ | refine x_block ?_)
  refine c_forget (fun ρ' => ρ' 11 = vo ∧ ρ' 12 = .int .i64 p ∧ ρ' 13 = .int .i64 q ∧ ρ' 14 = .int .i64 cc ∧ ρ' 15 = .int .i64 s ∧ ρ' 16 = vr ∧ ρ' 18 = .pointer (some ⟨b18, 0, none⟩) ∧ True) ⟨hk9_11, hk9_12, hk9_13, hk9_14, hk9_15, hk9_16, hk9_18, trivial⟩ ?_
  rintro ρk10 ⟨hk10_11, hk10_12, hk10_13, hk10_14, hk10_15, hk10_16, hk10_18, -⟩
  repeat (with_reducible first | refine c_seq ?_ | refine c_block ?_ | refine c_skip ?_ | refine x_then ?_ | refine x_block ?_)
  refine c_reg ?_
  refine l_heavy rfl (s_alloc  vi_26 hS ?_)
  intro b22 wz11 hS hBz11
  refine l_heavy rfl (s_alloc  vi_26 hS ?_)
  intro b23 wz12 hS hBz12
  refine l_heavy rfl (s_alloc  vi_26 hS ?_)
  intro b24 wz13 hS hBz13
  refine l_nil ?_
  repeat (with_reducible first | refine c_seq ?_ | refine c_block ?_ | refine c_skip ?_ | refine x_then ?_ | refine x_block ?_)
  replace hS : St w3 _ [(b24, 26, encR zRR), (b23, 26, encR zRR), (b22, 26, encR zRR), (b20, 26, encR (ofQ m)), (b18, 26, encR (ofQ m))] := hS
  rw [encR_zero] at hS
  repeat (with_reducible first | refine c_seq ?_ | refine c_block ?_ | refine c_skip ?_ | refine x_then ?_ | refine x_block ?_)
  refine c_forget (fun ρ' => ρ' 11 = vo ∧ ρ' 12 = .int .i64 p ∧ ρ' 13 = .int .i64 q ∧ ρ' 14 = .int .i64 cc ∧ ρ' 15 = .int .i64 s ∧ ρ' 16 = vr ∧ ρ' 18 = .pointer (some ⟨b18, 0, none⟩) ∧ ρ' 22 = .pointer (some ⟨b22, 0, none⟩) ∧ ρ' 23 = .pointer (some ⟨b23, 0, none⟩) ∧ ρ' 24 = .pointer (some ⟨b24, 0, none⟩) ∧ True) ⟨hk10_11, hk10_12, hk10_13, hk10_14, hk10_15, hk10_16, hk10_18, rfl, rfl, rfl, trivial⟩ ?_
  rintro ρk14 ⟨hk14_11, hk14_12, hk14_13, hk14_14, hk14_15, hk14_16, hk14_18, hk14_22, hk14_23, hk14_24, -⟩
  repeat (with_reducible first | refine c_seq ?_ | refine c_block ?_ | refine c_skip ?_ | refine x_then ?_ | refine x_block ?_)
  refine c_reg ?_
  refine l_pure rfl (s_move  hk14_11 ?_)
  refine l_pure rfl (s_lenr  rfl (ho.below hS.below) ⟨_, Tryd.underlying22⟩ ?_)
  refine l_pure rfl (s_move  rfl ?_)
  refine l_nil ?_
  repeat (with_reducible first | refine c_seq ?_ | refine c_skip ?_ | refine x_then ?_ | refine x_block ?_)
  refine c_cut1 (fun ρ w' => ρ 18 = .pointer (some ⟨b18, 0, none⟩) ∧ ρ 22 = .pointer (some ⟨b22, 0, none⟩) ∧ ρ 23 = .pointer (some ⟨b23, 0, none⟩) ∧ ρ 24 = .pointer (some ⟨b24, 0, none⟩) ∧
      St w3 w' [(b24, 26, encR (ofQ (sumIf l.length (goes l cc s p q) fun i => oQ l i - finQ l cc s i))), (b23, 26, encR (ofQ (sumIf l.length (goes l cc s q p) (finQ l cc s)))), (b22, 26, encR (ofQ (sumIf l.length (goes l cc s p q) (finQ l cc s)))), (b20, 26, encR (ofQ m)), (b18, 26, encR (ofQ m))]) ?_ ?_
  · repeat (with_reducible first | refine c_seq ?_ | refine c_block ?_ | refine c_skip ?_ | refine x_then ?_ | refine x_block ?_)
    refine c_loop (σ := Nat) (fun i ρ w' => i ≤ l.length ∧ ρ 12 = .int .i64 p ∧ ρ 13 = .int .i64 q ∧ ρ 14 = .int .i64 cc ∧ ρ 15 = .int .i64 s ∧ ρ 16 = vr ∧ ρ 18 = .pointer (some ⟨b18, 0, none⟩) ∧ ρ 22 = .pointer (some ⟨b22, 0, none⟩) ∧ ρ 23 = .pointer (some ⟨b23, 0, none⟩) ∧ ρ 24 = .pointer (some ⟨b24, 0, none⟩) ∧ ρ 92 = vo ∧ ρ 93 = .int .i64 l.length ∧ ρ 94 = .int .i64 i ∧
        St w3 w' [(b24, 26, encR (ofQ (sumIf i (goes l cc s p q) fun i => oQ l i - finQ l cc s i))), (b23, 26, encR (ofQ (sumIf i (goes l cc s q p) (finQ l cc s)))), (b22, 26, encR (ofQ (sumIf i (goes l cc s p q) (finQ l cc s)))), (b20, 26, encR (ofQ m)), (b18, 26, encR (ofQ m))]) (fun i => l.length - i) 0
      ⟨Nat.zero_le _, by assumption, by assumption, by assumption, by assumption, by assumption, by assumption, by assumption, by assumption, by assumption, rfl, rfl, rfl, hS⟩ ?_
    clear hS
    rintro i ρ w6 ⟨hi, h12, h13, h14, h15, h16, h18, h22, h23, h24, h92, h93, h94, hS⟩
    repeat (with_reducible first | refine c_seq ?_ | refine c_block ?_ | refine c_skip ?_ | refine x_then ?_ | refine x_block ?_)
    refine c_reg ?_
    refine l_pure rfl (s_lss  h94 h93 ?_)
    refine l_nil ?_
    repeat (with_reducible first | refine c_seq ?_ | refine c_block ?_ | refine c_skip ?_ | refine x_then ?_ | refine x_block ?_)
    by_cases hlt : i < l.length
    · refine c_yes rfl (decide_eq_true (by omega)) ?_
      repeat (with_reducible first | refine c_seq ?_ | refine c_block ?_ | refine c_skip ?_ | refine x_then ?_ | refine x_block ?_)
      obtain ⟨o, hoi⟩ : ∃ o, o = gO l i := ⟨_, rfl⟩
      have hpa : o.amt = ofQ (oQ l i) := by rw [hoi]; exact hamt i hlt
      obtain ⟨f, hf⟩ : ∃ f, f = finQ l cc s i := ⟨_, rfl⟩
      have hgi : (tab l.length fun i => ofQ (finQ l cc s i)).getD i zRR = ofQ f := by rw [hf]; exact fin_get hlt
      have hLi := hLf i hlt
      have hLi2 := hLo i hlt
      rw [← hf] at hLi
      have hg1 : goes l cc s p q i = (decide (o.deb = p) && decide (o.cre = q) && eligB o cc s) := by rw [hoi]; rfl
      have hg2 : goes l cc s q p i = (decide (o.deb = q) && decide (o.cre = p) && eligB o cc s) := by rw [hoi]; rfl
      obtain ⟨A, hA⟩ : ∃ A, A = sumIf i (goes l cc s p q) (finQ l cc s) := ⟨_, rfl⟩
      obtain ⟨B, hBe⟩ : ∃ B, B = sumIf i (goes l cc s q p) (finQ l cc s) := ⟨_, rfl⟩
      obtain ⟨C, hCe⟩ : ∃ C, C = sumIf i (goes l cc s p q) fun i => oQ l i - finQ l cc s i := ⟨_, rfl⟩
      have hA1 : sumIf (i + 1) (goes l cc s p q) (finQ l cc s) = A + if goes l cc s p q i = true then f else 0 := by rw [sumIf, hA, hf]
      have hB1 : sumIf (i + 1) (goes l cc s q p) (finQ l cc s) = B + if goes l cc s q p i = true then f else 0 := by rw [sumIf, hBe, hf]
      have hC1 : (sumIf (i + 1) (goes l cc s p q) fun i => oQ l i - finQ l cc s i) = C + if goes l cc s p q i = true then oQ l i - f else 0 := by rw [sumIf, hCe, hf]
      have lA : L A ≤ 4000 := by rw [hA]; exact L_sumIf16 (by omega) fun j hj => by have := hLf j (by omega); omega
      have lB : L B ≤ 4000 := by rw [hBe]; exact L_sumIf16 (by omega) fun j hj => by have := hLf j (by omega); omega
      have lC : L C ≤ 4000 := by
        rw [hCe]
        exact L_sumIf16 (by omega) fun j hj => by
          have := hLf j (by omega)
          have := hLo j (by omega)
          have := L_sub (oQ l j) (finQ l cc s j)
          omega
      rw [← hA, ← hBe, ← hCe] at hS
      repeat (with_reducible first | refine c_seq ?_ | refine c_block ?_ | refine c_skip ?_ | refine x_then ?_ | refine x_block ?_)
      refine c_reg ?_
      refine l_pure rfl (s_move  h94 ?_)
      refine l_pure rfl (s_ixr (i := i)  h92 h94 (ho.below hS.below) (by omega) (by first | omega | (simp; done) | (simp; omega)) si_22 ?_)
      refine l_read rfl (s_lde (i := i) zOb  rfl vi_28 (ho.below hS.below) (by first | omega | (simp; done) | (simp; omega)) rfl rfl (.inl rfl) ?_)
      refine l_heavy rfl (s_alloc  vi_28 hS ?_)
      intro b26 wz15 hS hBz15
      refine l_pure rfl (s_asg  rfl ?_)
      refine l_heavy rfl (s_sta (k := 0)  rfl rfl vi_28 hS rfl rfl rfl (Nat.le_of_ble_eq_true rfl) rfl ?_)
      intro wz16 hS
      refine l_nil ?_
      repeat (with_reducible first | refine c_seq ?_ | refine c_block ?_ | refine c_skip ?_ | refine x_then ?_ | refine x_block ?_)
      replace hS : St w3 _ [(b26, 28, encOb (gO l i)), (b24, 26, encR (ofQ C)), (b23, 26, encR (ofQ B)), (b22, 26, encR (ofQ A)), (b20, 26, encR (ofQ m)), (b18, 26, encR (ofQ m))] := hS
      rw [← hoi] at hS
      repeat (with_reducible first | refine c_seq ?_ | refine c_block ?_ | refine c_skip ?_ | refine x_then ?_ | refine x_block ?_)
      refine c_forget (fun ρ' => ρ' 12 = .int .i64 p ∧ ρ' 13 = .int .i64 q ∧ ρ' 14 = .int .i64 cc ∧ ρ' 15 = .int .i64 s ∧ ρ' 16 = vr ∧ ρ' 18 = .pointer (some ⟨b18, 0, none⟩) ∧ ρ' 22 = .pointer (some ⟨b22, 0, none⟩) ∧ ρ' 23 = .pointer (some ⟨b23, 0, none⟩) ∧ ρ' 24 = .pointer (some ⟨b24, 0, none⟩) ∧ ρ' 92 = vo ∧ ρ' 93 = .int .i64 l.length ∧ ρ' 94 = .int .i64 i ∧ ρ' 25 = .int .i64 i ∧ ρ' 26 = .pointer (some ⟨b26, 0, none⟩) ∧ True) ⟨h12, h13, h14, h15, h16, h18, h22, h23, h24, h92, h93, h94, rfl, rfl, trivial⟩ ?_
      rintro ρk17 ⟨hk17_12, hk17_13, hk17_14, hk17_15, hk17_16, hk17_18, hk17_22, hk17_23, hk17_24, hk17_92, hk17_93, hk17_94, hk17_25, hk17_26, -⟩
      repeat (with_reducible first | refine c_seq ?_ | refine c_block ?_ | refine c_skip ?_ | refine x_then ?_ | refine x_block ?_)
      refine c_reg ?_
      refine l_read rfl (s_ldo (k := 0)  hk17_26 vi_28 hS rfl rfl rfl (.inl rfl) ?_)
      refine l_pure rfl (s_move  hk17_14 ?_)
      refine l_pure rfl (s_move  hk17_15 ?_)
      refine l_heavy rfl (s_call Tryd.call13 rfl (Eligible_ok o cc s _) ?_)
      rintro _ wc18 ⟨rfl, hBc18⟩
      replace hS := hS.grow hBc18
      refine l_pure rfl (s_not  rfl ?_)
      refine l_nil ?_
      repeat (with_reducible first | refine c_seq ?_ | refine c_block ?_ | refine c_skip ?_ | refine x_then ?_ | refine x_block ?_)
      cases he : eligB o cc s with
      | false =>
        have e1 : goes l cc s p q i = false := by rw [hg1, he, Bool.and_false]
        have e2 : goes l cc s q p i = false := by rw [hg2, he, Bool.and_false]
        rw [e1] at hA1 hC1
        rw [e2] at hB1
        simp only [Bool.false_eq_true, if_false, Rat.add_zero] at hA1 hB1 hC1
        refine c_yes rfl (rfl) ?_
        repeat (with_reducible first | refine c_seq ?_ | refine c_block ?_ | refine c_skip ?_ | refine x_then ?_ | refine x_block ?_)
        refine c_exit ?_
        repeat (with_reducible first | refine x_then_exit ?_ | refine x_block_exit ?_ | refine x_block_pass rfl ?_)
        repeat (with_reducible first | refine c_seq ?_ | refine c_block ?_ | refine c_skip ?_ | refine x_then ?_ | refine x_block ?_)
        refine c_reg ?_
        refine l_pure rfl (s_add  hk17_94 rfl (IntWalk.i64_in _ (by omega)) ?_)
        refine l_pure rfl (s_move  rfl ?_)
        refine l_nil ?_
        repeat (with_reducible first | refine c_seq ?_ | refine c_block ?_ | refine c_skip ?_ | refine x_then ?_ | refine x_block ?_)
        exact ⟨i + 1, _, rfl, ⟨hlt, by assumption, by assumption, by assumption, by assumption, by assumption, by assumption, by assumption, by assumption, by assumption, by assumption, by assumption, vi rfl (by omega), by rw [hA1, hB1, hC1]; exact hS.drop (List.sublist_cons_self _ _)⟩, by omega⟩
      | true =>
      rw [he, Bool.and_true] at hg1 hg2
      refine c_no rfl (rfl) ?_
      repeat (with_reducible first | refine c_seq ?_ | refine c_block ?_ | refine c_skip ?_ | refine x_then ?_ | refine x_block ?_)
      obtain ⟨A2, hA2⟩ : ∃ A2, A2 = A + if goes l cc s p q i = true then f else 0 := ⟨_, rfl⟩
      obtain ⟨C2, hC2⟩ : ∃ C2, C2 = C + if goes l cc s p q i = true then oQ l i - f else 0 := ⟨_, rfl⟩
      obtain ⟨B2, hB2⟩ : ∃ B2, B2 = B + if goes l cc s q p i = true then f else 0 := ⟨_, rfl⟩
      rw [← hA2] at hA1
      rw [← hB2] at hB1
      rw [← hC2] at hC1
      repeat (with_reducible first | refine c_seq ?_ | refine c_block ?_ | refine c_skip ?_ | refine x_then ?_ | refine x_block ?_)
      refine c_forget (fun ρ' => ρ' 12 = .int .i64 p ∧ ρ' 13 = .int .i64 q ∧ ρ' 14 = .int .i64 cc ∧ ρ' 15 = .int .i64 s ∧ ρ' 16 = vr ∧ ρ' 18 = .pointer (some ⟨b18, 0, none⟩) ∧ ρ' 22 = .pointer (some ⟨b22, 0, none⟩) ∧ ρ' 23 = .pointer (some ⟨b23, 0, none⟩) ∧ ρ' 24 = .pointer (some ⟨b24, 0, none⟩) ∧ ρ' 92 = vo ∧ ρ' 93 = .int .i64 l.length ∧ ρ' 94 = .int .i64 i ∧ ρ' 25 = .int .i64 i ∧ ρ' 26 = .pointer (some ⟨b26, 0, none⟩) ∧ True) ⟨hk17_12, hk17_13, hk17_14, hk17_15, hk17_16, hk17_18, hk17_22, hk17_23, hk17_24, hk17_92, hk17_93, hk17_94, hk17_25, hk17_26, trivial⟩ ?_
      rintro ρk19 ⟨hk19_12, hk19_13, hk19_14, hk19_15, hk19_16, hk19_18, hk19_22, hk19_23, hk19_24, hk19_92, hk19_93, hk19_94, hk19_25, hk19_26, -⟩
      refine c_cut1 (fun ρ w' => ρ 12 = .int .i64 p ∧ ρ 13 = .int .i64 q ∧ ρ 14 = .int .i64 cc ∧ ρ 15 = .int .i64 s ∧ ρ 16 = vr ∧ ρ 18 = .pointer (some ⟨b18, 0, none⟩) ∧ ρ 22 = .pointer (some ⟨b22, 0, none⟩) ∧ ρ 23 = .pointer (some ⟨b23, 0, none⟩) ∧ ρ 24 = .pointer (some ⟨b24, 0, none⟩) ∧ ρ 92 = vo ∧ ρ 93 = .int .i64 l.length ∧ ρ 94 = .int .i64 i ∧ ρ 25 = .int .i64 i ∧ ρ 26 = .pointer (some ⟨b26, 0, none⟩) ∧ ρ 113 = .bool (goes l cc s p q i) ∧ St w3 w' [(b26, 28, encOb o), (b24, 26, encR (ofQ C)), (b23, 26, encR (ofQ B)), (b22, 26, encR (ofQ A)), (b20, 26, encR (ofQ m)), (b18, 26, encR (ofQ m))]) ?_ ?_
      · rw [hg1]
        by_cases g1 : o.deb = p
        · repeat (with_reducible first | refine c_seq ?_ | refine c_block ?_ | refine c_skip ?_ | refine x_then ?_ | refine x_block ?_)
          refine c_reg ?_
          refine l_pure rfl (s_fld  hk19_26 fo_28_0 ?_)
          refine l_read rfl (s_ldo (k := 0)  rfl vi_3 hS rfl rfl rfl (.inr rfl) ?_)
          refine l_pure rfl (s_move  hk19_12 ?_)
          refine l_pure rfl (s_eql  rfl rfl ?_)
          refine l_pure rfl (s_move  rfl ?_)
          refine l_pure (gd_yes 108 (by kernel_rfl) rfl (decide_eq_true g1)) (s_fld  hk19_26 fo_28_1 ?_)
          refine l_read (gd_yes 108 (by kernel_rfl) rfl (decide_eq_true g1)) (s_ldo (k := 0)  rfl vi_3 hS rfl rfl rfl (.inr rfl) ?_)
          refine l_pure (gd_yes 108 (by kernel_rfl) rfl (decide_eq_true g1)) (s_move  hk19_13 ?_)
          refine l_pure (gd_yes 108 (by kernel_rfl) rfl (decide_eq_true g1)) (s_eql  rfl rfl ?_)
          refine l_pure rfl (s_pick (vb rfl (decide_eq_true g1)) rfl ?_)
          refine l_nil ?_
          repeat (with_reducible first | refine c_seq ?_ | refine c_block ?_ | refine c_skip ?_ | refine x_then ?_ | refine x_block ?_)
          exact ⟨_, rfl, by assumption, by assumption, by assumption, by assumption, by assumption, by assumption, by assumption, by assumption, by assumption, by assumption, by assumption, by assumption, by assumption, by assumption, vb rfl (by simp [g1]), hS⟩
        · repeat (with_reducible first | refine c_seq ?_ | refine c_block ?_ | refine c_skip ?_ | refine x_then ?_ | refine x_block ?_)
          refine c_reg ?_
          refine l_pure rfl (s_fld  hk19_26 fo_28_0 ?_)
          refine l_read rfl (s_ldo (k := 0)  rfl vi_3 hS rfl rfl rfl (.inr rfl) ?_)
          refine l_pure rfl (s_move  hk19_12 ?_)
          refine l_pure rfl (s_eql  rfl rfl ?_)
          refine l_pure rfl (s_move  rfl ?_)
          refine l_no (gno_yes 108 (by kernel_rfl) rfl (decide_eq_false g1)) ?_
          refine l_no (gno_yes 108 (by kernel_rfl) rfl (decide_eq_false g1)) ?_
          refine l_no (gno_yes 108 (by kernel_rfl) rfl (decide_eq_false g1)) ?_
          refine l_no (gno_yes 108 (by kernel_rfl) rfl (decide_eq_false g1)) ?_
          refine l_pure rfl (s_pick (vb rfl (decide_eq_false g1)) rfl ?_)
          refine l_nil ?_
          repeat (with_reducible first | refine c_seq ?_ | refine c_block ?_ | refine c_skip ?_ | refine x_then ?_ | refine x_block ?_)
          exact ⟨_, rfl, by assumption, by assumption, by assumption, by assumption, by assumption, by assumption, by assumption, by assumption, by assumption, by assumption, by assumption, by assumption, by assumption, by assumption, vb rfl (by simp [g1]), hS⟩
      clear hS h12 h13 h14 h15 h16 h18 h22 h23 h24 h92 h93 h94
      rintro ρ w7 ⟨h12, h13, h14, h15, h16, h18, h22, h23, h24, h92, h93, h94, h25, h26, h113, hS⟩
      refine c_cut1 (fun ρ w' => ρ 12 = .int .i64 p ∧ ρ 13 = .int .i64 q ∧ ρ 14 = .int .i64 cc ∧ ρ 15 = .int .i64 s ∧ ρ 16 = vr ∧ ρ 18 = .pointer (some ⟨b18, 0, none⟩) ∧ ρ 22 = .pointer (some ⟨b22, 0, none⟩) ∧ ρ 23 = .pointer (some ⟨b23, 0, none⟩) ∧ ρ 24 = .pointer (some ⟨b24, 0, none⟩) ∧ ρ 92 = vo ∧ ρ 93 = .int .i64 l.length ∧ ρ 94 = .int .i64 i ∧ ρ 25 = .int .i64 i ∧ ρ 26 = .pointer (some ⟨b26, 0, none⟩) ∧ St w3 w' [(b26, 28, encOb o), (b24, 26, encR (ofQ C2)), (b23, 26, encR (ofQ B)), (b22, 26, encR (ofQ A2)), (b20, 26, encR (ofQ m)), (b18, 26, encR (ofQ m))]) ?_ ?_
      · repeat (with_reducible first | refine c_seq ?_ | refine c_block ?_ | refine c_skip ?_ | refine x_then ?_ | refine x_block ?_)
        cases hgo : goes l cc s p q i with
        | true =>
          rw [hgo, if_pos rfl] at hA2 hC2
          refine c_yes h113 hgo ?_
          repeat (with_reducible first | refine c_seq ?_ | refine c_block ?_ | refine c_skip ?_ | refine x_then ?_ | refine x_block ?_)
          refine c_draw [(0, .read), (1, .pure), (2, .pure), (3, .pure), (4, .read), (5, .grow), (6, .free)] (by kernel_rfl) (by kernel_rfl) hS ?_
          intro wz20 hS hBz20
          refine w_read rfl rfl (s_ldo (k := 3)  h22 vi_26 hS rfl rfl rfl (.inl rfl) ?_)
          refine w_pure rfl rfl (s_move  h16 ?_)
          refine w_pure rfl rfl (s_move  h25 ?_)
          refine w_pure rfl rfl (s_ixr (i := i)  rfl rfl (hr.below hS.below) (by omega) (by first | omega | (simp; done) | (simp; omega)) si_37 ?_)
          refine w_read rfl rfl (s_lde (i := i) zRR  rfl vi_26 (hr.below hS.below) (by first | omega | (simp; done) | (simp; omega)) rfl rfl (.inl rfl) ?_)
          rw [hgi]
          refine w_grow rfl rfl (s_call Tryd.call24 rfl (QAdd_ok (ofQ A) (ofQ f) _ (by rw [Lr_ofQ, Lr_ofQ]; omega)) ?_)
          rintro r w8 ⟨rfl, hB8⟩
          refine ⟨hB8, ?_⟩
          rw [toQ_ofQ, toQ_ofQ, ← hA2]
          replace hS := hS.grow hB8
          refine w_free rfl rfl (s_sta (k := 3)  h22 rfl vi_26 hS rfl rfl rfl (Nat.le_of_ble_eq_true rfl) rfl ?_)
          intro wz21 hS
          refine w_end ?_
          repeat (with_reducible first | refine c_seq ?_ | refine c_block ?_ | refine c_skip ?_ | refine x_then ?_ | refine x_block ?_)
          refine c_draw [(0, .read), (1, .pure), (2, .read), (3, .pure), (4, .pure), (5, .pure), (6, .read), (7, .grow), (8, .grow), (9, .free)] (by kernel_rfl) (by kernel_rfl) hS ?_
          intro wz22 hS hBz22
          refine w_read rfl rfl (s_ldo (k := 1)  h24 vi_26 hS rfl rfl rfl (.inl rfl) ?_)
          refine w_pure rfl rfl (s_fld  h26 fo_28_2 ?_)
          refine w_read rfl rfl (s_ldo (k := 0)  rfl vi_26 hS rfl rfl rfl (.inl rfl) ?_)
          refine w_pure rfl rfl (s_move  h16 ?_)
          refine w_pure rfl rfl (s_move  h25 ?_)
          refine w_pure rfl rfl (s_ixr (i := i)  rfl rfl (hr.below hS.below) (by omega) (by first | omega | (simp; done) | (simp; omega)) si_37 ?_)
          refine w_read rfl rfl (s_lde (i := i) zRR  rfl vi_26 (hr.below hS.below) (by first | omega | (simp; done) | (simp; omega)) rfl rfl (.inl rfl) ?_)
          rw [hgi]
          refine w_grow rfl rfl (s_call Tryd.call25 rfl (QSubtract_ok o.amt (ofQ f) _ (by rw [hpa, Lr_ofQ, Lr_ofQ]; omega)) ?_)
          rintro r w9 ⟨rfl, hB9⟩
          refine ⟨hB9, ?_⟩
          rw [hpa, toQ_ofQ, toQ_ofQ]
          replace hS := hS.grow hB9
          have lF := L_sub (oQ l i) f
          refine w_grow rfl rfl (s_call Tryd.call24 rfl (QAdd_ok (ofQ C) (ofQ (oQ l i - f)) _ (by rw [Lr_ofQ, Lr_ofQ]; omega)) ?_)
          rintro r w10 ⟨rfl, hB10⟩
          refine ⟨hB10, ?_⟩
          rw [toQ_ofQ, toQ_ofQ, ← hC2]
          replace hS := hS.grow hB10
          refine w_free rfl rfl (s_sta (k := 1)  h24 rfl vi_26 hS rfl rfl rfl (Nat.le_of_ble_eq_true rfl) rfl ?_)
          intro wz23 hS
          refine w_end ?_
          repeat (with_reducible first | refine c_seq ?_ | refine c_block ?_ | refine c_skip ?_ | refine x_then ?_ | refine x_block ?_)
          exact ⟨_, rfl, by assumption, by assumption, by assumption, by assumption, by assumption, by assumption, by assumption, by assumption, by assumption, by assumption, by assumption, by assumption, by assumption, by assumption, hS⟩
        | false =>
          rw [hgo, if_neg (by decide), Rat.add_zero] at hA2 hC2
          refine c_no h113 hgo ?_
          repeat (with_reducible first | refine c_seq ?_ | refine c_block ?_ | refine c_skip ?_ | refine x_then ?_ | refine x_block ?_)
          exact ⟨_, rfl, by assumption, by assumption, by assumption, by assumption, by assumption, by assumption, by assumption, by assumption, by assumption, by assumption, by assumption, by assumption, by assumption, by assumption, by rw [hA2, hC2]; exact hS⟩
      clear hS h12 h13 h14 h15 h16 h18 h22 h23 h24 h92 h93 h94 h25 h26 h113
      rintro ρ w8 ⟨h12, h13, h14, h15, h16, h18, h22, h23, h24, h92, h93, h94, h25, h26, hS⟩
      repeat (with_reducible first | refine c_seq ?_ | refine c_block ?_ | refine c_skip ?_ | refine x_then ?_ | refine x_block ?_)
      refine c_cut1 (fun ρ w' => ρ 12 = .int .i64 p ∧ ρ 13 = .int .i64 q ∧ ρ 14 = .int .i64 cc ∧ ρ 15 = .int .i64 s ∧ ρ 16 = vr ∧ ρ 18 = .pointer (some ⟨b18, 0, none⟩) ∧ ρ 22 = .pointer (some ⟨b22, 0, none⟩) ∧ ρ 23 = .pointer (some ⟨b23, 0, none⟩) ∧ ρ 24 = .pointer (some ⟨b24, 0, none⟩) ∧ ρ 92 = vo ∧ ρ 93 = .int .i64 l.length ∧ ρ 94 = .int .i64 i ∧ ρ 25 = .int .i64 i ∧ ρ 26 = .pointer (some ⟨b26, 0, none⟩) ∧ ρ 138 = .bool (goes l cc s q p i) ∧ St w3 w' [(b26, 28, encOb o), (b24, 26, encR (ofQ C2)), (b23, 26, encR (ofQ B)), (b22, 26, encR (ofQ A2)), (b20, 26, encR (ofQ m)), (b18, 26, encR (ofQ m))]) ?_ ?_
      · rw [hg2]
        by_cases g1 : o.deb = q
        · repeat (with_reducible first | refine c_seq ?_ | refine c_block ?_ | refine c_skip ?_ | refine x_then ?_ | refine x_block ?_)
          refine c_reg ?_
          refine l_pure rfl (s_fld  h26 fo_28_0 ?_)
          refine l_read rfl (s_ldo (k := 0)  rfl vi_3 hS rfl rfl rfl (.inr rfl) ?_)
          refine l_pure rfl (s_move  h13 ?_)
          refine l_pure rfl (s_eql  rfl rfl ?_)
          refine l_pure rfl (s_move  rfl ?_)
          refine l_pure (gd_yes 133 (by kernel_rfl) rfl (decide_eq_true g1)) (s_fld  h26 fo_28_1 ?_)
          refine l_read (gd_yes 133 (by kernel_rfl) rfl (decide_eq_true g1)) (s_ldo (k := 0)  rfl vi_3 hS rfl rfl rfl (.inr rfl) ?_)
          refine l_pure (gd_yes 133 (by kernel_rfl) rfl (decide_eq_true g1)) (s_move  h12 ?_)
          refine l_pure (gd_yes 133 (by kernel_rfl) rfl (decide_eq_true g1)) (s_eql  rfl rfl ?_)
          refine l_pure rfl (s_pick (vb rfl (decide_eq_true g1)) rfl ?_)
          refine l_nil ?_
          repeat (with_reducible first | refine c_seq ?_ | refine c_block ?_ | refine c_skip ?_ | refine x_then ?_ | refine x_block ?_)
          exact ⟨_, rfl, by assumption, by assumption, by assumption, by assumption, by assumption, by assumption, by assumption, by assumption, by assumption, by assumption, by assumption, by assumption, by assumption, by assumption, vb rfl (by simp [g1]), hS⟩
        · repeat (with_reducible first | refine c_seq ?_ | refine c_block ?_ | refine c_skip ?_ | refine x_then ?_ | refine x_block ?_)
          refine c_reg ?_
          refine l_pure rfl (s_fld  h26 fo_28_0 ?_)
          refine l_read rfl (s_ldo (k := 0)  rfl vi_3 hS rfl rfl rfl (.inr rfl) ?_)
          refine l_pure rfl (s_move  h13 ?_)
          refine l_pure rfl (s_eql  rfl rfl ?_)
          refine l_pure rfl (s_move  rfl ?_)
          refine l_no (gno_yes 133 (by kernel_rfl) rfl (decide_eq_false g1)) ?_
          refine l_no (gno_yes 133 (by kernel_rfl) rfl (decide_eq_false g1)) ?_
          refine l_no (gno_yes 133 (by kernel_rfl) rfl (decide_eq_false g1)) ?_
          refine l_no (gno_yes 133 (by kernel_rfl) rfl (decide_eq_false g1)) ?_
          refine l_pure rfl (s_pick (vb rfl (decide_eq_false g1)) rfl ?_)
          refine l_nil ?_
          repeat (with_reducible first | refine c_seq ?_ | refine c_block ?_ | refine c_skip ?_ | refine x_then ?_ | refine x_block ?_)
          exact ⟨_, rfl, by assumption, by assumption, by assumption, by assumption, by assumption, by assumption, by assumption, by assumption, by assumption, by assumption, by assumption, by assumption, by assumption, by assumption, vb rfl (by simp [g1]), hS⟩
      clear hS h12 h13 h14 h15 h16 h18 h22 h23 h24 h92 h93 h94 h25 h26
      rintro ρ w9 ⟨h12, h13, h14, h15, h16, h18, h22, h23, h24, h92, h93, h94, h25, h26, h138, hS⟩
      repeat (with_reducible first | refine c_seq ?_ | refine c_block ?_ | refine c_skip ?_ | refine x_then ?_ | refine x_block ?_)
      cases hgo : goes l cc s q p i with
      | true =>
        rw [hgo, if_pos rfl] at hB2
        refine c_yes h138 hgo ?_
        repeat (with_reducible first | refine c_seq ?_ | refine c_block ?_ | refine c_skip ?_ | refine x_then ?_ | refine x_block ?_)
        refine c_draw [(0, .read), (1, .pure), (2, .pure), (3, .pure), (4, .read), (5, .grow), (6, .free)] (by kernel_rfl) (by kernel_rfl) hS ?_
        intro wz24 hS hBz24
        refine w_read rfl rfl (s_ldo (k := 2)  h23 vi_26 hS rfl rfl rfl (.inl rfl) ?_)
        refine w_pure rfl rfl (s_move  h16 ?_)
        refine w_pure rfl rfl (s_move  h25 ?_)
        refine w_pure rfl rfl (s_ixr (i := i)  rfl rfl (hr.below hS.below) (by omega) (by first | omega | (simp; done) | (simp; omega)) si_37 ?_)
        refine w_read rfl rfl (s_lde (i := i) zRR  rfl vi_26 (hr.below hS.below) (by first | omega | (simp; done) | (simp; omega)) rfl rfl (.inl rfl) ?_)
        rw [hgi]
        refine w_grow rfl rfl (s_call Tryd.call24 rfl (QAdd_ok (ofQ B) (ofQ f) _ (by rw [Lr_ofQ, Lr_ofQ]; omega)) ?_)
        rintro r w10 ⟨rfl, hB10⟩
        refine ⟨hB10, ?_⟩
        rw [toQ_ofQ, toQ_ofQ, ← hB2]
        replace hS := hS.grow hB10
        refine w_free rfl rfl (s_sta (k := 2)  h23 rfl vi_26 hS rfl rfl rfl (Nat.le_of_ble_eq_true rfl) rfl ?_)
        intro wz25 hS
        refine w_end ?_
        repeat (with_reducible first | refine c_seq ?_ | refine c_block ?_ | refine c_skip ?_ | refine x_then ?_ | refine x_block ?_)
        refine c_reg ?_
        refine l_pure rfl (s_add  h94 rfl (IntWalk.i64_in _ (by omega)) ?_)
        refine l_pure rfl (s_move  rfl ?_)
        refine l_nil ?_
        repeat (with_reducible first | refine c_seq ?_ | refine c_block ?_ | refine c_skip ?_ | refine x_then ?_ | refine x_block ?_)
        exact ⟨i + 1, _, rfl, ⟨hlt, by assumption, by assumption, by assumption, by assumption, by assumption, by assumption, by assumption, by assumption, by assumption, by assumption, by assumption, vi rfl (by omega), by rw [hA1, hB1, hC1]; exact hS.drop (List.sublist_cons_self _ _)⟩, by omega⟩
      | false =>
        rw [hgo, if_neg (by decide), Rat.add_zero] at hB2
        refine c_no h138 hgo ?_
        repeat (with_reducible first | refine c_seq ?_ | refine c_block ?_ | refine c_skip ?_ | refine x_then ?_ | refine x_block ?_)
        refine c_reg ?_
        refine l_pure rfl (s_add  h94 rfl (IntWalk.i64_in _ (by omega)) ?_)
        refine l_pure rfl (s_move  rfl ?_)
        refine l_nil ?_
        repeat (with_reducible first | refine c_seq ?_ | refine c_block ?_ | refine c_skip ?_ | refine x_then ?_ | refine x_block ?_)
        exact ⟨i + 1, _, rfl, ⟨hlt, by assumption, by assumption, by assumption, by assumption, by assumption, by assumption, by assumption, by assumption, by assumption, by assumption, by assumption, vi rfl (by omega), by rw [hA1, hB1, hC1, hB2]; exact hS.drop (List.sublist_cons_self _ _)⟩, by omega⟩
    · refine c_no rfl (decide_eq_false (by omega)) ?_
      repeat (with_reducible first | refine c_seq ?_ | refine c_block ?_ | refine c_skip ?_ | refine x_then ?_ | refine x_block ?_)
      refine c_exit ?_
      repeat (with_reducible first | refine x_then_exit ?_ | refine x_block_exit ?_ | refine x_block_pass rfl ?_)
      repeat (with_reducible first | refine c_seq ?_ | refine c_block ?_ | refine c_skip ?_ | refine x_then ?_ | refine x_block ?_)
      obtain rfl : i = l.length := by omega
      exact ⟨_, rfl, h18, h22, h23, h24, hS⟩
  clear hS
  rintro ρ w6 ⟨h18, h22, h23, h24, hS⟩
  rw [lost_elig hN, ← hm] at hS
  have hz := one_sided hN cc s p q
  have lA : L (sumIf l.length (goes l cc s p q) (finQ l cc s)) ≤ 4000 := L_sumIf16 hlen fun j hj => by have := hLf j hj; omega
  have lB : L (sumIf l.length (goes l cc s q p) (finQ l cc s)) ≤ 4000 := L_sumIf16 hlen fun j hj => by have := hLf j hj; omega
  generalize sumIf l.length (goes l cc s p q) (finQ l cc s) = A at hS hz lA
  generalize sumIf l.length (goes l cc s q p) (finQ l cc s) = B at hS hz lB
  repeat (with_reducible first | refine c_seq ?_ | refine c_block ?_ | refine c_skip ?_ | refine x_then ?_ | refine x_block ?_)
  refine c_reg ?_
  refine l_heavy rfl (s_call Tryd.call12 rfl (Oawake_ok _) ?_)
  rintro r w7 ⟨rfl, hB7⟩
  replace hS := hS.grow hB7
  refine l_pure rfl (s_move  rfl ?_)
  refine l_read (gd_yes 147 (by kernel_rfl) rfl rfl) (s_ldo (k := 2)  h22 vi_26 hS rfl rfl rfl (.inl rfl) ?_)
  refine l_heavy (gd_yes 147 (by kernel_rfl) rfl rfl) (s_call Tryd.call19 rfl (Sign_ok (ofQ A) _ (by rw [Lr_ofQ]; omega)) ?_)
  rintro r w8 ⟨rfl, hB8⟩
  rw [toQ_ofQ]
  replace hS := hS.grow hB8
  by_cases hA0 : A = 0
  · have hd : sgnQ A = 0 := sgnQ_zero.2 hA0
    refine l_pure (gd_yes 147 (by kernel_rfl) rfl rfl) (s_eql  rfl rfl ?_)
    refine l_pure (gd_yes 147 (by kernel_rfl) rfl rfl) (s_move  rfl ?_)
    refine l_no (gno_yes 151 (by kernel_rfl) rfl (decide_eq_true hd)) ?_
    refine l_no (gno_yes 151 (by kernel_rfl) rfl (decide_eq_true hd)) ?_
    refine l_no (gno_yes 151 (by kernel_rfl) rfl (decide_eq_true hd)) ?_
    refine l_pure (gd_yes 147 (by kernel_rfl) rfl rfl) (s_pick (vb rfl (decide_eq_true hd)) rfl ?_)
    refine l_pure rfl (s_pick (vb rfl rfl) rfl ?_)
    refine l_pure rfl (s_move  rfl ?_)
    refine l_read (gd_yes 157 (by kernel_rfl) rfl rfl) (s_ldo (k := 0)  h24 vi_26 hS rfl rfl rfl (.inl rfl) ?_)
    refine l_read (gd_yes 157 (by kernel_rfl) rfl rfl) (s_ldo (k := 4)  h18 vi_26 hS rfl rfl rfl (.inl rfl) ?_)
    refine l_pure (gd_yes 157 (by kernel_rfl) rfl rfl) (s_eqR  rfl rfl (r := ofQ m) (s := ofQ m) ?_)
    refine l_pure rfl (s_pick (vb rfl rfl) rfl ?_)
    refine l_pure rfl (s_asg  rfl ?_)
    refine l_nil ?_
    repeat (with_reducible first | refine c_seq ?_ | refine c_block ?_ | refine c_skip ?_ | refine x_then ?_ | refine x_block ?_)
    refine c_ret ?_
    repeat (with_reducible first | refine x_then_ret ?_ | refine x_block_ret ?_)
    refine r_one rfl rfl ?_
    exact ⟨vb rfl (decide_eq_true rfl), bt hW hS.below⟩
  · have hd : ¬ sgnQ A = 0 := fun g => hA0 (sgnQ_zero.1 g)
    have hB0 : sgnQ B = 0 := sgnQ_zero.2 (hz.resolve_left hA0)
    refine l_pure (gd_yes 147 (by kernel_rfl) rfl rfl) (s_eql  rfl rfl ?_)
    refine l_pure (gd_yes 147 (by kernel_rfl) rfl rfl) (s_move  rfl ?_)
    refine l_read (gd_yes 151 (by kernel_rfl) rfl (decide_eq_false hd)) (s_ldo (k := 1)  h23 vi_26 hS rfl rfl rfl (.inl rfl) ?_)
    refine l_heavy (gd_yes 151 (by kernel_rfl) rfl (decide_eq_false hd)) (s_call Tryd.call19 rfl (Sign_ok (ofQ B) _ (by rw [Lr_ofQ]; omega)) ?_)
    rintro r w9 ⟨rfl, hB9⟩
    rw [toQ_ofQ]
    replace hS := hS.grow hB9
    refine l_pure (gd_yes 151 (by kernel_rfl) rfl (decide_eq_false hd)) (s_eql  rfl rfl ?_)
    refine l_pure (gd_yes 147 (by kernel_rfl) rfl rfl) (s_pick (vb rfl (decide_eq_false hd)) rfl ?_)
    refine l_pure rfl (s_pick (vb rfl rfl) rfl ?_)
    refine l_pure rfl (s_move  rfl ?_)
    refine l_read (gd_yes 157 (by kernel_rfl) rfl (decide_eq_true hB0)) (s_ldo (k := 0)  h24 vi_26 hS rfl rfl rfl (.inl rfl) ?_)
    refine l_read (gd_yes 157 (by kernel_rfl) rfl (decide_eq_true hB0)) (s_ldo (k := 4)  h18 vi_26 hS rfl rfl rfl (.inl rfl) ?_)
    refine l_pure (gd_yes 157 (by kernel_rfl) rfl (decide_eq_true hB0)) (s_eqR  rfl rfl (r := ofQ m) (s := ofQ m) ?_)
    refine l_pure rfl (s_pick (vb rfl (decide_eq_true hB0)) rfl ?_)
    refine l_pure rfl (s_asg  rfl ?_)
    refine l_nil ?_
    repeat (with_reducible first | refine c_seq ?_ | refine c_block ?_ | refine c_skip ?_ | refine x_then ?_ | refine x_block ?_)
    refine c_ret ?_
    repeat (with_reducible first | refine x_then_ret ?_ | refine x_block_ret ?_)
    refine r_one rfl rfl ?_
    exact ⟨vb rfl (decide_eq_true rfl), bt hW hS.below⟩
end Go.Proofs.YtdafaibhiobpaaaDoor
