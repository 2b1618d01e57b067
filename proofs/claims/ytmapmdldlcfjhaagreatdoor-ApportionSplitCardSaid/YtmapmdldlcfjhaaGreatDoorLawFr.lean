/-
  Walks: integer parts, products, quotients and sums (reference).
-/
import Derived.Test.YtmapmdldlcfjhaaGreatDoorLawFl
namespace Go.Proofs.YtmapmdldlcfjhaaGreatDoor
open Go Go.RowKit Go.Sx

theorem int_of_den {p : Rat} (h : p.den = 1) : ((p.num : Int) : Rat) = p := by
  have := Rat.mkRat_self p
  rw [h] at this
  rw [← this]
  have h2 := mkRat_int p.num
  rw [sg_num'] at h2
  rw [this]
  exact h2.symm.trans this
theorem floor_of_den {p : Rat} (h : p.den = 1) : ((p.floor : Int) : Rat) = p := by
  rw [Rat.floor_def, h, Int.natCast_one, Int.ediv_one]
  exact int_of_den h
theorem ofQ_den_nil {p : Rat} : (ofQ p).den = ⟨#[]⟩ ↔ p.den = 1 := by
  rw [ofQ_den]
  split
  · next e => exact ⟨fun _ => e, fun _ => rfl⟩
  · next e => rw [natS_nil]; exact ⟨fun g => absurd g p.den_nz, fun g => absurd g e⟩
theorem rest_ne {p : Rat} (h : p.den ≠ 1) : p.num.natAbs % p.den ≠ 0 := by
  intro g
  have h1 : p.den ∣ p.num.natAbs := Nat.dvd_of_mod_eq_zero g
  have h2 : Nat.gcd p.num.natAbs p.den = 1 := p.reduced
  rw [Nat.gcd_eq_right h1] at h2
  exact h h2

theorem rUint_ok (V : Nat) (w : World) (hV : (natS V).size ≤ 4398046511104) :
    Ret Tryz.prog 90 #[.string (natS V)] w fun v w' => v = .tuple #[.int .u64 ((if V < 18446744073709551616 then V else 0 : Nat) : Int), .bool (decide (V < 18446744073709551616))] ∧ w' = w := by
  have hlong := natS_long (V := V)
  obtain ⟨s, hs⟩ : ∃ s, s = natS V := ⟨_, rfl⟩
  have hval : val s = V := by rw [hs, val_natS]
  have hnorm := fun w => rNormalize_ok (natS V) w (by omega)
  rw [val_natS] at hnorm
  rw [← hs] at hlong hV hnorm ⊢
  refine enter Tryz.func90 rfl Tryz.ntmps90 rfl ?_
  repeat (with_reducible first | refine c_seq ?_ | refine c_block ?_ | refine c_skip ?_ | refine x_then ?_ | refine x_block ?_)
  refine c_reg ?_
  refine l_pure rfl (s_asg  rfl ?_)
  refine l_pure rfl (s_asg  rfl ?_)
  refine l_nil ?_
  repeat (with_reducible first | refine c_seq ?_ | refine c_block ?_ | refine c_skip ?_ | refine x_then ?_ | refine x_block ?_)
  refine c_reg ?_
  refine l_pure rfl (s_move  rfl ?_)
  refine l_heavy rfl (s_call Tryz.call120 rfl (hnorm _) ?_)
  rintro r w1 ⟨rfl, rfl⟩
  refine l_pure rfl (s_asg  rfl ?_)
  refine l_nil ?_
  repeat (with_reducible first | refine c_seq ?_ | refine c_block ?_ | refine c_skip ?_ | refine x_then ?_ | refine x_block ?_)
  refine c_reg ?_
  refine l_pure rfl (s_move  rfl ?_)
  refine l_pure rfl (s_lens  rfl Tryz.underlying9 ?_)
  refine l_pure rfl (s_gtr  rfl rfl ?_)
  refine l_nil ?_
  repeat (with_reducible first | refine c_seq ?_ | refine c_block ?_ | refine c_skip ?_ | refine x_then ?_ | refine x_block ?_)
  by_cases h8 : 8 < s.size
  · refine c_yes rfl (decide_eq_true (by omega)) ?_
    repeat (with_reducible first | refine c_seq ?_ | refine c_block ?_ | refine c_skip ?_ | refine x_then ?_ | refine x_block ?_)
    have hnl : ¬ V < 18446744073709551616 := by omega
    rw [if_neg hnl, decide_eq_false hnl]
    repeat (with_reducible first | refine c_seq ?_ | refine c_block ?_ | refine c_skip ?_ | refine x_then ?_ | refine x_block ?_)
    refine c_reg ?_
    refine l_pure rfl (s_asg  rfl ?_)
    refine l_pure rfl (s_asg  rfl ?_)
    refine l_nil ?_
    repeat (with_reducible first | refine c_seq ?_ | refine c_block ?_ | refine c_skip ?_ | refine x_then ?_ | refine x_block ?_)
    refine c_ret ?_
    repeat (with_reducible first | refine x_then_ret ?_ | refine x_block_ret ?_)
    refine r_two rfl rfl rfl ?_
    exact ⟨rfl, rfl⟩
  · refine c_no rfl (decide_eq_false (by omega)) ?_
    repeat (with_reducible first | refine c_seq ?_ | refine c_block ?_ | refine c_skip ?_ | refine x_then ?_ | refine x_block ?_)
    have hlt : V < 18446744073709551616 := by omega
    rw [if_pos hlt, decide_eq_true hlt]
    repeat (with_reducible first | refine c_seq ?_ | refine c_block ?_ | refine c_skip ?_ | refine x_then ?_ | refine x_block ?_)
    refine c_reg ?_
    refine l_pure rfl (s_asg  rfl ?_)
    refine l_nil ?_
    repeat (with_reducible first | refine c_seq ?_ | refine c_block ?_ | refine c_skip ?_ | refine x_then ?_ | refine x_block ?_)
    refine c_reg ?_
    refine l_pure rfl (s_asg  rfl ?_)
    refine l_nil ?_
    repeat (with_reducible first | refine c_seq ?_ | refine c_block ?_ | refine c_skip ?_ | refine x_then ?_ | refine x_block ?_)
    have hVs := val_lt s
    rw [hval] at hVs
    refine c_loop (σ := Nat) (fun i ρ w' => i ≤ s.size ∧ ρ 0 = .string s ∧ ρ 4 = .int .u64 ((V / 256 ^ (s.size - i) : Nat) : Int) ∧ ρ 5 = .int .i64 i ∧ w' = w1) (fun i => s.size - i) 0
      ⟨Nat.zero_le _, rfl, vi rfl (by rw [Nat.sub_zero, Nat.div_eq_of_lt hVs]; rfl), rfl, rfl⟩ ?_
    rintro i ρ w2 ⟨hi, h0, h4, h5, rfl⟩
    repeat (with_reducible first | refine c_seq ?_ | refine c_block ?_ | refine c_skip ?_ | refine x_then ?_ | refine x_block ?_)
    refine c_reg ?_
    refine l_pure rfl (s_move  h5 ?_)
    refine l_pure rfl (s_move  h0 ?_)
    refine l_pure rfl (s_lens  rfl Tryz.underlying9 ?_)
    refine l_pure rfl (s_lss  rfl rfl ?_)
    refine l_nil ?_
    repeat (with_reducible first | refine c_seq ?_ | refine c_block ?_ | refine c_skip ?_ | refine x_then ?_ | refine x_block ?_)
    by_cases hil : i < s.size
    · refine c_yes rfl (decide_eq_true (by omega)) ?_
      repeat (with_reducible first | refine c_seq ?_ | refine c_block ?_ | refine c_skip ?_ | refine x_then ?_ | refine x_block ?_)
      have hb := sbytes_rget s (s.size - 1 - i) (by omega)
      rw [hval] at hb
      have hd := dgt_lt (b := 256) (by decide) V (s.size - 1 - i)
      have hix : s.size - 1 - (s.size - 1 - i) = i := by omega
      have hst := div_step 256 V (s.size - 1 - i)
      have he : s.size - 1 - i + 1 = s.size - i := by omega
      rw [he] at hst
      have hbi : (s[i]'hil).toNat = dgt 256 V (s.size - 1 - i) := by
        rw [← hb]
        congr 1
        exact getElem_congr_idx hix.symm
      have hu : V / 256 ^ (s.size - i) * 256 < 18446744073709551616 := by
        have h1 : V / 256 ^ (s.size - i) * 256 ≤ V / 256 ^ (s.size - 1 - i) := by rw [hst]; omega
        have h2 := Nat.div_le_self V (256 ^ (s.size - 1 - i))
        omega
      obtain ⟨u, hu0⟩ : ∃ u, u = V / 256 ^ (s.size - i) := ⟨_, rfl⟩
      rw [← hu0] at hu hst
      have h4 : ρ 4 = .int .u64 (u : Int) := by rw [hu0]; exact h4
      repeat (with_reducible first | refine c_seq ?_ | refine c_block ?_ | refine c_skip ?_ | refine x_then ?_ | refine x_block ?_)
      refine c_reg ?_
      refine l_pure rfl (s_move  h4 ?_)
      refine l_pure rfl (s_shl  rfl rfl (by omega) (r := ((u * 256 : Nat) : Int)) (by exact shl_n _ 8 _ (by decide) (wr_u64 _ ⟨by rw [Int.natCast_mul]; rfl, by omega, by omega⟩)) ?_)
      refine l_pure rfl (s_move  h0 ?_)
      refine l_pure rfl (s_move  h5 ?_)
      refine l_pure rfl (s_ixs (i := i)  rfl rfl (by omega) (by omega) Tryz.underlying9 ?_)
      refine l_pure rfl (s_conv  rfl Tryz.underlying76 ⟨_, Tryz.underlying5⟩ (r := ((dgt 256 V (s.size - 1 - i) : Nat) : Int)) (by rw [hbi]; exact IntWalk.u64_in _ (by omega)) ?_)
      refine l_pure rfl (s_or  rfl rfl (r := ((256 * u + dgt 256 V (s.size - 1 - i) : Nat) : Int)) (by exact or_byte hu hd) ?_)
      refine l_pure rfl (s_asg  rfl ?_)
      refine l_nil ?_
      repeat (with_reducible first | refine c_seq ?_ | refine c_block ?_ | refine c_skip ?_ | refine x_then ?_ | refine x_block ?_)
      refine c_reg ?_
      refine l_pure rfl (s_move  h5 ?_)
      refine l_pure rfl (s_add  rfl rfl (IntWalk.i64_in _ (by omega)) ?_)
      refine l_pure rfl (s_asg  rfl ?_)
      refine l_nil ?_
      repeat (with_reducible first | refine c_seq ?_ | refine c_block ?_ | refine c_skip ?_ | refine x_then ?_ | refine x_block ?_)
      refine ⟨i + 1, _, rfl, ⟨hil, h0, vi rfl ?_, vi rfl (by omega), rfl⟩, by omega⟩
      rw [show s.size - (i + 1) = s.size - 1 - i by omega, hst]
    · refine c_no rfl (decide_eq_false (by omega)) ?_
      repeat (with_reducible first | refine c_seq ?_ | refine c_block ?_ | refine c_skip ?_ | refine x_then ?_ | refine x_block ?_)
      refine c_exit ?_
      repeat (with_reducible first | refine x_then_exit ?_ | refine x_block_exit ?_ | refine x_block_pass rfl ?_)
      repeat (with_reducible first | refine c_seq ?_ | refine c_block ?_ | refine c_skip ?_ | refine x_then ?_ | refine x_block ?_)
      obtain rfl : i = s.size := by omega
      repeat (with_reducible first | refine c_seq ?_ | refine c_block ?_ | refine c_skip ?_ | refine x_then ?_ | refine x_block ?_)
      refine c_reg ?_
      refine l_pure rfl (s_move  h4 ?_)
      refine l_pure rfl (s_asg  rfl ?_)
      refine l_pure rfl (s_asg  rfl ?_)
      refine l_nil ?_
      repeat (with_reducible first | refine c_seq ?_ | refine c_block ?_ | refine c_skip ?_ | refine x_then ?_ | refine x_block ?_)
      refine c_ret ?_
      repeat (with_reducible first | refine x_then_ret ?_ | refine x_block_ret ?_)
      refine r_two rfl rfl rfl ?_
      rw [Nat.sub_self, Nat.pow_zero, Nat.div_one]
      exact ⟨rfl, rfl⟩
set_option maxHeartbeats 1000000 in
theorem rInt64_ok (r : RR) (w : World) (hr : Lr r ≤ MX) (h0 : 0 ≤ toQ r) :
    Ret Tryz.prog 49 #[aggR r] w fun v w' => v = .tuple #[.int .i64 (i64V (toQ r)).1, .bool (i64V (toQ r)).2] ∧ Below w.heap.size w w' := by
  have hM : MX = 1099511627776 := rfl
  have hL1 := L_toQ r
  have hc1 := fun w => rFix_ok r w hr
  obtain ⟨p, hp⟩ : ∃ p, p = toQ r := ⟨_, rfl⟩
  unfold fx at hc1
  rw [← hp] at hL1 hc1 h0 ⊢
  have hneg : ¬ p.num < 0 := fun g => by have := num_neg.1 g; grind
  have hn1 := L_num p
  have hU := fun w => rUint_ok p.num.natAbs w (by omega)
  have hval : i64V p = if p.den = 1 ∧ p.num.natAbs ≤ 9223372036854775807 then ((p.num.natAbs : Int), true) else (0, false) := by
    unfold i64V
    by_cases g : p.den = 1 ∧ p.num.natAbs ≤ 9223372036854775807
    · rw [if_pos g, if_pos ⟨g.1, by omega, by omega⟩, show ((p.num.natAbs : Nat) : Int) = p.num by omega]
    · rw [if_neg g, if_neg (fun e => g ⟨e.1, by omega⟩)]
  rw [hval]
  have hden := ofQ_den_nil (p := p)
  have hS := St.init w
  refine enter Tryz.func49 rfl Tryz.ntmps49 rfl ?_
  repeat (with_reducible first | refine c_seq ?_ | refine c_block ?_ | refine c_skip ?_ | refine x_then ?_ | refine x_block ?_)
  refine c_reg ?_
  refine l_heavy rfl (s_box (new := encR r)  rfl rfl hS ?_)
  intro b1 wz1 hS hBz1
  refine l_pure rfl (s_asg  rfl ?_)
  refine l_pure rfl (s_asg  rfl ?_)
  refine l_nil ?_
  repeat (with_reducible first | refine c_seq ?_ | refine c_block ?_ | refine c_skip ?_ | refine x_then ?_ | refine x_block ?_)
  refine c_reg ?_
  refine l_read rfl (s_ldo (k := 0)  rfl vi_37 hS rfl rfl rfl (.inl rfl) ?_)
  refine l_heavy rfl (s_call Tryz.call52 rfl (hc1 _) ?_)
  rintro _ wc2 ⟨rfl, hBc2⟩
  replace hS := hS.grow hBc2
  refine l_heavy rfl (s_sta (k := 0)  rfl rfl vi_37 hS rfl rfl rfl (Nat.le_of_ble_eq_true rfl) rfl ?_)
  intro wz3 hS
  refine l_nil ?_
  repeat (with_reducible first | refine c_seq ?_ | refine c_block ?_ | refine c_skip ?_ | refine x_then ?_ | refine x_block ?_)
  replace hS : St w _ [(b1, 37, encR (ofQ p))] := hS
  repeat (with_reducible first | refine c_seq ?_ | refine c_block ?_ | refine c_skip ?_ | refine x_then ?_ | refine x_block ?_)
  refine c_reg ?_
  refine l_pure rfl (s_fld  rfl fo_37_1 ?_)
  refine l_read rfl (s_ldo (k := 0)  rfl vi_9 hS rfl rfl rfl (.inr rfl) ?_)
  refine l_heavy rfl (s_call Tryz.call90 rfl (hU _) ?_)
  rintro r w3 ⟨rfl, rfl⟩
  refine l_pure rfl (s_move  rfl ?_)
  refine l_pure rfl (s_ext  rfl rfl ?_)
  refine l_pure rfl (s_ext  rfl rfl ?_)
  refine l_pure rfl (s_asg  rfl ?_)
  refine l_pure rfl (s_asg  rfl ?_)
  refine l_nil ?_
  repeat (with_reducible first | refine c_seq ?_ | refine c_block ?_ | refine c_skip ?_ | refine x_then ?_ | refine x_block ?_)
  by_cases hl : p.num.natAbs < 18446744073709551616
  · by_cases hd : p.den = 1
    · have hd' := hden.2 hd
      repeat (with_reducible first | refine c_seq ?_ | refine c_block ?_ | refine c_skip ?_ | refine x_then ?_ | refine x_block ?_)
      refine c_reg ?_
      refine l_pure rfl (s_move  rfl ?_)
      refine l_pure rfl (s_not  rfl ?_)
      refine l_pure rfl (s_move  rfl ?_)
      refine l_pure (gd_yes 16 (by kernel_rfl) rfl (by rw [decide_eq_true hl] <;> rfl)) (s_fld  rfl fo_37_2 ?_)
      refine l_read (gd_yes 16 (by kernel_rfl) rfl (by rw [decide_eq_true hl] <;> rfl)) (s_ldo (k := 0)  rfl vi_9 hS rfl rfl rfl (.inr rfl) ?_)
      refine l_pure (gd_yes 16 (by kernel_rfl) rfl (by rw [decide_eq_true hl] <;> rfl)) (s_nes  rfl rfl ?_)
      refine l_pure rfl (s_pick (vb rfl (by rw [decide_eq_true hl] <;> rfl)) rfl ?_)
      refine l_nil ?_
      repeat (with_reducible first | refine c_seq ?_ | refine c_block ?_ | refine c_skip ?_ | refine x_then ?_ | refine x_block ?_)
      refine c_no rfl (decide_eq_false (fun g => g hd')) ?_
      repeat (with_reducible first | refine c_seq ?_ | refine c_block ?_ | refine c_skip ?_ | refine x_then ?_ | refine x_block ?_)
      refine c_reg ?_
      refine l_pure rfl (s_fld  rfl fo_37_0 ?_)
      refine l_read rfl (s_ldo (k := 0)  rfl vi_4 hS rfl rfl rfl (.inr rfl) ?_)
      refine l_nil ?_
      repeat (with_reducible first | refine c_seq ?_ | refine c_block ?_ | refine c_skip ?_ | refine x_then ?_ | refine x_block ?_)
      refine c_no rfl (decide_eq_false hneg) ?_
      repeat (with_reducible first | refine c_seq ?_ | refine c_block ?_ | refine c_skip ?_ | refine x_then ?_ | refine x_block ?_)
      refine c_reg ?_
      refine l_pure rfl (s_move  rfl ?_)
      refine l_pure rfl (s_gtr  rfl rfl ?_)
      refine l_nil ?_
      repeat (with_reducible first | refine c_seq ?_ | refine c_block ?_ | refine c_skip ?_ | refine x_then ?_ | refine x_block ?_)
      by_cases hi : p.num.natAbs ≤ 9223372036854775807
      · rw [if_pos ⟨hd, hi⟩]
        refine c_no rfl (by rw [if_pos hl]; exact decide_eq_false (by omega)) ?_
        repeat (with_reducible first | refine c_seq ?_ | refine c_block ?_ | refine c_skip ?_ | refine x_then ?_ | refine x_block ?_)
        refine c_reg ?_
        refine l_pure rfl (s_move  rfl ?_)
        refine l_pure rfl (s_conv  rfl Tryz.underlying2 ⟨_, Tryz.underlying76⟩ (r := ((p.num.natAbs : Nat) : Int)) (by rw [if_pos hl]; exact IntWalk.i64_in _ (by omega)) ?_)
        refine l_pure rfl (s_asg  rfl ?_)
        refine l_pure rfl (s_asg  rfl ?_)
        refine l_nil ?_
        repeat (with_reducible first | refine c_seq ?_ | refine c_block ?_ | refine c_skip ?_ | refine x_then ?_ | refine x_block ?_)
        refine c_ret ?_
        repeat (with_reducible first | refine x_then_ret ?_ | refine x_block_ret ?_)
        refine r_two rfl rfl rfl ?_
        exact ⟨rfl, hS.below⟩
      · rw [if_neg (fun g => hi g.2)]
        refine c_yes rfl (by rw [if_pos hl]; exact decide_eq_true (by omega)) ?_
        repeat (with_reducible first | refine c_seq ?_ | refine c_block ?_ | refine c_skip ?_ | refine x_then ?_ | refine x_block ?_)
        refine c_reg ?_
        refine l_pure rfl (s_asg  rfl ?_)
        refine l_pure rfl (s_asg  rfl ?_)
        refine l_nil ?_
        repeat (with_reducible first | refine c_seq ?_ | refine c_block ?_ | refine c_skip ?_ | refine x_then ?_ | refine x_block ?_)
        refine c_ret ?_
        repeat (with_reducible first | refine x_then_ret ?_ | refine x_block_ret ?_)
        refine r_two rfl rfl rfl ?_
        exact ⟨rfl, hS.below⟩
    · rw [if_neg (fun g => hd g.1)]
      repeat (with_reducible first | refine c_seq ?_ | refine c_block ?_ | refine c_skip ?_ | refine x_then ?_ | refine x_block ?_)
      refine c_reg ?_
      refine l_pure rfl (s_move  rfl ?_)
      refine l_pure rfl (s_not  rfl ?_)
      refine l_pure rfl (s_move  rfl ?_)
      refine l_pure (gd_yes 16 (by kernel_rfl) rfl (by rw [decide_eq_true hl] <;> rfl)) (s_fld  rfl fo_37_2 ?_)
      refine l_read (gd_yes 16 (by kernel_rfl) rfl (by rw [decide_eq_true hl] <;> rfl)) (s_ldo (k := 0)  rfl vi_9 hS rfl rfl rfl (.inr rfl) ?_)
      refine l_pure (gd_yes 16 (by kernel_rfl) rfl (by rw [decide_eq_true hl] <;> rfl)) (s_nes  rfl rfl ?_)
      refine l_pure rfl (s_pick (vb rfl (by rw [decide_eq_true hl] <;> rfl)) rfl ?_)
      refine l_nil ?_
      repeat (with_reducible first | refine c_seq ?_ | refine c_block ?_ | refine c_skip ?_ | refine x_then ?_ | refine x_block ?_)
      refine c_yes rfl (decide_eq_true (fun g => hd (hden.1 g))) ?_
      repeat (with_reducible first | refine c_seq ?_ | refine c_block ?_ | refine c_skip ?_ | refine x_then ?_ | refine x_block ?_)
      refine c_reg ?_
      refine l_pure rfl (s_asg  rfl ?_)
      refine l_pure rfl (s_asg  rfl ?_)
      refine l_nil ?_
      repeat (with_reducible first | refine c_seq ?_ | refine c_block ?_ | refine c_skip ?_ | refine x_then ?_ | refine x_block ?_)
      refine c_ret ?_
      repeat (with_reducible first | refine x_then_ret ?_ | refine x_block_ret ?_)
      refine r_two rfl rfl rfl ?_
      exact ⟨rfl, hS.below⟩
  · rw [if_neg (fun g => hl (by omega))]
    repeat (with_reducible first | refine c_seq ?_ | refine c_block ?_ | refine c_skip ?_ | refine x_then ?_ | refine x_block ?_)
    refine c_reg ?_
    refine l_pure rfl (s_move  rfl ?_)
    refine l_pure rfl (s_not  rfl ?_)
    refine l_pure rfl (s_move  rfl ?_)
    refine l_no (gno_yes 16 (by kernel_rfl) rfl (by rw [decide_eq_false hl] <;> rfl)) ?_
    refine l_no (gno_yes 16 (by kernel_rfl) rfl (by rw [decide_eq_false hl] <;> rfl)) ?_
    refine l_no (gno_yes 16 (by kernel_rfl) rfl (by rw [decide_eq_false hl] <;> rfl)) ?_
    refine l_pure rfl (s_pick (vb rfl (by rw [decide_eq_false hl] <;> rfl)) rfl ?_)
    refine l_nil ?_
    repeat (with_reducible first | refine c_seq ?_ | refine c_block ?_ | refine c_skip ?_ | refine x_then ?_ | refine x_block ?_)
    refine c_yes rfl (rfl) ?_
    repeat (with_reducible first | refine c_seq ?_ | refine c_block ?_ | refine c_skip ?_ | refine x_then ?_ | refine x_block ?_)
    refine c_reg ?_
    refine l_pure rfl (s_asg  rfl ?_)
    refine l_pure rfl (s_asg  rfl ?_)
    refine l_nil ?_
    repeat (with_reducible first | refine c_seq ?_ | refine c_block ?_ | refine c_skip ?_ | refine x_then ?_ | refine x_block ?_)
    refine c_ret ?_
    repeat (with_reducible first | refine x_then_ret ?_ | refine x_block_ret ?_)
    refine r_two rfl rfl rfl ?_
    exact ⟨rfl, hS.below⟩
set_option maxHeartbeats 1000000 in
theorem rFloor_ok (r : RR) (w : World) (hr : Lr r + 1 ≤ MX) :
    Ret Tryz.prog 50 #[aggR r] w fun v w' => v = aggR (ofQ ((toQ r).floor : Rat)) ∧ Below w.heap.size w w' := by
  have hM : MX = 1099511627776 := rfl
  have hL1 := L_toQ r
  have hc1 := fun w => rFix_ok r w (show Lr r ≤ MX by omega)
  obtain ⟨p, hp⟩ : ∃ p, p = toQ r := ⟨_, rfl⟩
  unfold fx at hc1
  rw [← hp] at hL1 hc1 ⊢
  have hn1 := L_num p
  have hd1 := L_den p
  have l1 := limb_len_le_size p.num.natAbs
  have l2 := limb_len_le_size p.den
  have l3 := limb_len_mono (Nat.div_le_self p.num.natAbs p.den)
  have l4 := limb_len_le_size (flN p)
  have hq1 : (natS (p.num.natAbs / p.den)).size ≤ (natS p.num.natAbs).size := natS_size_mono (Nat.div_le_self _ _)
  have h1s := natS_one_size
  have hq2 := natS_size_add (p.num.natAbs / p.den) 1
  have hLp := L_pos p
  have hfs : (natS (flN p)).size ≤ L p + 1 := by unfold flN; split <;> omega
  have l5 : (limb 1).length = 1 := by rw [limb_one]; rfl
  have hlp := fun w => rlimbs_ok (natS p.num.natAbs) w (by omega)
  rw [val_natS] at hlp
  have hS := St.init w
  refine enter Tryz.func50 rfl Tryz.ntmps50 rfl ?_
  repeat (with_reducible first | refine c_seq ?_ | refine c_block ?_ | refine c_skip ?_ | refine x_then ?_ | refine x_block ?_)
  refine c_reg ?_
  refine l_heavy rfl (s_box (new := encR r)  rfl rfl hS ?_)
  intro b1 wz1 hS hBz1
  refine l_heavy rfl (s_alloc  vi_37 hS ?_)
  intro b2 wz2 hS hBz2
  refine l_nil ?_
  repeat (with_reducible first | refine c_seq ?_ | refine c_block ?_ | refine c_skip ?_ | refine x_then ?_ | refine x_block ?_)
  refine c_reg ?_
  refine l_read rfl (s_ldo (k := 1)  rfl vi_37 hS rfl rfl rfl (.inl rfl) ?_)
  refine l_heavy rfl (s_call Tryz.call52 rfl (hc1 _) ?_)
  rintro _ wc3 ⟨rfl, hBc3⟩
  replace hS := hS.grow hBc3
  refine l_heavy rfl (s_sta (k := 1)  rfl rfl vi_37 hS rfl rfl rfl (Nat.le_of_ble_eq_true rfl) rfl ?_)
  intro wz4 hS
  refine l_nil ?_
  repeat (with_reducible first | refine c_seq ?_ | refine c_block ?_ | refine c_skip ?_ | refine x_then ?_ | refine x_block ?_)
  replace hS : St w _ [(b2, 37, encR zRR), (b1, 37, encR (ofQ p))] := hS
  repeat (with_reducible first | refine c_seq ?_ | refine c_block ?_ | refine c_skip ?_ | refine x_then ?_ | refine x_block ?_)
  refine c_reg ?_
  refine l_pure rfl (s_fld  rfl fo_37_2 ?_)
  refine l_read rfl (s_ldo (k := 1)  rfl vi_9 hS rfl rfl rfl (.inr rfl) ?_)
  refine l_pure rfl (s_eqs  rfl rfl ?_)
  refine l_nil ?_
  repeat (with_reducible first | refine c_seq ?_ | refine c_block ?_ | refine c_skip ?_ | refine x_then ?_ | refine x_block ?_)
  by_cases hd : p.den = 1
  · refine c_yes rfl (decide_eq_true (ofQ_den_nil.2 hd)) ?_
    repeat (with_reducible first | refine c_seq ?_ | refine c_block ?_ | refine c_skip ?_ | refine x_then ?_ | refine x_block ?_)
    refine c_reg ?_
    refine l_read rfl (s_ldo (k := 1)  rfl vi_37 hS rfl rfl rfl (.inl rfl) ?_)
    refine l_heavy rfl (s_sta (k := 0)  rfl rfl vi_37 hS rfl rfl rfl (Nat.le_of_ble_eq_true rfl) rfl ?_)
    intro wz5 hS
    refine l_nil ?_
    repeat (with_reducible first | refine c_seq ?_ | refine c_block ?_ | refine c_skip ?_ | refine x_then ?_ | refine x_block ?_)
    refine c_ret ?_
    repeat (with_reducible first | refine x_then_ret ?_ | refine x_block_ret ?_)
    refine r_cell (k := 0) rfl rfl vi_37 hS rfl rfl ?_
    rw [floor_of_den hd]
    exact ⟨rfl, hS.below⟩
  · refine c_no rfl (decide_eq_false (fun g => hd (ofQ_den_nil.1 g))) ?_
    repeat (with_reducible first | refine c_seq ?_ | refine c_block ?_ | refine c_skip ?_ | refine x_then ?_ | refine x_block ?_)
    refine c_draw [(0, .pure), (1, .read), (3, .read), (2, .grow), (4, .grow), (5, .grow), (6, .pure), (7, .pure), (8, .pure), (9, .pure), (10, .pure)] (by kernel_rfl) (by kernel_rfl) hS ?_
    intro wz6 hS hBz6
    refine w_pure rfl rfl (s_fld  rfl fo_37_1 ?_)
    refine w_read rfl rfl (s_ldo (k := 1)  rfl vi_9 hS rfl rfl rfl (.inr rfl) ?_)
    refine w_read rfl rfl (s_ldo (k := 1)  rfl vi_37 hS rfl rfl rfl (.inl rfl) ?_)
    refine w_grow rfl rfl (s_call Tryz.call92 rfl (hlp _) ?_)
    rintro vx w3 ⟨hvx, hB3⟩
    refine ⟨hB3, ?_⟩
    replace hS := hS.grow hB3
    refine w_grow rfl rfl (s_call Tryz.call93 rfl (rden_ok p _ (by omega)) ?_)
    rintro vd w4 ⟨hvd, hB4⟩
    refine ⟨hB4, ?_⟩
    replace hS := hS.grow hB4
    refine w_grow rfl rfl (s_call Tryz.call91 rfl (rdivide_ok _ _ _ _ _ (hvx.below hB4) hvd (Nat.pos_of_ne_zero p.den_nz) (by omega)) ?_)
    rintro vq w5 ⟨⟨q, s, rfl, hvq, _⟩, hB5⟩
    refine ⟨hB5, ?_⟩
    replace hS := hS.grow hB5
    refine w_pure rfl rfl (s_move  rfl ?_)
    refine w_pure rfl rfl (s_ext  rfl rfl ?_)
    refine w_pure rfl rfl (s_ext  rfl rfl ?_)
    refine w_pure rfl rfl (s_asg  rfl ?_)
    refine w_pure rfl rfl (s_asg  rfl ?_)
    refine w_end ?_
    repeat (with_reducible first | refine c_seq ?_ | refine c_block ?_ | refine c_skip ?_ | refine x_then ?_ | refine x_block ?_)
    clear hvx hvd
    repeat (with_reducible first | refine c_seq ?_ | refine c_block ?_ | refine c_skip ?_ | refine x_then ?_ | refine x_block ?_)
    refine c_reg ?_
    refine l_pure rfl (s_fld  rfl fo_37_0 ?_)
    refine l_read rfl (s_ldo (k := 1)  rfl vi_4 hS rfl rfl rfl (.inr rfl) ?_)
    refine l_nil ?_
    repeat (with_reducible first | refine c_seq ?_ | refine c_block ?_ | refine c_skip ?_ | refine x_then ?_ | refine x_block ?_)
    by_cases hneg : p.num < 0
    · have hfl : flN p = p.num.natAbs / p.den + 1 := by unfold flN; rw [if_pos ⟨hneg, rest_ne hd⟩]
      have hmk := mkRat_fl p
      rw [hfl] at hmk l4 hfs
      refine c_yes rfl (decide_eq_true hneg) ?_
      repeat (with_reducible first | refine c_seq ?_ | refine c_block ?_ | refine c_skip ?_ | refine x_then ?_ | refine x_block ?_)
      refine c_reg ?_
      refine l_pure rfl (s_move  rfl ?_)
      refine l_heavy rfl (s_bsl (vs := [_])  rfl si_93 rfl (by decide) (by decide) (by decide) (by simp [Value.cells]) rfl hS ?_)
      intro b7 wz8 hS hBz8
      have hBd := hBz8
      have hsl := St.slk (L := [1]) hS (k := 0) rfl (n := 1) (cap := 1) (by simp) (by omega) (by omega)
      rw [← limb_one, List.take_of_length_le (by omega)] at hsl
      refine l_heavy rfl (s_call Tryz.call94 rfl (rplus_ok _ _ _ _ _ (hvq.below hBd) hsl (by omega) (by omega)) ?_)
      rintro v w6 ⟨hv, hB6⟩
      replace hS := hS.grow hB6
      refine l_pure rfl (s_asg  rfl ?_)
      refine l_nil ?_
      repeat (with_reducible first | refine c_seq ?_ | refine c_block ?_ | refine c_skip ?_ | refine x_then ?_ | refine x_block ?_)
      refine c_reg ?_
      refine l_pure rfl (s_fld  rfl fo_37_0 ?_)
      refine l_read rfl (s_ldo (k := 2)  rfl vi_4 hS rfl rfl rfl (.inr rfl) ?_)
      refine l_pure rfl (s_move  rfl ?_)
      refine l_heavy rfl (s_bsl (vs := [_])  rfl si_93 rfl (by decide) (by decide) (by decide) (by simp [Value.cells]) rfl hS ?_)
      intro b9 wz10 hS hBz10
      have hBe := hBz10
      have hsl2 := St.slk (L := [1]) hS (k := 0) rfl (n := 1) (cap := 1) (by simp) (by omega) (by omega)
      rw [← limb_one, List.take_of_length_le (by omega)] at hsl2
      refine l_heavy rfl (s_call Tryz.call95 rfl (rreduced_ok _ _ _ _ _ _ (hv.below hBe) hsl2 (by omega) (by omega) (by decide)) ?_)
      rintro v7 w7 ⟨rfl, hB7⟩
      replace hS := hS.grow hB7
      refine l_heavy rfl (s_sta (k := 2)  rfl rfl vi_37 hS rfl rfl rfl (Nat.le_of_ble_eq_true rfl) rfl ?_)
      intro wz11 hS
      refine l_nil ?_
      repeat (with_reducible first | refine c_seq ?_ | refine c_block ?_ | refine c_skip ?_ | refine x_then ?_ | refine x_block ?_)
      refine c_ret ?_
      repeat (with_reducible first | refine x_then_ret ?_ | refine x_block_ret ?_)
      refine r_cell (k := 2) rfl rfl vi_37 hS rfl rfl ?_
      exact ⟨congrArg (fun q => aggR (ofQ q)) hmk, hS.below⟩
    · have hfl : flN p = p.num.natAbs / p.den := by unfold flN; rw [if_neg (fun g => hneg g.1)]
      have hmk := mkRat_fl p
      rw [hfl] at hmk l4 hfs
      refine c_no rfl (decide_eq_false hneg) ?_
      repeat (with_reducible first | refine c_seq ?_ | refine c_block ?_ | refine c_skip ?_ | refine x_then ?_ | refine x_block ?_)
      refine c_reg ?_
      refine l_pure rfl (s_fld  rfl fo_37_0 ?_)
      refine l_read rfl (s_ldo (k := 1)  rfl vi_4 hS rfl rfl rfl (.inr rfl) ?_)
      refine l_pure rfl (s_move  rfl ?_)
      refine l_heavy rfl (s_bsl (vs := [_])  rfl si_93 rfl (by decide) (by decide) (by decide) (by simp [Value.cells]) rfl hS ?_)
      intro b12 wz13 hS hBz13
      have hBe := hBz13
      have hsl2 := St.slk (L := [1]) hS (k := 0) rfl (n := 1) (cap := 1) (by simp) (by omega) (by omega)
      rw [← limb_one, List.take_of_length_le (by omega)] at hsl2
      refine l_heavy rfl (s_call Tryz.call95 rfl (rreduced_ok _ _ _ _ _ _ (hvq.below hBe) hsl2 (by omega) (by omega) (by decide)) ?_)
      rintro v7 w7 ⟨rfl, hB7⟩
      replace hS := hS.grow hB7
      refine l_heavy rfl (s_sta (k := 1)  rfl rfl vi_37 hS rfl rfl rfl (Nat.le_of_ble_eq_true rfl) rfl ?_)
      intro wz14 hS
      refine l_nil ?_
      repeat (with_reducible first | refine c_seq ?_ | refine c_block ?_ | refine c_skip ?_ | refine x_then ?_ | refine x_block ?_)
      refine c_ret ?_
      repeat (with_reducible first | refine x_then_ret ?_ | refine x_block_ret ?_)
      refine r_cell (k := 1) rfl rfl vi_37 hS rfl rfl ?_
      exact ⟨congrArg (fun q => aggR (ofQ q)) hmk, hS.below⟩
set_option maxHeartbeats 1000000 in
theorem rTimes_ok (p q : Rat) (w : World) (hL : L p + L q ≤ MX) :
    Ret Tryz.prog 57 #[aggR (ofQ p), aggR (ofQ q)] w fun v w' => v = aggR (ofQ (p * q)) ∧ Below w.heap.size w w' := by
  have hM : MX = 1099511627776 := rfl
  have hn1 := L_num p
  have hn2 := L_num q
  have hd1 := L_den p
  have hd2 := L_den q
  have hm1 := natS_size_mul p.num.natAbs q.num.natAbs
  have hm2 := natS_size_mul p.den q.den
  have l1 := limb_len_le_size p.num.natAbs
  have l2 := limb_len_le_size q.num.natAbs
  have l3 := limb_len_le_size p.den
  have l4 := limb_len_le_size q.den
  have l5 := limb_len_le_size (p.num.natAbs * q.num.natAbs)
  have l6 := limb_len_le_size (p.den * q.den)
  have hlp := fun w => rlimbs_ok (natS p.num.natAbs) w (by omega)
  have hlq := fun w => rlimbs_ok (natS q.num.natAbs) w (by omega)
  rw [val_natS] at hlp hlq
  have hS := St.init w
  refine enter Tryz.func57 rfl Tryz.ntmps57 rfl ?_
  repeat (with_reducible first | refine c_seq ?_ | refine c_block ?_ | refine c_skip ?_ | refine x_then ?_ | refine x_block ?_)
  refine c_reg ?_
  refine l_heavy rfl (s_box (new := encR (ofQ p))  rfl rfl hS ?_)
  intro b1 wz2 hS hBz2
  refine l_heavy rfl (s_box (new := encR (ofQ q))  rfl rfl hS ?_)
  intro b3 wz4 hS hBz4
  refine l_heavy rfl (s_alloc  vi_37 hS ?_)
  intro b5 wz6 hS hBz6
  refine l_nil ?_
  repeat (with_reducible first | refine c_seq ?_ | refine c_block ?_ | refine c_skip ?_ | refine x_then ?_ | refine x_block ?_)
  by_cases hp0 : p = 0
  · repeat (with_reducible first | refine c_seq ?_ | refine c_block ?_ | refine c_skip ?_ | refine x_then ?_ | refine x_block ?_)
    refine c_reg ?_
    refine l_pure rfl (s_fld  rfl fo_37_1 ?_)
    refine l_read rfl (s_ldo (k := 2)  rfl vi_9 hS rfl rfl rfl (.inr rfl) ?_)
    refine l_pure rfl (s_eqs  rfl rfl ?_)
    refine l_pure rfl (s_move  rfl ?_)
    refine l_no (gno_yes 8 (by kernel_rfl) rfl (decide_eq_true (ofQ_num_nil.2 hp0))) ?_
    refine l_no (gno_yes 8 (by kernel_rfl) rfl (decide_eq_true (ofQ_num_nil.2 hp0))) ?_
    refine l_no (gno_yes 8 (by kernel_rfl) rfl (decide_eq_true (ofQ_num_nil.2 hp0))) ?_
    refine l_pure rfl (s_pick (vb rfl (decide_eq_true (ofQ_num_nil.2 hp0))) rfl ?_)
    refine l_nil ?_
    repeat (with_reducible first | refine c_seq ?_ | refine c_block ?_ | refine c_skip ?_ | refine x_then ?_ | refine x_block ?_)
    refine c_yes rfl (rfl) ?_
    repeat (with_reducible first | refine c_seq ?_ | refine c_block ?_ | refine c_skip ?_ | refine x_then ?_ | refine x_block ?_)
    refine c_reg ?_
    refine l_pure rfl (s_build  rfl bz_37 ?_)
    refine l_heavy rfl (s_sta (k := 0)  rfl rfl vi_37 hS rfl rfl rfl (Nat.le_of_ble_eq_true rfl) rfl ?_)
    intro wz7 hS
    refine l_nil ?_
    repeat (with_reducible first | refine c_seq ?_ | refine c_block ?_ | refine c_skip ?_ | refine x_then ?_ | refine x_block ?_)
    refine c_ret ?_
    repeat (with_reducible first | refine x_then_ret ?_ | refine x_block_ret ?_)
    refine r_cell (k := 0) rfl rfl vi_37 hS rfl rfl ?_
    rw [hp0, Rat.zero_mul, ofQ_zero]
    exact ⟨rfl, hS.below⟩
  · by_cases hq0 : q = 0
    · repeat (with_reducible first | refine c_seq ?_ | refine c_block ?_ | refine c_skip ?_ | refine x_then ?_ | refine x_block ?_)
      refine c_reg ?_
      refine l_pure rfl (s_fld  rfl fo_37_1 ?_)
      refine l_read rfl (s_ldo (k := 2)  rfl vi_9 hS rfl rfl rfl (.inr rfl) ?_)
      refine l_pure rfl (s_eqs  rfl rfl ?_)
      refine l_pure rfl (s_move  rfl ?_)
      refine l_pure (gd_yes 8 (by kernel_rfl) rfl (decide_eq_false (fun g => hp0 (ofQ_num_nil.1 g)))) (s_fld  rfl fo_37_1 ?_)
      refine l_read (gd_yes 8 (by kernel_rfl) rfl (decide_eq_false (fun g => hp0 (ofQ_num_nil.1 g)))) (s_ldo (k := 1)  rfl vi_9 hS rfl rfl rfl (.inr rfl) ?_)
      refine l_pure (gd_yes 8 (by kernel_rfl) rfl (decide_eq_false (fun g => hp0 (ofQ_num_nil.1 g)))) (s_eqs  rfl rfl ?_)
      refine l_pure rfl (s_pick (vb rfl (decide_eq_false (fun g => hp0 (ofQ_num_nil.1 g)))) rfl ?_)
      refine l_nil ?_
      repeat (with_reducible first | refine c_seq ?_ | refine c_block ?_ | refine c_skip ?_ | refine x_then ?_ | refine x_block ?_)
      refine c_yes rfl (decide_eq_true (ofQ_num_nil.2 hq0)) ?_
      repeat (with_reducible first | refine c_seq ?_ | refine c_block ?_ | refine c_skip ?_ | refine x_then ?_ | refine x_block ?_)
      refine c_reg ?_
      refine l_pure rfl (s_build  rfl bz_37 ?_)
      refine l_heavy rfl (s_sta (k := 0)  rfl rfl vi_37 hS rfl rfl rfl (Nat.le_of_ble_eq_true rfl) rfl ?_)
      intro wz8 hS
      refine l_nil ?_
      repeat (with_reducible first | refine c_seq ?_ | refine c_block ?_ | refine c_skip ?_ | refine x_then ?_ | refine x_block ?_)
      refine c_ret ?_
      repeat (with_reducible first | refine x_then_ret ?_ | refine x_block_ret ?_)
      refine r_cell (k := 0) rfl rfl vi_37 hS rfl rfl ?_
      rw [hq0, Rat.mul_zero, ofQ_zero]
      exact ⟨rfl, hS.below⟩
    · repeat (with_reducible first | refine c_seq ?_ | refine c_block ?_ | refine c_skip ?_ | refine x_then ?_ | refine x_block ?_)
      refine c_reg ?_
      refine l_pure rfl (s_fld  rfl fo_37_1 ?_)
      refine l_read rfl (s_ldo (k := 2)  rfl vi_9 hS rfl rfl rfl (.inr rfl) ?_)
      refine l_pure rfl (s_eqs  rfl rfl ?_)
      refine l_pure rfl (s_move  rfl ?_)
      refine l_pure (gd_yes 8 (by kernel_rfl) rfl (decide_eq_false (fun g => hp0 (ofQ_num_nil.1 g)))) (s_fld  rfl fo_37_1 ?_)
      refine l_read (gd_yes 8 (by kernel_rfl) rfl (decide_eq_false (fun g => hp0 (ofQ_num_nil.1 g)))) (s_ldo (k := 1)  rfl vi_9 hS rfl rfl rfl (.inr rfl) ?_)
      refine l_pure (gd_yes 8 (by kernel_rfl) rfl (decide_eq_false (fun g => hp0 (ofQ_num_nil.1 g)))) (s_eqs  rfl rfl ?_)
      refine l_pure rfl (s_pick (vb rfl (decide_eq_false (fun g => hp0 (ofQ_num_nil.1 g)))) rfl ?_)
      refine l_nil ?_
      repeat (with_reducible first | refine c_seq ?_ | refine c_block ?_ | refine c_skip ?_ | refine x_then ?_ | refine x_block ?_)
      refine c_no rfl (decide_eq_false (fun g => hq0 (ofQ_num_nil.1 g))) ?_
      repeat (with_reducible first | refine c_seq ?_ | refine c_block ?_ | refine c_skip ?_ | refine x_then ?_ | refine x_block ?_)
      refine c_draw [(0, .pure), (1, .read), (2, .pure), (3, .read), (4, .pure), (5, .pure), (6, .read), (8, .pure), (9, .read), (12, .read), (14, .read), (7, .grow), (10, .grow), (11, .grow), (13, .grow), (15, .grow), (16, .grow), (17, .grow), (18, .free)] (by kernel_rfl) (by kernel_rfl) hS ?_
      intro wz9 hS hBz9
      refine w_pure rfl rfl (s_fld  rfl fo_37_0 ?_)
      refine w_read rfl rfl (s_ldo (k := 2)  rfl vi_4 hS rfl rfl rfl (.inr rfl) ?_)
      refine w_pure rfl rfl (s_fld  rfl fo_37_0 ?_)
      refine w_read rfl rfl (s_ldo (k := 1)  rfl vi_4 hS rfl rfl rfl (.inr rfl) ?_)
      refine w_pure rfl rfl (s_neb  rfl rfl Tryz.underlying4 ?_)
      refine w_pure rfl rfl (s_fld  rfl fo_37_1 ?_)
      refine w_read rfl rfl (s_ldo (k := 2)  rfl vi_9 hS rfl rfl rfl (.inr rfl) ?_)
      refine w_pure rfl rfl (s_fld  rfl fo_37_1 ?_)
      refine w_read rfl rfl (s_ldo (k := 1)  rfl vi_9 hS rfl rfl rfl (.inr rfl) ?_)
      refine w_read rfl rfl (s_ldo (k := 2)  rfl vi_37 hS rfl rfl rfl (.inl rfl) ?_)
      refine w_read rfl rfl (s_ldo (k := 1)  rfl vi_37 hS rfl rfl rfl (.inl rfl) ?_)
      refine w_grow rfl rfl (s_call Tryz.call92 rfl (hlp _) ?_)
      rintro vx w3 ⟨hvx, hB3⟩
      refine ⟨hB3, ?_⟩
      replace hS := hS.grow hB3
      refine w_grow rfl rfl (s_call Tryz.call92 rfl (hlq _) ?_)
      rintro vy w4 ⟨hvy, hB4⟩
      refine ⟨hB4, ?_⟩
      replace hS := hS.grow hB4
      refine w_grow rfl rfl (s_call Tryz.call98 rfl (rtimes_ok _ _ _ _ _ (hvx.below hB4) hvy (by omega) (by omega)) ?_)
      rintro vX w5 ⟨hvX, hB5⟩
      refine ⟨hB5, ?_⟩
      replace hS := hS.grow hB5
      refine w_grow rfl rfl (s_call Tryz.call93 rfl (rden_ok p _ (by omega)) ?_)
      rintro vp w6 ⟨hvp, hB6⟩
      refine ⟨hB6, ?_⟩
      replace hS := hS.grow hB6
      refine w_grow rfl rfl (s_call Tryz.call93 rfl (rden_ok q _ (by omega)) ?_)
      rintro vq w7 ⟨hvq, hB7⟩
      refine ⟨hB7, ?_⟩
      replace hS := hS.grow hB7
      refine w_grow rfl rfl (s_call Tryz.call98 rfl (rtimes_ok _ _ _ _ _ (hvp.below hB7) hvq (by omega) (by omega)) ?_)
      rintro vD w8 ⟨hvD, hB8⟩
      refine ⟨hB8, ?_⟩
      replace hS := hS.grow hB8
      refine w_grow rfl rfl (s_call Tryz.call95 rfl (rreduced_ok _ _ _ _ _ _ (((hvX.below hB6).below hB7).below hB8) hvD (by omega) (by omega) (Nat.mul_ne_zero p.den_nz q.den_nz)) ?_)
      rintro v9 w9 ⟨rfl, hB9⟩
      refine ⟨hB9, ?_⟩
      replace hS := hS.grow hB9
      refine w_free rfl rfl (s_sta (k := 0)  rfl rfl vi_37 hS rfl rfl rfl (Nat.le_of_ble_eq_true rfl) rfl ?_)
      intro wz10 hS
      refine w_end ?_
      repeat (with_reducible first | refine c_seq ?_ | refine c_block ?_ | refine c_skip ?_ | refine x_then ?_ | refine x_block ?_)
      refine c_ret ?_
      repeat (with_reducible first | refine x_then_ret ?_ | refine x_block_ret ?_)
      refine r_cell (k := 0) rfl rfl vi_37 hS rfl rfl ?_
      exact ⟨congrArg (fun q => aggR (ofQ q)) (mulQ_eq p q), hS.below⟩
set_option maxHeartbeats 1000000 in
theorem rOver_ok (p q : Rat) (w : World) (hL : L p + L q ≤ MX) (hq0 : q ≠ 0) :
    Ret Tryz.prog 56 #[aggR (ofQ p), aggR (ofQ q)] w fun v w' => v = aggR (ofQ (p / q)) ∧ Below w.heap.size w w' := by
  have hM : MX = 1099511627776 := rfl
  have hn1 := L_num p
  have hn2 := L_num q
  have hd1 := L_den p
  have hd2 := L_den q
  have hm1 := natS_size_mul p.num.natAbs q.den
  have hm2 := natS_size_mul p.den q.num.natAbs
  have l1 := limb_len_le_size p.num.natAbs
  have l2 := limb_len_le_size q.num.natAbs
  have l3 := limb_len_le_size p.den
  have l4 := limb_len_le_size q.den
  have l5 := limb_len_le_size (p.num.natAbs * q.den)
  have l6 := limb_len_le_size (p.den * q.num.natAbs)
  have hlp := fun w => rlimbs_ok (natS p.num.natAbs) w (by omega)
  have hlq := fun w => rlimbs_ok (natS q.num.natAbs) w (by omega)
  rw [val_natS] at hlp hlq
  have hqn : q.num.natAbs ≠ 0 := fun h => hq0 (Rat.num_eq_zero.1 (Int.natAbs_eq_zero.1 h))
  have hS := St.init w
  refine enter Tryz.func56 rfl Tryz.ntmps56 rfl ?_
  repeat (with_reducible first | refine c_seq ?_ | refine c_block ?_ | refine c_skip ?_ | refine x_then ?_ | refine x_block ?_)
  refine c_reg ?_
  refine l_heavy rfl (s_box (new := encR (ofQ p))  rfl rfl hS ?_)
  intro b1 wz2 hS hBz2
  refine l_heavy rfl (s_box (new := encR (ofQ q))  rfl rfl hS ?_)
  intro b3 wz4 hS hBz4
  refine l_heavy rfl (s_alloc  vi_37 hS ?_)
  intro b5 wz6 hS hBz6
  refine l_nil ?_
  repeat (with_reducible first | refine c_seq ?_ | refine c_block ?_ | refine c_skip ?_ | refine x_then ?_ | refine x_block ?_)
  refine c_reg ?_
  refine l_pure rfl (s_fld  rfl fo_37_1 ?_)
  refine l_read rfl (s_ldo (k := 2)  rfl vi_9 hS rfl rfl rfl (.inr rfl) ?_)
  refine l_pure rfl (s_eqs  rfl rfl ?_)
  refine l_nil ?_
  repeat (with_reducible first | refine c_seq ?_ | refine c_block ?_ | refine c_skip ?_ | refine x_then ?_ | refine x_block ?_)
  by_cases hp0 : p = 0
  · refine c_yes rfl (decide_eq_true (ofQ_num_nil.2 hp0)) ?_
    repeat (with_reducible first | refine c_seq ?_ | refine c_block ?_ | refine c_skip ?_ | refine x_then ?_ | refine x_block ?_)
    refine c_reg ?_
    refine l_pure rfl (s_build  rfl bz_37 ?_)
    refine l_heavy rfl (s_sta (k := 0)  rfl rfl vi_37 hS rfl rfl rfl (Nat.le_of_ble_eq_true rfl) rfl ?_)
    intro wz7 hS
    refine l_nil ?_
    repeat (with_reducible first | refine c_seq ?_ | refine c_block ?_ | refine c_skip ?_ | refine x_then ?_ | refine x_block ?_)
    refine c_ret ?_
    repeat (with_reducible first | refine x_then_ret ?_ | refine x_block_ret ?_)
    refine r_cell (k := 0) rfl rfl vi_37 hS rfl rfl ?_
    rw [hp0, Rat.div_def, Rat.zero_mul, ofQ_zero]
    exact ⟨rfl, hS.below⟩
  · refine c_no rfl (decide_eq_false (fun g => hp0 (ofQ_num_nil.1 g))) ?_
    repeat (with_reducible first | refine c_seq ?_ | refine c_block ?_ | refine c_skip ?_ | refine x_then ?_ | refine x_block ?_)
    refine c_draw [(0, .pure), (1, .read), (2, .pure), (3, .read), (4, .pure), (5, .pure), (6, .read), (8, .read), (11, .read), (13, .pure), (14, .read), (7, .grow), (9, .grow), (10, .grow), (12, .grow), (15, .grow), (16, .grow), (17, .grow), (18, .free)] (by kernel_rfl) (by kernel_rfl) hS ?_
    intro wz8 hS hBz8
    refine w_pure rfl rfl (s_fld  rfl fo_37_0 ?_)
    refine w_read rfl rfl (s_ldo (k := 2)  rfl vi_4 hS rfl rfl rfl (.inr rfl) ?_)
    refine w_pure rfl rfl (s_fld  rfl fo_37_0 ?_)
    refine w_read rfl rfl (s_ldo (k := 1)  rfl vi_4 hS rfl rfl rfl (.inr rfl) ?_)
    refine w_pure rfl rfl (s_neb  rfl rfl Tryz.underlying4 ?_)
    refine w_pure rfl rfl (s_fld  rfl fo_37_1 ?_)
    refine w_read rfl rfl (s_ldo (k := 2)  rfl vi_9 hS rfl rfl rfl (.inr rfl) ?_)
    refine w_read rfl rfl (s_ldo (k := 1)  rfl vi_37 hS rfl rfl rfl (.inl rfl) ?_)
    refine w_read rfl rfl (s_ldo (k := 2)  rfl vi_37 hS rfl rfl rfl (.inl rfl) ?_)
    refine w_pure rfl rfl (s_fld  rfl fo_37_1 ?_)
    refine w_read rfl rfl (s_ldo (k := 1)  rfl vi_9 hS rfl rfl rfl (.inr rfl) ?_)
    refine w_grow rfl rfl (s_call Tryz.call92 rfl (hlp _) ?_)
    rintro vx w3 ⟨hvx, hB3⟩
    refine ⟨hB3, ?_⟩
    replace hS := hS.grow hB3
    refine w_grow rfl rfl (s_call Tryz.call93 rfl (rden_ok q _ (by omega)) ?_)
    rintro vq w4 ⟨hvq, hB4⟩
    refine ⟨hB4, ?_⟩
    replace hS := hS.grow hB4
    refine w_grow rfl rfl (s_call Tryz.call98 rfl (rtimes_ok _ _ _ _ _ (hvx.below hB4) hvq (by omega) (by omega)) ?_)
    rintro vX w5 ⟨hvX, hB5⟩
    refine ⟨hB5, ?_⟩
    replace hS := hS.grow hB5
    refine w_grow rfl rfl (s_call Tryz.call93 rfl (rden_ok p _ (by omega)) ?_)
    rintro vp w6 ⟨hvp, hB6⟩
    refine ⟨hB6, ?_⟩
    replace hS := hS.grow hB6
    refine w_grow rfl rfl (s_call Tryz.call92 rfl (hlq _) ?_)
    rintro vy w7 ⟨hvy, hB7⟩
    refine ⟨hB7, ?_⟩
    replace hS := hS.grow hB7
    refine w_grow rfl rfl (s_call Tryz.call98 rfl (rtimes_ok _ _ _ _ _ (hvp.below hB7) hvy (by omega) (by omega)) ?_)
    rintro vD w8 ⟨hvD, hB8⟩
    refine ⟨hB8, ?_⟩
    replace hS := hS.grow hB8
    refine w_grow rfl rfl (s_call Tryz.call95 rfl (rreduced_ok _ _ _ _ _ _ (((hvX.below hB6).below hB7).below hB8) hvD (by omega) (by omega) (Nat.mul_ne_zero p.den_nz hqn)) ?_)
    rintro v9 w9 ⟨rfl, hB9⟩
    refine ⟨hB9, ?_⟩
    replace hS := hS.grow hB9
    refine w_free rfl rfl (s_sta (k := 0)  rfl rfl vi_37 hS rfl rfl rfl (Nat.le_of_ble_eq_true rfl) rfl ?_)
    intro wz9 hS
    refine w_end ?_
    repeat (with_reducible first | refine c_seq ?_ | refine c_block ?_ | refine c_skip ?_ | refine x_then ?_ | refine x_block ?_)
    refine c_ret ?_
    repeat (with_reducible first | refine x_then_ret ?_ | refine x_block_ret ?_)
    refine r_cell (k := 0) rfl rfl vi_37 hS rfl rfl ?_
    exact ⟨congrArg (fun q => aggR (ofQ q)) (divQ_eq p q), hS.below⟩
theorem rMultiply_ok (r s : RR) (w : World) (hr : Lr r + Lr s ≤ MX) :
    Ret Tryz.prog 29 #[aggR r, aggR s] w fun v w' => v = aggR (ofQ (toQ r * toQ s)) ∧ Below w.heap.size w w' := by
  have hL1 := L_toQ r
  have hL2 := L_toQ s
  have hc1 := fun w => rFix_ok r w (show Lr r ≤ MX by omega)
  have hc2 := fun w => rFix_ok s w (show Lr s ≤ MX by omega)
  unfold fx at hc1 hc2
  have hS := St.init w
  refine enter Tryz.func29 rfl Tryz.ntmps29 rfl ?_
  repeat (with_reducible first | refine c_seq ?_ | refine c_block ?_ | refine c_skip ?_ | refine x_then ?_ | refine x_block ?_)
  refine c_reg ?_
  refine l_heavy rfl (s_box (new := encR r)  rfl rfl hS ?_)
  intro b1 wz2 hS hBz2
  refine l_heavy rfl (s_box (new := encR s)  rfl rfl hS ?_)
  intro b3 wz4 hS hBz4
  refine l_heavy rfl (s_alloc  vi_37 hS ?_)
  intro b5 wz6 hS hBz6
  refine l_nil ?_
  repeat (with_reducible first | refine c_seq ?_ | refine c_block ?_ | refine c_skip ?_ | refine x_then ?_ | refine x_block ?_)
  refine c_draw [(0, .read), (2, .read), (1, .grow), (3, .grow), (4, .grow), (5, .free)] (by kernel_rfl) (by kernel_rfl) hS ?_
  intro wz7 hS hBz7
  refine w_read rfl rfl (s_ldo (k := 2)  rfl vi_37 hS rfl rfl rfl (.inl rfl) ?_)
  refine w_read rfl rfl (s_ldo (k := 1)  rfl vi_37 hS rfl rfl rfl (.inl rfl) ?_)
  refine w_grow rfl rfl (s_call Tryz.call52 rfl (hc1 _) ?_)
  rintro _ wc8 ⟨rfl, hBc8⟩
  replace hS := hS.grow hBc8
  refine ⟨hBc8, ?_⟩
  refine w_grow rfl rfl (s_call Tryz.call52 rfl (hc2 _) ?_)
  rintro _ wc9 ⟨rfl, hBc9⟩
  replace hS := hS.grow hBc9
  refine ⟨hBc9, ?_⟩
  refine w_grow rfl rfl (s_call Tryz.call57 rfl (rTimes_ok (toQ r) (toQ s) _ (by omega)) ?_)
  rintro _ wc10 ⟨rfl, hBc10⟩
  replace hS := hS.grow hBc10
  refine ⟨hBc10, ?_⟩
  refine w_free rfl rfl (s_sta (k := 0)  rfl rfl vi_37 hS rfl rfl rfl (Nat.le_of_ble_eq_true rfl) rfl ?_)
  intro wz11 hS
  refine w_end ?_
  repeat (with_reducible first | refine c_seq ?_ | refine c_block ?_ | refine c_skip ?_ | refine x_then ?_ | refine x_block ?_)
  refine c_ret ?_
  repeat (with_reducible first | refine x_then_ret ?_ | refine x_block_ret ?_)
  refine r_cell (k := 0) rfl rfl vi_37 hS rfl rfl ?_
  exact ⟨rfl, hS.below⟩
theorem sgn_sub (p q : Rat) : sgnQ (p - q) = cmpQ p q := by
  rcases cmpQ_cases p q with ⟨h, e⟩ | ⟨h, e⟩ | ⟨h, e⟩
  · rw [e]
    have := sgnQ_neg (q := p - q).2 (by grind)
    rcases sgnQ_range (p - q) with g | g | g <;> omega
  · rw [e]
    exact sgnQ_zero.2 (by grind)
  · rw [e]
    have := sgnQ_pos (q := p - q).2 (by grind)
    rcases sgnQ_range (p - q) with g | g | g <;> omega
theorem rCompare_ok (r s : RR) (w : World) (hr : Lr r + Lr s ≤ MX) :
    Ret Tryz.prog 28 #[aggR r, aggR s] w fun v w' => v = .int .i64 (cmpQ (toQ r) (toQ s)) ∧ Below w.heap.size w w' := by
  have hL1 := L_toQ r
  have hL2 := L_toQ s
  have hc1 := fun w => rFix_ok r w (show Lr r ≤ MX by omega)
  have hc2 := fun w => rFix_ok s w (show Lr s ≤ MX by omega)
  unfold fx at hc1 hc2
  have hS := St.init w
  refine enter Tryz.func28 rfl Tryz.ntmps28 rfl ?_
  repeat (with_reducible first | refine c_seq ?_ | refine c_block ?_ | refine c_skip ?_ | refine x_then ?_ | refine x_block ?_)
  refine c_reg ?_
  refine l_heavy rfl (s_box (new := encR r)  rfl rfl hS ?_)
  intro b1 wz2 hS hBz2
  refine l_heavy rfl (s_box (new := encR s)  rfl rfl hS ?_)
  intro b3 wz4 hS hBz4
  refine l_pure rfl (s_asg  rfl ?_)
  refine l_nil ?_
  repeat (with_reducible first | refine c_seq ?_ | refine c_block ?_ | refine c_skip ?_ | refine x_then ?_ | refine x_block ?_)
  refine c_draw [(0, .read), (2, .read), (1, .grow), (3, .grow), (4, .grow), (5, .grow), (6, .pure)] (by kernel_rfl) (by kernel_rfl) hS ?_
  intro wz5 hS hBz5
  refine w_read rfl rfl (s_ldo (k := 1)  rfl vi_37 hS rfl rfl rfl (.inl rfl) ?_)
  refine w_read rfl rfl (s_ldo (k := 0)  rfl vi_37 hS rfl rfl rfl (.inl rfl) ?_)
  refine w_grow rfl rfl (s_call Tryz.call52 rfl (hc1 _) ?_)
  rintro _ wc6 ⟨rfl, hBc6⟩
  replace hS := hS.grow hBc6
  refine ⟨hBc6, ?_⟩
  refine w_grow rfl rfl (s_call Tryz.call52 rfl (hc2 _) ?_)
  rintro _ wc7 ⟨rfl, hBc7⟩
  replace hS := hS.grow hBc7
  refine ⟨hBc7, ?_⟩
  refine w_grow rfl rfl (s_call Tryz.call51 rfl (rMinus_ok (toQ r) (toQ s) _ (by omega)) ?_)
  rintro _ wc8 ⟨rfl, hBc8⟩
  replace hS := hS.grow hBc8
  refine ⟨hBc8, ?_⟩
  refine w_grow rfl rfl (s_call Tryz.call72 rfl (rSignum_ok (toQ r - toQ s) _) ?_)
  rintro _ wc9 ⟨rfl, hBc9⟩
  replace hS := hS.grow hBc9
  refine ⟨hBc9, ?_⟩
  refine w_pure rfl rfl (s_asg  rfl ?_)
  refine w_end ?_
  repeat (with_reducible first | refine c_seq ?_ | refine c_block ?_ | refine c_skip ?_ | refine x_then ?_ | refine x_block ?_)
  refine c_ret ?_
  repeat (with_reducible first | refine x_then_ret ?_ | refine x_block_ret ?_)
  refine r_one rfl rfl ?_
  exact ⟨vi rfl (sgn_sub _ _), hS.below⟩
theorem rSum_ok (v : Value) (l : List RR) (w : World) (hv : Sl encR 3 w v l) (hl : sumL l + 1 ≤ MX) :
    Ret Tryz.prog 27 #[v] w fun r w' => r = aggR (ofQ (sumQ (l.map toQ))) ∧ Below w.heap.size w w' := by
  have hM : MX = 1099511627776 := rfl
  have hmax := hv.maxLen
  have hS := St.init w
  refine enter Tryz.func27 rfl Tryz.ntmps27 rfl ?_
  repeat (with_reducible first | refine c_seq ?_ | refine c_block ?_ | refine c_skip ?_ | refine x_then ?_ | refine x_block ?_)
  refine c_reg ?_
  refine l_heavy rfl (s_alloc  vi_37 hS ?_)
  intro b1 wz1 hS hBz1
  refine l_nil ?_
  repeat (with_reducible first | refine c_seq ?_ | refine c_block ?_ | refine c_skip ?_ | refine x_then ?_ | refine x_block ?_)
  refine c_reg ?_
  refine l_pure rfl (s_build  rfl bz_37 ?_)
  refine l_heavy rfl (s_alloc  vi_37 hS ?_)
  intro b3 wz2 hS hBz2
  refine l_heavy rfl (s_sta (k := 0)  rfl rfl vi_37 hS rfl rfl rfl (Nat.le_of_ble_eq_true rfl) rfl ?_)
  intro wz3 hS
  refine l_nil ?_
  repeat (with_reducible first | refine c_seq ?_ | refine c_block ?_ | refine c_skip ?_ | refine x_then ?_ | refine x_block ?_)
  refine c_reg ?_
  refine l_pure rfl (s_asg  rfl ?_)
  refine l_nil ?_
  repeat (with_reducible first | refine c_seq ?_ | refine c_block ?_ | refine c_skip ?_ | refine x_then ?_ | refine x_block ?_)
  replace hS := hS.cast (H' := [(b3, 37, encR (ofQ (sumQ ((l.take 0).map toQ)))), (b1, 37, encR zRR)]) (by rw [show sumQ ((l.take 0).map toQ) = 0 from rfl, ← encR_zero]; rfl)
  refine c_loop (σ := Nat) (fun i ρ w' => i ≤ l.length ∧ L (sumQ ((l.take i).map toQ)) ≤ sumL (l.take i) + 1 ∧ ρ 0 = v ∧ ρ 2 = .pointer (some ⟨b1, 0, none⟩) ∧ ρ 3 = .pointer (some ⟨b3, 0, none⟩) ∧ ρ 4 = .int .i64 i ∧
      St w w' [(b3, 37, encR (ofQ (sumQ ((l.take i).map toQ)))), (b1, 37, encR zRR)]) (fun i => l.length - i) 0
    ⟨Nat.zero_le _, by rw [show sumQ ((l.take 0).map toQ) = 0 from rfl, L_zero]; omega, rfl, rfl, rfl, rfl, hS⟩ ?_
  clear hS
  rintro i ρ w2 ⟨hi, hLi, h0, h2, h3, h4, hS⟩
  repeat (with_reducible first | refine c_seq ?_ | refine c_block ?_ | refine c_skip ?_ | refine x_then ?_ | refine x_block ?_)
  refine c_reg ?_
  refine l_pure rfl (s_move  h4 ?_)
  refine l_pure rfl (s_move  h0 ?_)
  refine l_pure rfl (s_lenr  rfl (hv.below hS.below) ⟨_, Tryz.underlying22⟩ ?_)
  refine l_pure rfl (s_lss  rfl rfl ?_)
  refine l_nil ?_
  repeat (with_reducible first | refine c_seq ?_ | refine c_block ?_ | refine c_skip ?_ | refine x_then ?_ | refine x_block ?_)
  by_cases hlt : i < l.length
  · refine c_yes rfl (decide_eq_true (by omega)) ?_
    repeat (with_reducible first | refine c_seq ?_ | refine c_block ?_ | refine c_skip ?_ | refine x_then ?_ | refine x_block ?_)
    have ht := take_succ' l i zRR hlt
    have hs1 := sumL_take l (i + 1)
    rw [ht, sumL_append] at hs1
    simp only [sumL] at hs1
    have hLr := L_toQ (l.getD i zRR)
    have hadd := L_add (sumQ ((l.take i).map toQ)) (toQ (l.getD i zRR))
    have hc1 := fun w => rFix_ok (l.getD i zRR) w (by omega)
    unfold fx at hc1
    have hsn : sumQ ((l.take (i + 1)).map toQ) = sumQ ((l.take i).map toQ) + toQ (l.getD i zRR) := by
      rw [ht, List.map_append, List.map_cons, List.map_nil, sumQ_snoc]
    repeat (with_reducible first | refine c_seq ?_ | refine c_block ?_ | refine c_skip ?_ | refine x_then ?_ | refine x_block ?_)
    refine c_draw [(0, .read), (1, .pure), (2, .pure), (3, .pure), (4, .read), (5, .grow), (6, .grow), (7, .free)] (by kernel_rfl) (by kernel_rfl) hS ?_
    intro wz4 hS hBz4
    refine w_read rfl rfl (s_ldo (k := 0)  h3 vi_37 hS rfl rfl rfl (.inl rfl) ?_)
    refine w_pure rfl rfl (s_move  h0 ?_)
    refine w_pure rfl rfl (s_move  h4 ?_)
    refine w_pure rfl rfl (s_ixr (i := i)  rfl rfl (hv.below hS.below) (by omega) (by first | omega | (simp; done) | (simp; omega)) si_22 ?_)
    refine w_read rfl rfl (s_lde (i := i) zRR  rfl vi_37 (hv.below hS.below) (by first | omega | (simp; done) | (simp; omega)) rfl rfl (.inl rfl) ?_)
    refine w_grow rfl rfl (s_call Tryz.call52 rfl (hc1 _) ?_)
    rintro _ wc5 ⟨rfl, hBc5⟩
    replace hS := hS.grow hBc5
    refine ⟨hBc5, ?_⟩
    refine w_grow rfl rfl (s_call Tryz.call71 rfl (rPlus_ok _ _ _ (by omega)) ?_)
    rintro _ wc6 ⟨rfl, hBc6⟩
    replace hS := hS.grow hBc6
    refine ⟨hBc6, ?_⟩
    refine w_free rfl rfl (s_sta (k := 0)  h3 rfl vi_37 hS rfl rfl rfl (Nat.le_of_ble_eq_true rfl) rfl ?_)
    intro wz7 hS
    refine w_end ?_
    repeat (with_reducible first | refine c_seq ?_ | refine c_block ?_ | refine c_skip ?_ | refine x_then ?_ | refine x_block ?_)
    refine c_reg ?_
    refine l_pure rfl (s_move  h4 ?_)
    refine l_pure rfl (s_add  rfl rfl (IntWalk.i64_in _ (by omega)) ?_)
    refine l_pure rfl (s_asg  rfl ?_)
    refine l_nil ?_
    repeat (with_reducible first | refine c_seq ?_ | refine c_block ?_ | refine c_skip ?_ | refine x_then ?_ | refine x_block ?_)
    refine ⟨i + 1, _, rfl, ⟨hlt, ?_, h0, h2, h3, vi rfl (by omega), ?_⟩, by omega⟩
    · rw [hsn, ht, sumL_append]
      simp only [sumL]
      omega
    · rw [hsn]; exact hS
  · refine c_no rfl (decide_eq_false (by omega)) ?_
    repeat (with_reducible first | refine c_seq ?_ | refine c_block ?_ | refine c_skip ?_ | refine x_then ?_ | refine x_block ?_)
    refine c_exit ?_
    repeat (with_reducible first | refine x_then_exit ?_ | refine x_block_exit ?_ | refine x_block_pass rfl ?_)
    repeat (with_reducible first | refine c_seq ?_ | refine c_block ?_ | refine c_skip ?_ | refine x_then ?_ | refine x_block ?_)
    obtain rfl : i = l.length := by omega
    rw [List.take_length] at hS
    repeat (with_reducible first | refine c_seq ?_ | refine c_block ?_ | refine c_skip ?_ | refine x_then ?_ | refine x_block ?_)
    refine c_reg ?_
    refine l_read rfl (s_ldo (k := 0)  h3 vi_37 hS rfl rfl rfl (.inl rfl) ?_)
    refine l_heavy rfl (s_sta (k := 1)  h2 rfl vi_37 hS rfl rfl rfl (Nat.le_of_ble_eq_true rfl) rfl ?_)
    intro wz8 hS
    refine l_nil ?_
    repeat (with_reducible first | refine c_seq ?_ | refine c_block ?_ | refine c_skip ?_ | refine x_then ?_ | refine x_block ?_)
    refine c_ret ?_
    repeat (with_reducible first | refine x_then_ret ?_ | refine x_block_ret ?_)
    refine r_cell (k := 1) rfl h2 vi_37 hS rfl rfl ?_
    exact ⟨rfl, hS.below⟩
end Go.Proofs.YtmapmdldlcfjhaaGreatDoor
