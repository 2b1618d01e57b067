/-
  Part 8 of the texts that the law's proof is made of: the framework and the walks.
-/
import Derived.Test.YtknccjbkacaelaaGreatDoorPf7
namespace Go.Proofs.YtknccjbkacaelaaGreatDoor
open Go Go.RowKit Go.Sx
set_option maxHeartbeats 1000000 in
theorem rTimes_ok (p q : Rat) (w : World) (hL : L p + L q ≤ MX) :
    Ret Tryz.prog 71 #[aggR (ofQ p), aggR (ofQ q)] w fun v w' => v = aggR (ofQ (p * q)) ∧ Below w.heap.size w w' := by
  have hM : MX = 1099511627776 := rfl
  have hn1 := L_num p
  have hn2 := L_num q
  have hd1 := L_den p
  have hd2 := L_den q
  have hm1 := natS_size_mul p.num.natAbs q.num.natAbs
  have hm2 := natS_size_mul p.den q.den
  have l1 := limb_len_le_size p.num.natAbs
  have l2 := limb_len_le_size q.num.natAbs
  have l3 := limb_len_le_size p.den
  have l4 := limb_len_le_size q.den
  have l5 := limb_len_le_size (p.num.natAbs * q.num.natAbs)
  have l6 := limb_len_le_size (p.den * q.den)
  have hlp := fun w => rlimbs_ok (natS p.num.natAbs) w (by omega)
  have hlq := fun w => rlimbs_ok (natS q.num.natAbs) w (by omega)
  rw [val_natS] at hlp hlq
  have hS := St.init w
  refine enter Tryz.func71 rfl Tryz.ntmps71 rfl ?_
  repeat (with_reducible first | refine c_seq ?_ | refine c_block ?_ | refine c_skip ?_ | refine x_then ?_ | refine x_block ?_)
  refine c_reg ?_
  refine l_heavy rfl (s_box (new := encR (ofQ p))  rfl rfl hS ?_)
  intro b1 wz2 hS hBz2
  refine l_heavy rfl (s_box (new := encR (ofQ q))  rfl rfl hS ?_)
  intro b3 wz4 hS hBz4
  refine l_heavy rfl (s_alloc  vi_29 hS ?_)
  intro b5 wz6 hS hBz6
  refine l_nil ?_
  repeat (with_reducible first | refine c_seq ?_ | refine c_block ?_ | refine c_skip ?_ | refine x_then ?_ | refine x_block ?_)
  by_cases hp0 : p = 0
  · repeat (with_reducible first | refine c_seq ?_ | refine c_block ?_ | refine c_skip ?_ | refine x_then ?_ | refine x_block ?_)
    refine c_reg ?_
    refine l_pure rfl (s_fld  rfl fo_29_1 ?_)
    refine l_read rfl (s_ldo (k := 2)  rfl vi_9 hS rfl rfl rfl (.inr rfl) ?_)
    refine l_pure rfl (s_eqs  rfl rfl ?_)
    refine l_pure rfl (s_move  rfl ?_)
    refine l_no (gno_yes 8 (by kernel_rfl) rfl (decide_eq_true (ofQ_num_nil.2 hp0))) ?_
    refine l_no (gno_yes 8 (by kernel_rfl) rfl (decide_eq_true (ofQ_num_nil.2 hp0))) ?_
    refine l_no (gno_yes 8 (by kernel_rfl) rfl (decide_eq_true (ofQ_num_nil.2 hp0))) ?_
    refine l_pure rfl (s_pick (vb rfl (decide_eq_true (ofQ_num_nil.2 hp0))) rfl ?_)
    refine l_nil ?_
    repeat (with_reducible first | refine c_seq ?_ | refine c_block ?_ | refine c_skip ?_ | refine x_then ?_ | refine x_block ?_)
    refine c_yes rfl (rfl) ?_
    repeat (with_reducible first | refine c_seq ?_ | refine c_block ?_ | refine c_skip ?_ | refine x_then ?_ | refine x_block ?_)
    refine c_reg ?_
    refine l_pure rfl (s_build  rfl bz_29 ?_)
    refine l_heavy rfl (s_sta (k := 0)  rfl rfl vi_29 hS rfl rfl rfl (Nat.le_of_ble_eq_true rfl) rfl ?_)
    intro wz7 hS
    refine l_nil ?_
    repeat (with_reducible first | refine c_seq ?_ | refine c_block ?_ | refine c_skip ?_ | refine x_then ?_ | refine x_block ?_)
    refine c_ret ?_
    repeat (with_reducible first | refine x_then_ret ?_ | refine x_block_ret ?_)
    refine r_cell (k := 0) rfl rfl vi_29 hS rfl rfl ?_
    rw [hp0, Rat.zero_mul, ofQ_zero]
    exact ⟨rfl, hS.below⟩
  · by_cases hq0 : q = 0
    · repeat (with_reducible first | refine c_seq ?_ | refine c_block ?_ | refine c_skip ?_ | refine x_then ?_ | refine x_block ?_)
      refine c_reg ?_
      refine l_pure rfl (s_fld  rfl fo_29_1 ?_)
      refine l_read rfl (s_ldo (k := 2)  rfl vi_9 hS rfl rfl rfl (.inr rfl) ?_)
      refine l_pure rfl (s_eqs  rfl rfl ?_)
      refine l_pure rfl (s_move  rfl ?_)
      refine l_pure (gd_yes 8 (by kernel_rfl) rfl (decide_eq_false (fun g => hp0 (ofQ_num_nil.1 g)))) (s_fld  rfl fo_29_1 ?_)
      refine l_read (gd_yes 8 (by kernel_rfl) rfl (decide_eq_false (fun g => hp0 (ofQ_num_nil.1 g)))) (s_ldo (k := 1)  rfl vi_9 hS rfl rfl rfl (.inr rfl) ?_)
      refine l_pure (gd_yes 8 (by kernel_rfl) rfl (decide_eq_false (fun g => hp0 (ofQ_num_nil.1 g)))) (s_eqs  rfl rfl ?_)
      refine l_pure rfl (s_pick (vb rfl (decide_eq_false (fun g => hp0 (ofQ_num_nil.1 g)))) rfl ?_)
      refine l_nil ?_
      repeat (with_reducible first | refine c_seq ?_ | refine c_block ?_ | refine c_skip ?_ | refine x_then ?_ | refine x_block ?_)
      refine c_yes rfl (decide_eq_true (ofQ_num_nil.2 hq0)) ?_
      repeat (with_reducible first | refine c_seq ?_ | refine c_block ?_ | refine c_skip ?_ | refine x_then ?_ | refine x_block ?_)
      refine c_reg ?_
      refine l_pure rfl (s_build  rfl bz_29 ?_)
      refine l_heavy rfl (s_sta (k := 0)  rfl rfl vi_29 hS rfl rfl rfl (Nat.le_of_ble_eq_true rfl) rfl ?_)
      intro wz8 hS
      refine l_nil ?_
      repeat (with_reducible first | refine c_seq ?_ | refine c_block ?_ | refine c_skip ?_ | refine x_then ?_ | refine x_block ?_)
      refine c_ret ?_
      repeat (with_reducible first | refine x_then_ret ?_ | refine x_block_ret ?_)
      refine r_cell (k := 0) rfl rfl vi_29 hS rfl rfl ?_
      rw [hq0, Rat.mul_zero, ofQ_zero]
      exact ⟨rfl, hS.below⟩
    · repeat (with_reducible first | refine c_seq ?_ | refine c_block ?_ | refine c_skip ?_ | refine x_then ?_ | refine x_block ?_)
      refine c_reg ?_
      refine l_pure rfl (s_fld  rfl fo_29_1 ?_)
      refine l_read rfl (s_ldo (k := 2)  rfl vi_9 hS rfl rfl rfl (.inr rfl) ?_)
      refine l_pure rfl (s_eqs  rfl rfl ?_)
      refine l_pure rfl (s_move  rfl ?_)
      refine l_pure (gd_yes 8 (by kernel_rfl) rfl (decide_eq_false (fun g => hp0 (ofQ_num_nil.1 g)))) (s_fld  rfl fo_29_1 ?_)
      refine l_read (gd_yes 8 (by kernel_rfl) rfl (decide_eq_false (fun g => hp0 (ofQ_num_nil.1 g)))) (s_ldo (k := 1)  rfl vi_9 hS rfl rfl rfl (.inr rfl) ?_)
      refine l_pure (gd_yes 8 (by kernel_rfl) rfl (decide_eq_false (fun g => hp0 (ofQ_num_nil.1 g)))) (s_eqs  rfl rfl ?_)
      refine l_pure rfl (s_pick (vb rfl (decide_eq_false (fun g => hp0 (ofQ_num_nil.1 g)))) rfl ?_)
      refine l_nil ?_
      repeat (with_reducible first | refine c_seq ?_ | refine c_block ?_ | refine c_skip ?_ | refine x_then ?_ | refine x_block ?_)
      refine c_no rfl (decide_eq_false (fun g => hq0 (ofQ_num_nil.1 g))) ?_
      repeat (with_reducible first | refine c_seq ?_ | refine c_block ?_ | refine c_skip ?_ | refine x_then ?_ | refine x_block ?_)
      refine c_draw [(0, .pure), (1, .read), (2, .pure), (3, .read), (4, .pure), (5, .pure), (6, .read), (8, .pure), (9, .read), (12, .read), (14, .read), (7, .grow), (10, .grow), (11, .grow), (13, .grow), (15, .grow), (16, .grow), (17, .grow), (18, .free)] (by kernel_rfl) (by kernel_rfl) hS ?_
      intro wz9 hS hBz9
      refine w_pure rfl rfl (s_fld  rfl fo_29_0 ?_)
      refine w_read rfl rfl (s_ldo (k := 2)  rfl vi_4 hS rfl rfl rfl (.inr rfl) ?_)
      refine w_pure rfl rfl (s_fld  rfl fo_29_0 ?_)
      refine w_read rfl rfl (s_ldo (k := 1)  rfl vi_4 hS rfl rfl rfl (.inr rfl) ?_)
      refine w_pure rfl rfl (s_neb  rfl rfl Tryz.underlying4 ?_)
      refine w_pure rfl rfl (s_fld  rfl fo_29_1 ?_)
      refine w_read rfl rfl (s_ldo (k := 2)  rfl vi_9 hS rfl rfl rfl (.inr rfl) ?_)
      refine w_pure rfl rfl (s_fld  rfl fo_29_1 ?_)
      refine w_read rfl rfl (s_ldo (k := 1)  rfl vi_9 hS rfl rfl rfl (.inr rfl) ?_)
      refine w_read rfl rfl (s_ldo (k := 2)  rfl vi_29 hS rfl rfl rfl (.inl rfl) ?_)
      refine w_read rfl rfl (s_ldo (k := 1)  rfl vi_29 hS rfl rfl rfl (.inl rfl) ?_)
      refine w_grow rfl rfl (s_call Tryz.call87 rfl (hlp _) ?_)
      rintro vx w3 ⟨hvx, hB3⟩
      refine ⟨hB3, ?_⟩
      replace hS := hS.grow hB3
      refine w_grow rfl rfl (s_call Tryz.call87 rfl (hlq _) ?_)
      rintro vy w4 ⟨hvy, hB4⟩
      refine ⟨hB4, ?_⟩
      replace hS := hS.grow hB4
      refine w_grow rfl rfl (s_call Tryz.call86 rfl (rtimes_ok _ _ _ _ _ (hvx.below hB4) hvy (by omega) (by omega)) ?_)
      rintro vX w5 ⟨hvX, hB5⟩
      refine ⟨hB5, ?_⟩
      replace hS := hS.grow hB5
      refine w_grow rfl rfl (s_call Tryz.call85 rfl (rden_ok p _ (by omega)) ?_)
      rintro vp w6 ⟨hvp, hB6⟩
      refine ⟨hB6, ?_⟩
      replace hS := hS.grow hB6
      refine w_grow rfl rfl (s_call Tryz.call85 rfl (rden_ok q _ (by omega)) ?_)
      rintro vq w7 ⟨hvq, hB7⟩
      refine ⟨hB7, ?_⟩
      replace hS := hS.grow hB7
      refine w_grow rfl rfl (s_call Tryz.call86 rfl (rtimes_ok _ _ _ _ _ (hvp.below hB7) hvq (by omega) (by omega)) ?_)
      rintro vD w8 ⟨hvD, hB8⟩
      refine ⟨hB8, ?_⟩
      replace hS := hS.grow hB8
      refine w_grow rfl rfl (s_call Tryz.call88 rfl (rreduced_ok _ _ _ _ _ _ (((hvX.below hB6).below hB7).below hB8) hvD (by omega) (by omega) (Nat.mul_ne_zero p.den_nz q.den_nz)) ?_)
      rintro v9 w9 ⟨rfl, hB9⟩
      refine ⟨hB9, ?_⟩
      replace hS := hS.grow hB9
      refine w_free rfl rfl (s_sta (k := 0)  rfl rfl vi_29 hS rfl rfl rfl (Nat.le_of_ble_eq_true rfl) rfl ?_)
      intro wz10 hS
      refine w_end ?_
      repeat (with_reducible first | refine c_seq ?_ | refine c_block ?_ | refine c_skip ?_ | refine x_then ?_ | refine x_block ?_)
      refine c_ret ?_
      repeat (with_reducible first | refine x_then_ret ?_ | refine x_block_ret ?_)
      refine r_cell (k := 0) rfl rfl vi_29 hS rfl rfl ?_
      exact ⟨congrArg (fun q => aggR (ofQ q)) (mulQ_eq p q), hS.below⟩
set_option maxHeartbeats 1000000 in
theorem rOver_ok (p q : Rat) (w : World) (hL : L p + L q ≤ MX) (hq0 : q ≠ 0) :
    Ret Tryz.prog 70 #[aggR (ofQ p), aggR (ofQ q)] w fun v w' => v = aggR (ofQ (p / q)) ∧ Below w.heap.size w w' := by
  have hM : MX = 1099511627776 := rfl
  have hn1 := L_num p
  have hn2 := L_num q
  have hd1 := L_den p
  have hd2 := L_den q
  have hm1 := natS_size_mul p.num.natAbs q.den
  have hm2 := natS_size_mul p.den q.num.natAbs
  have l1 := limb_len_le_size p.num.natAbs
  have l2 := limb_len_le_size q.num.natAbs
  have l3 := limb_len_le_size p.den
  have l4 := limb_len_le_size q.den
  have l5 := limb_len_le_size (p.num.natAbs * q.den)
  have l6 := limb_len_le_size (p.den * q.num.natAbs)
  have hlp := fun w => rlimbs_ok (natS p.num.natAbs) w (by omega)
  have hlq := fun w => rlimbs_ok (natS q.num.natAbs) w (by omega)
  rw [val_natS] at hlp hlq
  have hqn : q.num.natAbs ≠ 0 := fun h => hq0 (Rat.num_eq_zero.1 (Int.natAbs_eq_zero.1 h))
  have hS := St.init w
  refine enter Tryz.func70 rfl Tryz.ntmps70 rfl ?_
  repeat (with_reducible first | refine c_seq ?_ | refine c_block ?_ | refine c_skip ?_ | refine x_then ?_ | refine x_block ?_)
  refine c_reg ?_
  refine l_heavy rfl (s_box (new := encR (ofQ p))  rfl rfl hS ?_)
  intro b1 wz2 hS hBz2
  refine l_heavy rfl (s_box (new := encR (ofQ q))  rfl rfl hS ?_)
  intro b3 wz4 hS hBz4
  refine l_heavy rfl (s_alloc  vi_29 hS ?_)
  intro b5 wz6 hS hBz6
  refine l_nil ?_
  repeat (with_reducible first | refine c_seq ?_ | refine c_block ?_ | refine c_skip ?_ | refine x_then ?_ | refine x_block ?_)
  refine c_reg ?_
  refine l_pure rfl (s_fld  rfl fo_29_1 ?_)
  refine l_read rfl (s_ldo (k := 2)  rfl vi_9 hS rfl rfl rfl (.inr rfl) ?_)
  refine l_pure rfl (s_eqs  rfl rfl ?_)
  refine l_nil ?_
  repeat (with_reducible first | refine c_seq ?_ | refine c_block ?_ | refine c_skip ?_ | refine x_then ?_ | refine x_block ?_)
  by_cases hp0 : p = 0
  · refine c_yes rfl (decide_eq_true (ofQ_num_nil.2 hp0)) ?_
    repeat (with_reducible first | refine c_seq ?_ | refine c_block ?_ | refine c_skip ?_ | refine x_then ?_ | refine x_block ?_)
    refine c_reg ?_
    refine l_pure rfl (s_build  rfl bz_29 ?_)
    refine l_heavy rfl (s_sta (k := 0)  rfl rfl vi_29 hS rfl rfl rfl (Nat.le_of_ble_eq_true rfl) rfl ?_)
    intro wz7 hS
    refine l_nil ?_
    repeat (with_reducible first | refine c_seq ?_ | refine c_block ?_ | refine c_skip ?_ | refine x_then ?_ | refine x_block ?_)
    refine c_ret ?_
    repeat (with_reducible first | refine x_then_ret ?_ | refine x_block_ret ?_)
    refine r_cell (k := 0) rfl rfl vi_29 hS rfl rfl ?_
    rw [hp0, Rat.div_def, Rat.zero_mul, ofQ_zero]
    exact ⟨rfl, hS.below⟩
  · refine c_no rfl (decide_eq_false (fun g => hp0 (ofQ_num_nil.1 g))) ?_
    repeat (with_reducible first | refine c_seq ?_ | refine c_block ?_ | refine c_skip ?_ | refine x_then ?_ | refine x_block ?_)
    refine c_draw [(0, .pure), (1, .read), (2, .pure), (3, .read), (4, .pure), (5, .pure), (6, .read), (8, .read), (11, .read), (13, .pure), (14, .read), (7, .grow), (9, .grow), (10, .grow), (12, .grow), (15, .grow), (16, .grow), (17, .grow), (18, .free)] (by kernel_rfl) (by kernel_rfl) hS ?_
    intro wz8 hS hBz8
    refine w_pure rfl rfl (s_fld  rfl fo_29_0 ?_)
    refine w_read rfl rfl (s_ldo (k := 2)  rfl vi_4 hS rfl rfl rfl (.inr rfl) ?_)
    refine w_pure rfl rfl (s_fld  rfl fo_29_0 ?_)
    refine w_read rfl rfl (s_ldo (k := 1)  rfl vi_4 hS rfl rfl rfl (.inr rfl) ?_)
    refine w_pure rfl rfl (s_neb  rfl rfl Tryz.underlying4 ?_)
    refine w_pure rfl rfl (s_fld  rfl fo_29_1 ?_)
    refine w_read rfl rfl (s_ldo (k := 2)  rfl vi_9 hS rfl rfl rfl (.inr rfl) ?_)
    refine w_read rfl rfl (s_ldo (k := 1)  rfl vi_29 hS rfl rfl rfl (.inl rfl) ?_)
    refine w_read rfl rfl (s_ldo (k := 2)  rfl vi_29 hS rfl rfl rfl (.inl rfl) ?_)
    refine w_pure rfl rfl (s_fld  rfl fo_29_1 ?_)
    refine w_read rfl rfl (s_ldo (k := 1)  rfl vi_9 hS rfl rfl rfl (.inr rfl) ?_)
    refine w_grow rfl rfl (s_call Tryz.call87 rfl (hlp _) ?_)
    rintro vx w3 ⟨hvx, hB3⟩
    refine ⟨hB3, ?_⟩
    replace hS := hS.grow hB3
    refine w_grow rfl rfl (s_call Tryz.call85 rfl (rden_ok q _ (by omega)) ?_)
    rintro vq w4 ⟨hvq, hB4⟩
    refine ⟨hB4, ?_⟩
    replace hS := hS.grow hB4
    refine w_grow rfl rfl (s_call Tryz.call86 rfl (rtimes_ok _ _ _ _ _ (hvx.below hB4) hvq (by omega) (by omega)) ?_)
    rintro vX w5 ⟨hvX, hB5⟩
    refine ⟨hB5, ?_⟩
    replace hS := hS.grow hB5
    refine w_grow rfl rfl (s_call Tryz.call85 rfl (rden_ok p _ (by omega)) ?_)
    rintro vp w6 ⟨hvp, hB6⟩
    refine ⟨hB6, ?_⟩
    replace hS := hS.grow hB6
    refine w_grow rfl rfl (s_call Tryz.call87 rfl (hlq _) ?_)
    rintro vy w7 ⟨hvy, hB7⟩
    refine ⟨hB7, ?_⟩
    replace hS := hS.grow hB7
    refine w_grow rfl rfl (s_call Tryz.call86 rfl (rtimes_ok _ _ _ _ _ (hvp.below hB7) hvy (by omega) (by omega)) ?_)
    rintro vD w8 ⟨hvD, hB8⟩
    refine ⟨hB8, ?_⟩
    replace hS := hS.grow hB8
    refine w_grow rfl rfl (s_call Tryz.call88 rfl (rreduced_ok _ _ _ _ _ _ (((hvX.below hB6).below hB7).below hB8) hvD (by omega) (by omega) (Nat.mul_ne_zero p.den_nz hqn)) ?_)
    rintro v9 w9 ⟨rfl, hB9⟩
    refine ⟨hB9, ?_⟩
    replace hS := hS.grow hB9
    refine w_free rfl rfl (s_sta (k := 0)  rfl rfl vi_29 hS rfl rfl rfl (Nat.le_of_ble_eq_true rfl) rfl ?_)
    intro wz9 hS
    refine w_end ?_
    repeat (with_reducible first | refine c_seq ?_ | refine c_block ?_ | refine c_skip ?_ | refine x_then ?_ | refine x_block ?_)
    refine c_ret ?_
    repeat (with_reducible first | refine x_then_ret ?_ | refine x_block_ret ?_)
    refine r_cell (k := 0) rfl rfl vi_29 hS rfl rfl ?_
    exact ⟨congrArg (fun q => aggR (ofQ q)) (divQ_eq p q), hS.below⟩
end Go.Proofs.YtknccjbkacaelaaGreatDoor
namespace Go.Proofs.YtknccjbkacaelaaGreatDoor
open Go Go.RowKit Go.Sx
theorem tot_single {f : Nat → Rat} {J : List Nat} (hf : ∀ i ∈ J, 0 ≤ f i) {i : Nat} (hi : i ∈ J) : f i ≤ totS f J := by
  induction J with
  | nil => cases hi
  | cons j J ih =>
    rw [totS_cons]
    have h1 := hf j List.mem_cons_self
    have h2 := totS_nonneg (f := f) (J := J) fun k hk => hf k (List.mem_cons_of_mem _ hk)
    rcases List.mem_cons.1 hi with rfl | hi
    · grind
    · have := ih (fun k hk => hf k (List.mem_cons_of_mem _ hk)) hi
      grind
theorem quo_min {k m s : Rat} (hs : 0 < s) : k * minQ m s / s = k * quoQ m s := by
  have hne : s ≠ 0 := by grind
  unfold minQ quoQ
  rw [Rat.div_def]
  by_cases h : m < s
  · rw [if_pos (Rat.le_of_lt h), if_pos h, Rat.div_def, Rat.mul_assoc]
  · rw [if_neg h]
    have e : (if m ≤ s then m else s) = s := by split <;> grind
    rw [e, Rat.mul_assoc, Rat.mul_inv_cancel _ hne]
theorem run_min {m s : Rat} : m - minQ m s = maxQ (m - s) 0 := by
  unfold minQ maxQ
  split <;> split <;> grind
theorem not_mem_take {J : List Nat} (h : J.Nodup) {k : Nat} (hk : k < J.length) : J.getD k 0 ∉ J.take k := by
  intro hm
  have h1 := take_succ' J k 0 hk
  have h2 : (J.take (k + 1)).Nodup := h.sublist (List.take_sublist _ _)
  rw [h1, List.nodup_append] at h2
  exact h2.2.2 _ hm _ (List.mem_singleton.2 rfl) rfl
set_option maxHeartbeats 8000000 in
theorem rshare_ok (x : It) (vc vo : Value) (owed : List RR) (K : Nat) (w : World) (hch : Sl encCh 6 w vc x.charges) (ho : Sl encR 3 w vo owed) (hok : ChOk x.charges (owF owed) owed.length K)
    (hp1 : Lr x.price ≤ K) (hp2 : Lr x.costs ≤ K) (hm : owed.length ≤ 1000000) (hoB : RB K owed) (hK : 20000 * K + 20000 ≤ MX) :
    Ret Tryz.prog 42 #[aggIt x vc, vo] w fun r w' => ∃ b, r = .tuple #[.slice (some ⟨b, 0, none⟩) x.charges.length x.charges.length, aggR (ofQ (lefQ x.charges (kapQ x.charges (owF owed)) (procQ x)))] ∧
      St w w' [(b, 29, (tab x.charges.length fun i => ofQ (shQ x.charges (kapQ x.charges (owF owed)) (procQ x) i)).flatMap encR)] := by
  have hM : MX = 1099511627776 := rfl
  obtain ⟨cs, hcs⟩ : ∃ cs, cs = x.charges := ⟨_, rfl⟩
  obtain ⟨P, hP⟩ : ∃ P, P = procQ x := ⟨_, rfl⟩
  have lP : L P ≤ 2 * K + 1 := by have := L_proc x; rw [hP]; omega
  have hproc := fun a n c w => rProceeds_ok x a n c w (by omega)
  have hcp := fun v1 v2 w h1 h2 => rCapacities_ok x v1 v2 owed K w h1 h2 hok hm hoB hK
  have hord := fun (v : Value) w h h2 => rordered_ok x v w h h2
  rw [← hP] at hproc
  have hP0 : 0 ≤ P := by rw [hP]; unfold procQ maxQ; split <;> grind
  rw [← hcs, ← hP]
  rw [← hcs] at hch hok hcp hord
  have hn8 := hok.n8
  obtain ⟨J, hJ⟩ : ∃ J, J = ordC cs := ⟨_, rfl⟩
  have hJl : J.length = cs.length := by rw [hJ]; exact ordC_len cs
  have hJm : ∀ i, i ∈ J ↔ i < cs.length := fun i => by rw [hJ]; exact ordC_mem
  have hJs : J.Pairwise (aheadC cs) := by rw [hJ]; exact ordC_sorted cs
  have hJn : J.Nodup := by rw [hJ]; exact ordC_nodup cs
  have hzn : (zI J).length = J.length := zI_len J
  rw [← hJ] at hord
  obtain ⟨kp, hkp⟩ : ∃ f, f = kapQ cs (owF owed) := ⟨_, rfl⟩
  have hkb := fun i => kap_bound hok i
  have hml := fun (M : List Nat) h => mon_L hok lP (J := M) h
  rw [← hkp] at hkb hml hcp ⊢
  obtain ⟨sh, hsh⟩ : ∃ f, f = shQ cs kp P := ⟨_, rfl⟩
  rw [← hsh]
  obtain ⟨ac, cc, hvc, _, _, _⟩ := hch.form
  have hproc2 : ∀ w, Ret Tryz.prog 69 #[aggIt x vc] w fun v w' => v = aggR (ofQ P) ∧ Below w.heap.size w w' := fun w => by rw [hvc]; exact hproc _ _ _ w
  have hS := St.init w
  refine enter Tryz.func42 rfl Tryz.ntmps42 rfl ?_
  repeat (with_reducible first | refine c_seq ?_ | refine c_block ?_ | refine c_skip ?_ | refine x_then ?_ | refine x_block ?_)
  refine c_reg ?_
  refine l_heavy rfl (s_box  rfl rfl hS ?_)
  intro b2 wz1 hS hBz1
  refine l_pure rfl (s_asg  rfl ?_)
  refine l_heavy rfl (s_alloc  vi_29 hS ?_)
  intro b5 wz2 hS hBz2
  refine l_nil ?_
  repeat (with_reducible first | refine c_seq ?_ | refine c_block ?_ | refine c_skip ?_ | refine x_then ?_ | refine x_block ?_)
  replace hS : St w _ [(b5, 29, encR zRR), (b2, 32, encIt (x, vc))] := hS
  repeat (with_reducible first | refine c_seq ?_ | refine c_block ?_ | refine c_skip ?_ | refine x_then ?_ | refine x_block ?_)
  refine c_reg ?_
  refine l_read rfl (s_ldo (k := 1)  rfl vi_32 hS rfl rfl rfl (.inl rfl) ?_)
  refine l_pure rfl (s_move  rfl ?_)
  refine l_heavy rfl (s_call Tryz.call10 rfl (hcp vc vo _ (hch.below hS.below) (ho.below hS.below)) ?_)
  rintro r w1 ⟨b6, rfl, hS1⟩
  replace hS := hS.join hS1
  replace hS : St w _ [(b6, 29, (tab cs.length fun j => ofQ (kp j)).flatMap encR), (b5, 29, encR zRR), (b2, 32, encIt (x, vc))] := hS
  refine l_pure rfl (s_asg  rfl ?_)
  refine l_nil ?_
  repeat (with_reducible first | refine c_seq ?_ | refine c_block ?_ | refine c_skip ?_ | refine x_then ?_ | refine x_block ?_)
  refine c_forget (fun ρ' => ρ' 2 = .pointer (some ⟨b2, 0, none⟩) ∧ ρ' 5 = .pointer (some ⟨b5, 0, none⟩) ∧ ρ' 6 = .slice (some ⟨b6, 0, none⟩) cs.length cs.length ∧ True) ⟨rfl, rfl, rfl, trivial⟩ ?_
  rintro ρk3 ⟨hk3_2, hk3_5, hk3_6, -⟩
  repeat (with_reducible first | refine c_seq ?_ | refine c_block ?_ | refine c_skip ?_ | refine x_then ?_ | refine x_block ?_)
  refine c_reg ?_
  refine l_pure rfl (s_move  hk3_6 ?_)
  refine l_pure rfl (s_leno  rfl ⟨_, Tryz.underlying24⟩ ?_)
  refine l_heavy rfl (s_makeE (enc := encR) (n := cs.length) zRR  rfl rfl si_24 rfl (by omega) (by omega) (by omega) (by omega) hS ?_)
  intro b7 wz4 hS hBz4
  refine l_pure rfl (s_asg  rfl ?_)
  refine l_nil ?_
  repeat (with_reducible first | refine c_seq ?_ | refine c_block ?_ | refine c_skip ?_ | refine x_then ?_ | refine x_block ?_)
  rw [tab_rep] at hS
  have e14 : (tab cs.length fun _ => zRR) = tab cs.length fun i => ofQ (if i ∈ J.take 0 then sh i else 0) := tab_congr fun i _ => by rw [List.take_zero, if_neg (fun h => nomatch h), ofQ_zero]; rfl
  rw [e14] at hS
  replace hS : St w _ [(b7, 29, (tab cs.length fun i => ofQ (if i ∈ J.take (0) then sh i else 0)).flatMap encR), (b6, 29, (tab cs.length fun j => ofQ (kp j)).flatMap encR), (b5, 29, encR zRR), (b2, 32, encIt (x, vc))] := hS
  repeat (with_reducible first | refine c_seq ?_ | refine c_block ?_ | refine c_skip ?_ | refine x_then ?_ | refine x_block ?_)
  refine c_forget (fun ρ' => ρ' 2 = .pointer (some ⟨b2, 0, none⟩) ∧ ρ' 5 = .pointer (some ⟨b5, 0, none⟩) ∧ ρ' 6 = .slice (some ⟨b6, 0, none⟩) cs.length cs.length ∧ ρ' 7 = .slice (some ⟨b7, 0, none⟩) cs.length cs.length ∧ True) ⟨hk3_2, hk3_5, hk3_6, rfl, trivial⟩ ?_
  rintro ρk5 ⟨hk5_2, hk5_5, hk5_6, hk5_7, -⟩
  repeat (with_reducible first | refine c_seq ?_ | refine c_block ?_ | refine c_skip ?_ | refine x_then ?_ | refine x_block ?_)
  refine c_reg ?_
  refine l_read rfl (s_ldo (k := 3)  hk5_2 vi_32 hS rfl rfl rfl (.inl rfl) ?_)
  refine l_heavy rfl (s_call Tryz.call69 rfl (hproc2 _) ?_)
  rintro r' w2 ⟨rfl, hB2⟩
  replace hS := hS.grow hB2
  refine l_heavy rfl (s_alloc  vi_29 hS ?_)
  intro b8 wz6 hS hBz6
  refine l_heavy rfl (s_sta (k := 0)  rfl rfl vi_29 hS rfl rfl rfl (Nat.le_of_ble_eq_true rfl) rfl ?_)
  intro wz7 hS
  refine l_nil ?_
  repeat (with_reducible first | refine c_seq ?_ | refine c_block ?_ | refine c_skip ?_ | refine x_then ?_ | refine x_block ?_)
  have eP : P = (maxQ (P - totS kp (J.take (0))) 0) := by rw [List.take_zero, totS_nil, show P - 0 = P by grind, maxQ_pos hP0]
  replace hS : St w _ [(b8, 29, encR (ofQ P)), (b7, 29, (tab cs.length fun i => ofQ (if i ∈ J.take (0) then sh i else 0)).flatMap encR), (b6, 29, (tab cs.length fun j => ofQ (kp j)).flatMap encR), (b5, 29, encR zRR), (b2, 32, encIt (x, vc))] := hS
  repeat (with_reducible first | refine c_seq ?_ | refine c_block ?_ | refine c_skip ?_ | refine x_then ?_ | refine x_block ?_)
  refine c_forget (fun ρ' => ρ' 2 = .pointer (some ⟨b2, 0, none⟩) ∧ ρ' 5 = .pointer (some ⟨b5, 0, none⟩) ∧ ρ' 6 = .slice (some ⟨b6, 0, none⟩) cs.length cs.length ∧ ρ' 7 = .slice (some ⟨b7, 0, none⟩) cs.length cs.length ∧ ρ' 8 = .pointer (some ⟨b8, 0, none⟩) ∧ True) ⟨hk5_2, hk5_5, hk5_6, hk5_7, rfl, trivial⟩ ?_
  rintro ρk8 ⟨hk8_2, hk8_5, hk8_6, hk8_7, hk8_8, -⟩
  repeat (with_reducible first | refine c_seq ?_ | refine c_block ?_ | refine c_skip ?_ | refine x_then ?_ | refine x_block ?_)
  refine c_reg ?_
  refine l_read rfl (s_ldo (k := 4)  hk8_2 vi_32 hS rfl rfl rfl (.inl rfl) ?_)
  refine l_heavy rfl (s_call Tryz.call29 rfl (hord vc _ (hch.below hS.below) (by omega)) ?_)
  rintro vq w3 ⟨LQ, hQ, hSQ⟩
  replace hS : St w w3 ([(b8, 29, encR (ofQ P)), (b7, 29, (tab cs.length fun i => ofQ (if i ∈ J.take (0) then sh i else 0)).flatMap encR), (b6, 29, (tab cs.length fun j => ofQ (kp j)).flatMap encR), (b5, 29, encR zRR), (b2, 32, encIt (x, vc))] ++ LQ) := (hS.join hSQ).perm List.perm_append_comm
  refine l_pure rfl (s_asg  rfl ?_)
  refine l_nil ?_
  repeat (with_reducible first | refine c_seq ?_ | refine c_block ?_ | refine c_skip ?_ | refine x_then ?_ | refine x_block ?_)
  rw [show encR (ofQ P) = encR (ofQ (maxQ (P - totS kp (J.take (0))) 0)) by rw [← eP]] at hS
  repeat (with_reducible first | refine c_seq ?_ | refine c_block ?_ | refine c_skip ?_ | refine x_then ?_ | refine x_block ?_)
  refine c_forget (fun ρ' => ρ' 2 = .pointer (some ⟨b2, 0, none⟩) ∧ ρ' 5 = .pointer (some ⟨b5, 0, none⟩) ∧ ρ' 6 = .slice (some ⟨b6, 0, none⟩) cs.length cs.length ∧ ρ' 7 = .slice (some ⟨b7, 0, none⟩) cs.length cs.length ∧ ρ' 8 = .pointer (some ⟨b8, 0, none⟩) ∧ ρ' 9 = vq ∧ True) ⟨hk8_2, hk8_5, hk8_6, hk8_7, hk8_8, rfl, trivial⟩ ?_
  rintro ρk9 ⟨hk9_2, hk9_5, hk9_6, hk9_7, hk9_8, hk9_9, -⟩
  repeat (with_reducible first | refine c_seq ?_ | refine c_block ?_ | refine c_skip ?_ | refine x_then ?_ | refine x_block ?_)
  refine c_reg ?_
  refine l_pure rfl (s_asg  rfl ?_)
  refine l_nil ?_
  repeat (with_reducible first | refine c_seq ?_ | refine c_skip ?_ | refine x_then ?_ | refine x_block ?_)
  refine c_cut1 (fun ρ w' => ρ 5 = .pointer (some ⟨b5, 0, none⟩) ∧ ρ 7 = .slice (some ⟨b7, 0, none⟩) cs.length cs.length ∧ ρ 8 = .pointer (some ⟨b8, 0, none⟩) ∧ St w w' [(b8, 29, encR (ofQ (lefQ cs kp P))), (b7, 29, (tab cs.length fun i => ofQ (sh i)).flatMap encR), (b5, 29, encR zRR)]) ?_ ?_
  · repeat (with_reducible first | refine c_seq ?_ | refine c_block ?_ | refine c_skip ?_ | refine x_then ?_ | refine x_block ?_)
    refine c_loop (σ := Nat) (fun t ρ w' => t ≤ J.length ∧ ρ 2 = .pointer (some ⟨b2, 0, none⟩) ∧ ρ 5 = .pointer (some ⟨b5, 0, none⟩) ∧ ρ 6 = .slice (some ⟨b6, 0, none⟩) cs.length cs.length ∧ ρ 7 = .slice (some ⟨b7, 0, none⟩) cs.length cs.length ∧ ρ 8 = .pointer (some ⟨b8, 0, none⟩) ∧ ρ 9 = vq ∧ ρ 10 = .int .i64 t ∧ (∀ i ∈ J.take t, ∀ k ∈ J.drop t, pr cs i < pr cs k) ∧ St w w' ([(b8, 29, encR (ofQ (maxQ (P - totS kp (J.take (t))) 0))), (b7, 29, (tab cs.length fun i => ofQ (if i ∈ J.take (t) then sh i else 0)).flatMap encR), (b6, 29, (tab cs.length fun j => ofQ (kp j)).flatMap encR), (b5, 29, encR zRR), (b2, 32, encIt (x, vc))] ++ LQ)) (fun t => J.length - t) 0
      ⟨Nat.zero_le _, by assumption, by assumption, by assumption, by assumption, by assumption, by assumption, rfl, fun i hi => (by rw [List.take_zero] at hi; cases hi), hS⟩ ?_
    clear hS
    rintro t ρ w4 ⟨ht, h2, h5, h6, h7, h8, h9, h10, hbd, hS⟩
    repeat (with_reducible first | refine c_seq ?_ | refine c_block ?_ | refine c_skip ?_ | refine x_then ?_ | refine x_block ?_)
    refine c_reg ?_
    refine l_pure rfl (s_move  h10 ?_)
    refine l_pure rfl (s_move  h9 ?_)
    refine l_pure rfl (s_lenr  rfl (hQ.sl hS enI_len) ⟨_, Tryz.underlying63⟩ ?_)
    refine l_pure rfl (s_lss  rfl rfl ?_)
    refine l_nil ?_
    repeat (with_reducible first | refine c_seq ?_ | refine c_block ?_ | refine c_skip ?_ | refine x_then ?_ | refine x_block ?_)
    by_cases hlt : t < J.length
    · refine c_yes rfl (decide_eq_true (by omega)) ?_
      repeat (with_reducible first | refine c_seq ?_ | refine c_block ?_ | refine c_skip ?_ | refine x_then ?_ | refine x_block ?_)
      obtain ⟨i0, hi0⟩ : ∃ i, i = J.getD t 0 := ⟨_, rfl⟩
      have hi0n : i0 < cs.length := (hJm i0).1 (by rw [hi0]; exact getD_mem J t 0 hlt)
      obtain ⟨p, hp⟩ : ∃ p, p = pr cs i0 := ⟨_, rfl⟩
      have hz0 : (zI J).getD t 0 = (i0 : Int) := by rw [zI_get _ hlt, ← hi0]
      have ep0 : (cs.getD i0 zCh).prio = p := by rw [hp]; rfl
      repeat (with_reducible first | refine c_seq ?_ | refine c_block ?_ | refine c_skip ?_ | refine x_then ?_ | refine x_block ?_)
      refine c_reg ?_
      refine l_pure rfl (s_move  h10 ?_)
      refine l_pure rfl (s_asg  rfl ?_)
      refine l_nil ?_
      repeat (with_reducible first | refine c_seq ?_ | refine c_block ?_ | refine c_skip ?_ | refine x_then ?_ | refine x_block ?_)
      refine c_reg ?_
      refine l_pure rfl (s_build  rfl bz_29 ?_)
      refine l_heavy rfl (s_alloc  vi_29 hS ?_)
      intro b12 wz10 hS hBz10
      refine l_heavy rfl (s_sta (k := 0)  rfl rfl vi_29 hS rfl rfl rfl (Nat.le_of_ble_eq_true rfl) rfl ?_)
      intro wz11 hS
      refine l_nil ?_
      repeat (with_reducible first | refine c_seq ?_ | refine c_skip ?_ | refine x_then ?_ | refine x_block ?_)
      have ez : encR zRR = encR (ofQ (totS kp ((J.drop t).take 0))) := by rw [List.take_zero, totS_nil, ofQ_zero]; rfl
      replace hS : St w _ ([(b12, 29, encR zRR), (b8, 29, encR (ofQ (maxQ (P - totS kp (J.take (t))) 0))), (b7, 29, (tab cs.length fun i => ofQ (if i ∈ J.take (t) then sh i else 0)).flatMap encR), (b6, 29, (tab cs.length fun j => ofQ (kp j)).flatMap encR), (b5, 29, encR zRR), (b2, 32, encIt (x, vc))] ++ LQ) := hS
      replace hS : St w _ ([(b12, 29, encR (ofQ (totS kp ((J.drop t).take (0))))), (b8, 29, encR (ofQ (maxQ (P - totS kp (J.take (t))) 0))), (b7, 29, (tab cs.length fun i => ofQ (if i ∈ J.take (t) then sh i else 0)).flatMap encR), (b6, 29, (tab cs.length fun j => ofQ (kp j)).flatMap encR), (b5, 29, encR zRR), (b2, 32, encIt (x, vc))] ++ LQ) := hS.cast (by rw [← ez])
      refine c_cut1 (fun ρ w' => ρ 2 = .pointer (some ⟨b2, 0, none⟩) ∧ ρ 5 = .pointer (some ⟨b5, 0, none⟩) ∧ ρ 6 = .slice (some ⟨b6, 0, none⟩) cs.length cs.length ∧ ρ 7 = .slice (some ⟨b7, 0, none⟩) cs.length cs.length ∧ ρ 8 = .pointer (some ⟨b8, 0, none⟩) ∧ ρ 9 = vq ∧ ρ 10 = .int .i64 t ∧ ρ 12 = .pointer (some ⟨b12, 0, none⟩) ∧ ∃ g : Nat, ρ 11 = .int .i64 (t + g : Nat) ∧ 1 ≤ g ∧ t + g ≤ J.length ∧ (∀ i ∈ (J.drop t).take g, pr cs i = p) ∧ (∀ i ∈ J.drop (t + g), p < pr cs i) ∧ St w w' ([(b12, 29, encR (ofQ (totS kp ((J.drop t).take (g))))), (b8, 29, encR (ofQ (maxQ (P - totS kp (J.take (t))) 0))), (b7, 29, (tab cs.length fun i => ofQ (if i ∈ J.take (t) then sh i else 0)).flatMap encR), (b6, 29, (tab cs.length fun j => ofQ (kp j)).flatMap encR), (b5, 29, encR zRR), (b2, 32, encIt (x, vc))] ++ LQ)) ?_ ?_
      · repeat (with_reducible first | refine c_seq ?_ | refine c_block ?_ | refine c_skip ?_ | refine x_then ?_ | refine x_block ?_)
        refine c_loop (σ := Nat) (fun g ρ w' => t + g ≤ J.length ∧ (∀ i ∈ (J.drop t).take g, pr cs i = p) ∧ ρ 2 = .pointer (some ⟨b2, 0, none⟩) ∧ ρ 5 = .pointer (some ⟨b5, 0, none⟩) ∧ ρ 6 = .slice (some ⟨b6, 0, none⟩) cs.length cs.length ∧ ρ 7 = .slice (some ⟨b7, 0, none⟩) cs.length cs.length ∧ ρ 8 = .pointer (some ⟨b8, 0, none⟩) ∧ ρ 9 = vq ∧ ρ 10 = .int .i64 t ∧ ρ 12 = .pointer (some ⟨b12, 0, none⟩) ∧ ρ 11 = .int .i64 (t + g : Nat) ∧ St w w' ([(b12, 29, encR (ofQ (totS kp ((J.drop t).take (g))))), (b8, 29, encR (ofQ (maxQ (P - totS kp (J.take (t))) 0))), (b7, 29, (tab cs.length fun i => ofQ (if i ∈ J.take (t) then sh i else 0)).flatMap encR), (b6, 29, (tab cs.length fun j => ofQ (kp j)).flatMap encR), (b5, 29, encR zRR), (b2, 32, encIt (x, vc))] ++ LQ)) (fun g => J.length - g) 0
          ⟨by omega, fun i hi => (by rw [List.take_zero] at hi; cases hi), by assumption, by assumption, by assumption, by assumption, by assumption, by assumption, by assumption, rfl, rfl, hS⟩ ?_
        clear hS h2 h5 h6 h7 h8 h9 h10
        rintro g ρ w5 ⟨hg2, hgp, h2, h5, h6, h7, h8, h9, h10, h12, h11, hS⟩
        repeat (with_reducible first | refine c_seq ?_ | refine c_block ?_ | refine c_skip ?_ | refine x_then ?_ | refine x_block ?_)
        by_cases hgl : t + g < J.length
        · obtain ⟨i1, hi1⟩ : ∃ i, i = J.getD (t + g) 0 := ⟨_, rfl⟩
          have hi1n : i1 < cs.length := (hJm i1).1 (by rw [hi1]; exact getD_mem J (t + g) 0 hgl)
          have hz1 : (zI J).getD (t + g) 0 = (i1 : Int) := by rw [zI_get _ hgl, ← hi1]
          have ep1 : (cs.getD i1 zCh).prio = pr cs i1 := rfl
          have hgt : (J.drop t).take (g + 1) = (J.drop t).take g ++ [i1] := by rw [take_succ' (J.drop t) g 0 (by rw [List.length_drop]; omega), getD_drop, ← hi1]
          repeat (with_reducible first | refine c_seq ?_ | refine c_block ?_ | refine c_skip ?_ | refine x_then ?_ | refine x_block ?_)
          refine c_drawM [0, 0, 2, 7, 15, 31, 63, 31, 31, 415, 927, 2047, 4095, 8191, 31, 16415, 31, 31, 196639, 458783, 1032223, 2080799, 4177951, 8388607, 16777215] [(0, .pure), (1, .pure), (2, .pure), (3, .pure), (4, .pure), (5, .pure), (6, .read), (7, .pure), (8, .pure), (9, .pure), (10, .read), (11, .pure), (12, .pure), (13, .read), (14, .pure), (15, .read), (16, .pure), (17, .pure), (18, .pure), (19, .read), (20, .pure), (21, .pure), (22, .read), (23, .pure), (24, .pure)] (by kernel_rfl) (by kernel_rfl) hS ?_
          intro wz12 hS hBz12
          refine w_pure rfl rfl (s_move  h11 ?_)
          refine w_pure rfl rfl (s_move  h9 ?_)
          refine w_pure rfl rfl (s_lenr  rfl (hQ.sl hS enI_len) ⟨_, Tryz.underlying63⟩ ?_)
          refine w_pure rfl rfl (s_lss  rfl rfl ?_)
          refine w_pure rfl rfl (s_move  rfl ?_)
          refine w_pure rfl (gd_yes 34 (by kernel_rfl) rfl (decide_eq_true (by omega))) (s_fld  h2 fo_32_2 ?_)
          refine w_read rfl (gd_yes 34 (by kernel_rfl) rfl (decide_eq_true (by omega))) (s_ldo (k := 5)  rfl vi_30 hS rfl rfl rfl (.inr rfl) ?_)
          refine w_pure rfl (gd_yes 34 (by kernel_rfl) rfl (decide_eq_true (by omega))) (s_move  h9 ?_)
          refine w_pure rfl (gd_yes 34 (by kernel_rfl) rfl (decide_eq_true (by omega))) (s_move  h11 ?_)
          refine w_pure rfl (gd_yes 34 (by kernel_rfl) rfl (decide_eq_true (by omega))) (s_ixr (i := (t + g))  rfl rfl (hQ.sl hS enI_len) (by omega) (by first | omega | (simp; done) | (simp; omega)) si_63 ?_)
          refine w_read rfl (gd_yes 34 (by kernel_rfl) rfl (decide_eq_true (by omega))) (s_lde (i := (t + g)) 0  rfl vi_3 (hQ.sl hS enI_len) (by first | omega | (simp; done) | (simp; omega)) rfl rfl (.inr rfl) ?_)
          refine w_pure rfl (gd_yes 34 (by kernel_rfl) rfl (decide_eq_true (by omega))) (s_ixr (i := i1)  rfl rfl (hch.below hS.below) hz1 (by first | omega | (simp; done) | (simp; omega)) si_30 ?_)
          refine w_pure rfl (gd_yes 34 (by kernel_rfl) rfl (decide_eq_true (by omega))) (s_fldr  rfl (spot_el (hch.below hS.below) (fun _ => rfl) (by decide) (by first | omega | (simp; done) | (simp; omega))) fo_38_1 ?_)
          refine w_read rfl (gd_yes 34 (by kernel_rfl) rfl (decide_eq_true (by omega))) (s_ldfe (i := i1) (off := 1) zCh  rfl vi_3 (hch.below hS.below) (fun _ => rfl) (by decide) (by first | omega | (simp; done) | (simp; omega)) rfl rfl (.inr rfl) ?_)
          refine w_pure rfl (gd_yes 34 (by kernel_rfl) rfl (decide_eq_true (by omega))) (s_fld  h2 fo_32_2 ?_)
          refine w_read rfl (gd_yes 34 (by kernel_rfl) rfl (decide_eq_true (by omega))) (s_ldo (k := 5)  rfl vi_30 hS rfl rfl rfl (.inr rfl) ?_)
          refine w_pure rfl (gd_yes 34 (by kernel_rfl) rfl (decide_eq_true (by omega))) (s_move  h9 ?_)
          refine w_pure rfl (gd_yes 34 (by kernel_rfl) rfl (decide_eq_true (by omega))) (s_move  h10 ?_)
          refine w_pure rfl (gd_yes 34 (by kernel_rfl) rfl (decide_eq_true (by omega))) (s_ixr (i := t)  rfl rfl (hQ.sl hS enI_len) (by omega) (by first | omega | (simp; done) | (simp; omega)) si_63 ?_)
          refine w_read rfl (gd_yes 34 (by kernel_rfl) rfl (decide_eq_true (by omega))) (s_lde (i := t) 0  rfl vi_3 (hQ.sl hS enI_len) (by first | omega | (simp; done) | (simp; omega)) rfl rfl (.inr rfl) ?_)
          refine w_pure rfl (gd_yes 34 (by kernel_rfl) rfl (decide_eq_true (by omega))) (s_ixr (i := i0)  rfl rfl (hch.below hS.below) hz0 (by first | omega | (simp; done) | (simp; omega)) si_30 ?_)
          refine w_pure rfl (gd_yes 34 (by kernel_rfl) rfl (decide_eq_true (by omega))) (s_fldr  rfl (spot_el (hch.below hS.below) (fun _ => rfl) (by decide) (by first | omega | (simp; done) | (simp; omega))) fo_38_1 ?_)
          refine w_read rfl (gd_yes 34 (by kernel_rfl) rfl (decide_eq_true (by omega))) (s_ldfe (i := i0) (off := 1) zCh  rfl vi_3 (hch.below hS.below) (fun _ => rfl) (by decide) (by first | omega | (simp; done) | (simp; omega)) rfl rfl (.inr rfl) ?_)
          refine w_pure rfl (gd_yes 34 (by kernel_rfl) rfl (decide_eq_true (by omega))) (s_eql  rfl rfl ?_)
          refine w_pure rfl rfl (s_pick (vb rfl (decide_eq_true (by omega))) rfl ?_)
          refine w_end ?_
          repeat (with_reducible first | refine c_seq ?_ | refine c_block ?_ | refine c_skip ?_ | refine x_then ?_ | refine x_block ?_)
          rw [ep0, ep1]
          by_cases hpe : pr cs i1 = p
          · refine c_yes rfl (decide_eq_true hpe) ?_
            repeat (with_reducible first | refine c_seq ?_ | refine c_block ?_ | refine c_skip ?_ | refine x_then ?_ | refine x_block ?_)
            have lT := L_totS (q := kp) (J := (J.drop t).take g) (K := 9 * K + 9) fun i _ => (hkb i).2
            have hlen : ((J.drop t).take g).length ≤ 8 := by rw [List.length_take, List.length_drop]; omega
            have hlen2 : ((J.drop t).take g).length * (9 * K + 9 + 1) ≤ 8 * (9 * K + 9 + 1) := Nat.mul_le_mul_right _ hlen
            have lk := (hkb i1).2
            have hpl := fun w => rPlus_ok (totS kp ((J.drop t).take g)) (kp i1) w (by omega)
            rw [← totS_snoc, ← hgt] at hpl
            have hgk : (tab cs.length fun j => ofQ (kp j)).getD i1 zRR = ofQ (kp i1) := tab_get _ _ hi1n
            have htl : (tab cs.length fun j => ofQ (kp j)).length = cs.length := tab_len _ _
            repeat (with_reducible first | refine c_seq ?_ | refine c_block ?_ | refine c_skip ?_ | refine x_then ?_ | refine x_block ?_)
            refine c_draw [(0, .read), (1, .pure), (2, .pure), (3, .pure), (4, .pure), (5, .read), (6, .pure), (7, .read), (8, .grow), (9, .free)] (by kernel_rfl) (by kernel_rfl) hS ?_
            intro wz13 hS hBz13
            refine w_read rfl rfl (s_ldo (k := 0)  h12 vi_29 hS rfl rfl rfl (.inl rfl) ?_)
            refine w_pure rfl rfl (s_move  h6 ?_)
            refine w_pure rfl rfl (s_move  h9 ?_)
            refine w_pure rfl rfl (s_move  h11 ?_)
            refine w_pure rfl rfl (s_ixr (i := (t + g))  rfl rfl (hQ.sl hS enI_len) (by omega) (by first | omega | (simp; done) | (simp; omega)) si_63 ?_)
            refine w_read rfl rfl (s_lde (i := (t + g)) 0  rfl vi_3 (hQ.sl hS enI_len) (by first | omega | (simp; done) | (simp; omega)) rfl rfl (.inr rfl) ?_)
            refine w_pure rfl rfl (s_ixo (i := i1)  rfl rfl hz1 (by first | omega | (simp; done) | (simp; omega)) si_24 ?_)
            refine w_read rfl rfl (s_ldE (k := 3) (i := i1) (enc := encR) zRR (fun _ => rfl)  rfl vi_29 hS rfl (by first | omega | simp) (by first | omega | (simp; done) | (simp; omega)) rfl (.inl rfl) ?_)
            rw [hgk]
            refine w_grow rfl rfl (s_call Tryz.call59 rfl (hpl _) ?_)
            rintro _ wc14 ⟨rfl, hBc14⟩
            replace hS := hS.grow hBc14
            refine ⟨hBc14, ?_⟩
            refine w_free rfl rfl (s_sta (k := 0)  h12 rfl vi_29 hS rfl rfl rfl (Nat.le_of_ble_eq_true rfl) rfl ?_)
            intro wz15 hS
            refine w_end ?_
            repeat (with_reducible first | refine c_seq ?_ | refine c_block ?_ | refine c_skip ?_ | refine x_then ?_ | refine x_block ?_)
            replace hS : St w _ ([(b12, 29, encR (ofQ (totS kp ((J.drop t).take (g + 1))))), (b8, 29, encR (ofQ (maxQ (P - totS kp (J.take (t))) 0))), (b7, 29, (tab cs.length fun i => ofQ (if i ∈ J.take (t) then sh i else 0)).flatMap encR), (b6, 29, (tab cs.length fun j => ofQ (kp j)).flatMap encR), (b5, 29, encR zRR), (b2, 32, encIt (x, vc))] ++ LQ) := hS
            repeat (with_reducible first | refine c_seq ?_ | refine c_block ?_ | refine c_skip ?_ | refine x_then ?_ | refine x_block ?_)
            refine c_reg ?_
            refine l_pure rfl (s_move  h11 ?_)
            refine l_pure rfl (s_add  rfl rfl (IntWalk.i64_in _ (by omega)) ?_)
            refine l_pure rfl (s_asg  rfl ?_)
            refine l_nil ?_
            repeat (with_reducible first | refine c_seq ?_ | refine c_block ?_ | refine c_skip ?_ | refine x_then ?_ | refine x_block ?_)
            refine ⟨g + 1, _, rfl, ⟨by omega, fun i hi => ?_, by assumption, by assumption, by assumption, by assumption, by assumption, by assumption, by assumption, by assumption, vi rfl (by omega), hS⟩, by omega⟩
            rw [hgt] at hi
            rcases List.mem_append.1 hi with h | h
            · exact hgp i h
            · rw [List.mem_singleton.1 h]; exact hpe
          · refine c_no rfl (decide_eq_false hpe) ?_
            repeat (with_reducible first | refine c_seq ?_ | refine c_block ?_ | refine c_skip ?_ | refine x_then ?_ | refine x_block ?_)
            refine c_exit ?_
            repeat (with_reducible first | refine x_then_exit ?_ | refine x_block_exit ?_ | refine x_block_pass rfl ?_)
            repeat (with_reducible first | refine c_seq ?_ | refine c_block ?_ | refine c_skip ?_ | refine x_then ?_ | refine x_block ?_)
            refine ⟨_, rfl, by assumption, by assumption, by assumption, by assumption, by assumption, by assumption, by assumption, by assumption, g, by assumption, Nat.pos_of_ne_zero fun g0 => hpe ?_, hg2, hgp, fun i hi => ?_, hS⟩
            · rw [hi1, g0, Nat.add_zero, ← hi0, hp]
            · obtain ⟨b, hb1, hb2, rfl⟩ := mem_drop_get hi
              have m1 := ord_mono hJs (a := t) (b := t + g) (by omega) hgl
              have m2 := ord_mono hJs hb1 hb2
              rw [← hi0, ← hi1, ← hp] at m1
              rw [← hi1] at m2
              omega
        · repeat (with_reducible first | refine c_seq ?_ | refine c_block ?_ | refine c_skip ?_ | refine x_then ?_ | refine x_block ?_)
          refine c_drawM [0, 0, 2, 7, 15, 31, 63, 31, 31, 415, 927, 2047, 4095, 8191, 31, 16415, 31, 31, 196639, 458783, 1032223, 2080799, 4177951, 8388607, 16777215] [(0, .pure), (1, .pure), (2, .pure), (3, .pure), (4, .pure), (5, .pure), (6, .read), (7, .pure), (8, .pure), (9, .pure), (10, .read), (11, .pure), (12, .pure), (13, .read), (14, .pure), (15, .read), (16, .pure), (17, .pure), (18, .pure), (19, .read), (20, .pure), (21, .pure), (22, .read), (23, .pure), (24, .pure)] (by kernel_rfl) (by kernel_rfl) hS ?_
          intro wz16 hS hBz16
          refine w_pure rfl rfl (s_move  h11 ?_)
          refine w_pure rfl rfl (s_move  h9 ?_)
          refine w_pure rfl rfl (s_lenr  rfl (hQ.sl hS enI_len) ⟨_, Tryz.underlying63⟩ ?_)
          refine w_pure rfl rfl (s_lss  rfl rfl ?_)
          refine w_pure rfl rfl (s_move  rfl ?_)
          refine w_no rfl (gno_yes 34 (by kernel_rfl) rfl (decide_eq_false (by omega))) ?_
          refine w_no rfl (gno_yes 34 (by kernel_rfl) rfl (decide_eq_false (by omega))) ?_
          refine w_no rfl (gno_yes 34 (by kernel_rfl) rfl (decide_eq_false (by omega))) ?_
          refine w_no rfl (gno_yes 34 (by kernel_rfl) rfl (decide_eq_false (by omega))) ?_
          refine w_no rfl (gno_yes 34 (by kernel_rfl) rfl (decide_eq_false (by omega))) ?_
          refine w_no rfl (gno_yes 34 (by kernel_rfl) rfl (decide_eq_false (by omega))) ?_
          refine w_no rfl (gno_yes 34 (by kernel_rfl) rfl (decide_eq_false (by omega))) ?_
          refine w_no rfl (gno_yes 34 (by kernel_rfl) rfl (decide_eq_false (by omega))) ?_
          refine w_no rfl (gno_yes 34 (by kernel_rfl) rfl (decide_eq_false (by omega))) ?_
          refine w_no rfl (gno_yes 34 (by kernel_rfl) rfl (decide_eq_false (by omega))) ?_
          refine w_no rfl (gno_yes 34 (by kernel_rfl) rfl (decide_eq_false (by omega))) ?_
          refine w_no rfl (gno_yes 34 (by kernel_rfl) rfl (decide_eq_false (by omega))) ?_
          refine w_no rfl (gno_yes 34 (by kernel_rfl) rfl (decide_eq_false (by omega))) ?_
          refine w_no rfl (gno_yes 34 (by kernel_rfl) rfl (decide_eq_false (by omega))) ?_
          refine w_no rfl (gno_yes 34 (by kernel_rfl) rfl (decide_eq_false (by omega))) ?_
          refine w_no rfl (gno_yes 34 (by kernel_rfl) rfl (decide_eq_false (by omega))) ?_
          refine w_no rfl (gno_yes 34 (by kernel_rfl) rfl (decide_eq_false (by omega))) ?_
          refine w_no rfl (gno_yes 34 (by kernel_rfl) rfl (decide_eq_false (by omega))) ?_
          refine w_no rfl (gno_yes 34 (by kernel_rfl) rfl (decide_eq_false (by omega))) ?_
          refine w_pure rfl rfl (s_pick (vb rfl (decide_eq_false (by omega))) rfl ?_)
          refine w_end ?_
          repeat (with_reducible first | refine c_seq ?_ | refine c_block ?_ | refine c_skip ?_ | refine x_then ?_ | refine x_block ?_)
          refine c_no rfl (rfl) ?_
          repeat (with_reducible first | refine c_seq ?_ | refine c_block ?_ | refine c_skip ?_ | refine x_then ?_ | refine x_block ?_)
          refine c_exit ?_
          repeat (with_reducible first | refine x_then_exit ?_ | refine x_block_exit ?_ | refine x_block_pass rfl ?_)
          repeat (with_reducible first | refine c_seq ?_ | refine c_block ?_ | refine c_skip ?_ | refine x_then ?_ | refine x_block ?_)
          refine ⟨_, rfl, by assumption, by assumption, by assumption, by assumption, by assumption, by assumption, by assumption, by assumption, g, by assumption, by omega, hg2, hgp, fun i hi => ?_, hS⟩
          rw [List.drop_eq_nil_of_le (by omega)] at hi
          cases hi
      clear hS h2 h5 h6 h7 h8 h9 h10
      rintro ρ w5 ⟨h2, h5, h6, h7, h8, h9, h10, h12, g, h11, hg1, hg2, hgp, hgB, hS⟩
      obtain ⟨A, hA⟩ : ∃ A, A = J.take t := ⟨_, rfl⟩
      obtain ⟨G, hGe⟩ : ∃ G, G = (J.drop t).take g := ⟨_, rfl⟩
      have hAG : J.take (t + g) = A ++ G := by rw [hA, hGe, List.take_add]
      have hsplit : ordC cs = A ++ G ++ J.drop (t + g) := by rw [← hAG, List.take_append_drop, hJ]
      have hi0d : i0 ∈ J.drop t := by rw [hi0, List.drop_eq_getElem_cons hlt, List.getD_eq_getElem?_getD, List.getElem?_eq_getElem hlt]; exact List.mem_cons_self
      obtain ⟨rs1, rs2⟩ := run_split hsplit (fun i hi => by rw [hp]; exact hbd i (by rw [← hA]; exact hi) i0 hi0d) (fun i hi => hgp i (by rw [← hGe]; exact hi)) hgB kp
      obtain ⟨m, hmm⟩ : ∃ m, m = maxQ (P - totS kp A) 0 := ⟨_, rfl⟩
      obtain ⟨s, hss⟩ : ∃ s, s = totS kp G := ⟨_, rfl⟩
      have hA8 : A.length ≤ 8 := by rw [hA, List.length_take]; omega
      have hG8 : G.length ≤ 8 := by rw [hGe, List.length_take, List.length_drop]; omega
      have hmL : L m ≤ 75 * K + 85 := by rw [hmm]; exact hml A hA8
      have hsL : L s ≤ 8 * (9 * K + 9 + 1) + 1 := by
        have lT := L_totS (q := kp) (J := G) (K := 9 * K + 9) fun i _ => (hkb i).2
        have hlen2 : G.length * (9 * K + 9 + 1) ≤ 8 * (9 * K + 9 + 1) := Nat.mul_le_mul_right _ hG8
        rw [hss]; omega
      have hsG : ∀ i ∈ G, sh i = kp i * quoQ m s := fun i hi => by
        rw [hsh]
        unfold shQ monQ
        rw [hgp i (by rw [← hGe]; exact hi), rs1, rs2, ← hmm, ← hss]
      have hT0 : 0 ≤ s := by rw [hss]; exact totS_nonneg fun i _ => (hkb i).1
      have hk1 : ∀ i ∈ G, kp i ≤ s := fun i hi => by rw [hss]; exact tot_single (fun j _ => (hkb j).1) hi
      have hmoney : m - minQ m s = (maxQ (P - totS kp (J.take (t + g))) 0) := by rw [run_min, hmm, hss, max_step _ _ _ (by rw [← hss]; exact hT0), ← totS_append, ← hAG]
      obtain ⟨tk, htk⟩ : ∃ q, q = minQ m s := ⟨_, rfl⟩
      have htL : L tk ≤ 75 * K + 100 := by
        rw [htk]; unfold minQ; split <;> omega
      rw [← hA, ← hmm, ← hGe, ← hss, hA] at hS
      have hles := fun w => rLesser_ok m s w (by omega)
      have hmin := fun w => rMinus_ok m tk w (by omega)
      rw [← htk] at hles hmoney
      rw [hmoney] at hmin
      repeat (with_reducible first | refine c_seq ?_ | refine c_block ?_ | refine c_skip ?_ | refine x_then ?_ | refine x_block ?_)
      refine c_reg ?_
      refine l_read rfl (s_ldo (k := 1)  h8 vi_29 hS rfl rfl rfl (.inl rfl) ?_)
      refine l_read rfl (s_ldo (k := 0)  h12 vi_29 hS rfl rfl rfl (.inl rfl) ?_)
      refine l_heavy rfl (s_call Tryz.call30 rfl (hles _) ?_)
      rintro _ wc17 ⟨rfl, hBc17⟩
      replace hS := hS.grow hBc17
      refine l_heavy rfl (s_alloc  vi_29 hS ?_)
      intro b13 wz18 hS hBz18
      refine l_heavy rfl (s_sta (k := 0)  rfl rfl vi_29 hS rfl rfl rfl (Nat.le_of_ble_eq_true rfl) rfl ?_)
      intro wz19 hS
      refine l_nil ?_
      repeat (with_reducible first | refine c_seq ?_ | refine c_skip ?_ | refine x_then ?_ | refine x_block ?_)
      replace hS : St w _ ([(b13, 29, encR (ofQ tk)), (b12, 29, encR (ofQ s)), (b8, 29, encR (ofQ m)), (b7, 29, (tab cs.length fun i => ofQ (if i ∈ J.take (t + 0) then sh i else 0)).flatMap encR), (b6, 29, (tab cs.length fun j => ofQ (kp j)).flatMap encR), (b5, 29, encR zRR), (b2, 32, encIt (x, vc))] ++ LQ) := hS
      refine c_cut1 (fun ρ w' => ρ 2 = .pointer (some ⟨b2, 0, none⟩) ∧ ρ 5 = .pointer (some ⟨b5, 0, none⟩) ∧ ρ 6 = .slice (some ⟨b6, 0, none⟩) cs.length cs.length ∧ ρ 7 = .slice (some ⟨b7, 0, none⟩) cs.length cs.length ∧ ρ 8 = .pointer (some ⟨b8, 0, none⟩) ∧ ρ 9 = vq ∧ ρ 10 = .int .i64 (t + g : Nat) ∧ ρ 12 = .pointer (some ⟨b12, 0, none⟩) ∧ ρ 13 = .pointer (some ⟨b13, 0, none⟩) ∧ St w w' ([(b13, 29, encR (ofQ tk)), (b12, 29, encR (ofQ s)), (b8, 29, encR (ofQ m)), (b7, 29, (tab cs.length fun i => ofQ (if i ∈ J.take (t + g) then sh i else 0)).flatMap encR), (b6, 29, (tab cs.length fun j => ofQ (kp j)).flatMap encR), (b5, 29, encR zRR), (b2, 32, encIt (x, vc))] ++ LQ)) ?_ ?_
      · repeat (with_reducible first | refine c_seq ?_ | refine c_block ?_ | refine c_skip ?_ | refine x_then ?_ | refine x_block ?_)
        refine c_loop (σ := Nat) (fun j ρ w' => j ≤ g ∧ ρ 2 = .pointer (some ⟨b2, 0, none⟩) ∧ ρ 5 = .pointer (some ⟨b5, 0, none⟩) ∧ ρ 6 = .slice (some ⟨b6, 0, none⟩) cs.length cs.length ∧ ρ 7 = .slice (some ⟨b7, 0, none⟩) cs.length cs.length ∧ ρ 8 = .pointer (some ⟨b8, 0, none⟩) ∧ ρ 9 = vq ∧ ρ 10 = .int .i64 (t + j : Nat) ∧ ρ 12 = .pointer (some ⟨b12, 0, none⟩) ∧ ρ 13 = .pointer (some ⟨b13, 0, none⟩) ∧ ρ 11 = .int .i64 (t + g : Nat) ∧ St w w' ([(b13, 29, encR (ofQ tk)), (b12, 29, encR (ofQ s)), (b8, 29, encR (ofQ m)), (b7, 29, (tab cs.length fun i => ofQ (if i ∈ J.take (t + j) then sh i else 0)).flatMap encR), (b6, 29, (tab cs.length fun j => ofQ (kp j)).flatMap encR), (b5, 29, encR zRR), (b2, 32, encIt (x, vc))] ++ LQ)) (fun j => g - j) 0
          ⟨Nat.zero_le _, by assumption, by assumption, by assumption, by assumption, by assumption, by assumption, h10, by assumption, rfl, by assumption, hS⟩ ?_
        clear hS h2 h5 h6 h7 h8 h9 h10 h12 h11
        rintro j ρ w6 ⟨hj, h2, h5, h6, h7, h8, h9, h10, h12, h13, h11, hS⟩
        repeat (with_reducible first | refine c_seq ?_ | refine c_block ?_ | refine c_skip ?_ | refine x_then ?_ | refine x_block ?_)
        refine c_reg ?_
        refine l_pure rfl (s_move  h10 ?_)
        refine l_pure rfl (s_move  h11 ?_)
        refine l_pure rfl (s_lss  rfl rfl ?_)
        refine l_nil ?_
        repeat (with_reducible first | refine c_seq ?_ | refine c_block ?_ | refine c_skip ?_ | refine x_then ?_ | refine x_block ?_)
        by_cases hjt : j < g
        · refine c_yes rfl (decide_eq_true (by omega)) ?_
          repeat (with_reducible first | refine c_seq ?_ | refine c_block ?_ | refine c_skip ?_ | refine x_then ?_ | refine x_block ?_)
          obtain ⟨i1, hi1⟩ : ∃ i, i = J.getD (t + j) 0 := ⟨_, rfl⟩
          have hi1n : i1 < cs.length := (hJm i1).1 (by rw [hi1]; exact getD_mem J (t + j) 0 (by omega))
          have hz1 : (zI J).getD (t + j) 0 = (i1 : Int) := by rw [zI_get _ (by omega), ← hi1]
          have hi1G : i1 ∈ G := by
            rw [hGe, hi1, ← getD_drop]
            have := getD_mem ((J.drop t).take g) j 0 (by rw [List.length_take, List.length_drop]; omega)
            rwa [List.getD_eq_getElem?_getD, List.getElem?_take_of_lt hjt, ← List.getD_eq_getElem?_getD] at this
          have hnm : i1 ∉ J.take (t + j) := by rw [hi1]; exact not_mem_take hJn (by omega)
          have htj : J.take (t + j + 1) = J.take (t + j) ++ [i1] := by rw [take_succ' J (t + j) 0 (by omega), ← hi1]
          have hsi := hsG i1 hi1G
          have hnext : ∀ v, v = sh i1 → (tab cs.length fun i => ofQ (if i = i1 then v else (if i ∈ J.take (t + j) then sh i else 0))) = tab cs.length fun i => ofQ (if i ∈ J.take (t + j + 1) then sh i else 0) := fun v hv => tab_congr fun i _ => by
            rw [htj]
            by_cases e : i = i1
            · rw [if_pos e, if_pos (List.mem_append.2 (.inr (by rw [e]; exact List.mem_singleton.2 rfl))), hv, e]
            · rw [if_neg e]
              by_cases e2 : i ∈ J.take (t + j)
              · rw [if_pos e2, if_pos (List.mem_append.2 (.inl e2))]
              · rw [if_neg e2, if_neg (fun h => (List.mem_append.1 h).elim e2 fun h => e (List.mem_singleton.1 h))]
          repeat (with_reducible first | refine c_seq ?_ | refine c_block ?_ | refine c_skip ?_ | refine x_then ?_ | refine x_block ?_)
          refine c_reg ?_
          refine l_pure rfl (s_fld  h12 fo_29_1 ?_)
          refine l_read rfl (s_ldo (k := 1)  rfl vi_9 hS rfl rfl rfl (.inr rfl) ?_)
          refine l_pure rfl (s_nes  rfl rfl ?_)
          refine l_nil ?_
          repeat (with_reducible first | refine c_seq ?_ | refine c_block ?_ | refine c_skip ?_ | refine x_then ?_ | refine x_block ?_)
          refine c_cut1 (fun ρ w' => ρ 2 = .pointer (some ⟨b2, 0, none⟩) ∧ ρ 5 = .pointer (some ⟨b5, 0, none⟩) ∧ ρ 6 = .slice (some ⟨b6, 0, none⟩) cs.length cs.length ∧ ρ 7 = .slice (some ⟨b7, 0, none⟩) cs.length cs.length ∧ ρ 8 = .pointer (some ⟨b8, 0, none⟩) ∧ ρ 9 = vq ∧ ρ 10 = .int .i64 (t + j : Nat) ∧ ρ 12 = .pointer (some ⟨b12, 0, none⟩) ∧ ρ 13 = .pointer (some ⟨b13, 0, none⟩) ∧ ρ 11 = .int .i64 (t + g : Nat) ∧ St w w' ([(b13, 29, encR (ofQ tk)), (b12, 29, encR (ofQ s)), (b8, 29, encR (ofQ m)), (b7, 29, (tab cs.length fun i => ofQ (if i ∈ J.take (t + j + 1) then sh i else 0)).flatMap encR), (b6, 29, (tab cs.length fun j => ofQ (kp j)).flatMap encR), (b5, 29, encR zRR), (b2, 32, encIt (x, vc))] ++ LQ)) ?_ ?_
          · repeat (with_reducible first | refine c_seq ?_ | refine c_block ?_ | refine c_skip ?_ | refine x_then ?_ | refine x_block ?_)
            by_cases hs0 : s = 0
            · refine c_no rfl (decide_eq_false (not_not_intro (ofQ_num_nil.2 hs0))) ?_
              repeat (with_reducible first | refine c_seq ?_ | refine c_block ?_ | refine c_skip ?_ | refine x_then ?_ | refine x_block ?_)
              have hz : sh i1 = 0 := by
                have h1 := hk1 i1 hi1G
                have h2 := (hkb i1).1
                rw [hsi, show kp i1 = 0 by grind, Rat.zero_mul]
              rw [tab_congr (g := fun i => ofQ (if i ∈ J.take (t + j + 1) then sh i else 0)) (fun i _ => by
                rw [htj]
                by_cases e2 : i ∈ J.take (t + j)
                · rw [if_pos e2, if_pos (List.mem_append.2 (.inl e2))]
                · rw [if_neg e2]
                  by_cases e : i = i1
                  · rw [if_pos (List.mem_append.2 (.inr (by rw [e]; exact List.mem_singleton.2 rfl))), e, hz]
                  · rw [if_neg (fun h => (List.mem_append.1 h).elim e2 fun h => e (List.mem_singleton.1 h))])] at hS
              exact ⟨_, rfl, by assumption, by assumption, by assumption, by assumption, by assumption, by assumption, by assumption, by assumption, by assumption, by assumption, hS⟩
            · refine c_yes rfl (decide_eq_true (fun h => hs0 (ofQ_num_nil.1 h))) ?_
              repeat (with_reducible first | refine c_seq ?_ | refine c_block ?_ | refine c_skip ?_ | refine x_then ?_ | refine x_block ?_)
              have hsp : 0 < s := by grind
              have lk := (hkb i1).2
              have hLm := L_mul (kp i1) tk
              have htm := fun w => rTimes_ok (kp i1) tk w (by omega)
              have hov := fun w => rOver_ok (kp i1 * tk) s w (by omega) hs0
              have hqv : kp i1 * tk / s = sh i1 := by rw [htk, quo_min hsp, hsi]
              rw [hqv] at hov
              have hgk : (tab cs.length fun j => ofQ (kp j)).getD i1 zRR = ofQ (kp i1) := tab_get _ _ hi1n
              have htl : (tab cs.length fun j => ofQ (kp j)).length = cs.length := tab_len _ _
              have htl2 : (tab cs.length fun i => ofQ (if i ∈ J.take (t + j) then sh i else 0)).length = cs.length := tab_len _ _
              repeat (with_reducible first | refine c_seq ?_ | refine c_block ?_ | refine c_skip ?_ | refine x_then ?_ | refine x_block ?_)
              refine c_draw [(0, .pure), (1, .pure), (2, .pure), (3, .pure), (4, .read), (5, .pure), (6, .pure), (7, .pure), (8, .pure), (9, .read), (10, .pure), (11, .read), (12, .read), (14, .read), (13, .grow), (15, .grow), (16, .pure), (17, .free)] (by kernel_rfl) (by kernel_rfl) hS ?_
              intro wz20 hS hBz20
              refine w_pure rfl rfl (s_move  h7 ?_)
              refine w_pure rfl rfl (s_move  h9 ?_)
              refine w_pure rfl rfl (s_move  h10 ?_)
              refine w_pure rfl rfl (s_ixr (i := (t + j))  rfl rfl (hQ.sl hS enI_len) (by omega) (by first | omega | (simp; done) | (simp; omega)) si_63 ?_)
              refine w_read rfl rfl (s_lde (i := (t + j)) 0  rfl vi_3 (hQ.sl hS enI_len) (by first | omega | (simp; done) | (simp; omega)) rfl rfl (.inr rfl) ?_)
              refine w_pure rfl rfl (s_move  h6 ?_)
              refine w_pure rfl rfl (s_move  h9 ?_)
              refine w_pure rfl rfl (s_move  h10 ?_)
              refine w_pure rfl rfl (s_ixr (i := (t + j))  rfl rfl (hQ.sl hS enI_len) (by omega) (by first | omega | (simp; done) | (simp; omega)) si_63 ?_)
              refine w_read rfl rfl (s_lde (i := (t + j)) 0  rfl vi_3 (hQ.sl hS enI_len) (by first | omega | (simp; done) | (simp; omega)) rfl rfl (.inr rfl) ?_)
              refine w_pure rfl rfl (s_ixo (i := i1)  rfl rfl hz1 (by first | omega | (simp; done) | (simp; omega)) si_24 ?_)
              refine w_read rfl rfl (s_ldE (k := 4) (i := i1) (enc := encR) zRR (fun _ => rfl)  rfl vi_29 hS rfl (by first | omega | simp) (by first | omega | (simp; done) | (simp; omega)) rfl (.inl rfl) ?_)
              refine w_read rfl rfl (s_ldo (k := 0)  h13 vi_29 hS rfl rfl rfl (.inl rfl) ?_)
              refine w_read rfl rfl (s_ldo (k := 1)  h12 vi_29 hS rfl rfl rfl (.inl rfl) ?_)
              rw [hgk]
              refine w_grow rfl rfl (s_call Tryz.call71 rfl (htm _) ?_)
              rintro _ wc21 ⟨rfl, hBc21⟩
              replace hS := hS.grow hBc21
              refine ⟨hBc21, ?_⟩
              refine w_grow rfl rfl (s_call Tryz.call70 rfl (hov _) ?_)
              rintro _ wc22 ⟨rfl, hBc22⟩
              replace hS := hS.grow hBc22
              refine ⟨hBc22, ?_⟩
              refine w_pure rfl rfl (s_ixo (i := i1)  rfl rfl hz1 (by first | omega | (simp; done) | (simp; omega)) si_24 ?_)
              refine w_free rfl rfl (s_stE (k := 3) (i := i1) (enc := encR) (ofQ (sh i1)) (fun _ => rfl)  rfl rfl vi_29 hS rfl (by first | omega | simp) (by first | omega | (simp; done) | (simp; omega)) rfl rfl ?_)
              intro wz23 hS
              refine w_end ?_
              repeat (with_reducible first | refine c_seq ?_ | refine c_block ?_ | refine c_skip ?_ | refine x_then ?_ | refine x_block ?_)
              replace hS : St w _ ([(b13, 29, encR (ofQ tk)), (b12, 29, encR (ofQ s)), (b8, 29, encR (ofQ m)), (b7, 29, ((tab cs.length fun i => ofQ (if i ∈ J.take (t + j) then sh i else 0)).set i1 (ofQ (sh i1))).flatMap encR), (b6, 29, (tab cs.length fun j => ofQ (kp j)).flatMap encR), (b5, 29, encR zRR), (b2, 32, encIt (x, vc))] ++ LQ) := hS
              have hset : (tab cs.length fun i => ofQ (if i ∈ J.take (t + j) then sh i else 0)).set i1 (ofQ (sh i1)) = tab cs.length fun i => ofQ (if i ∈ J.take (t + j + 1) then sh i else 0) := by rw [tab_setQ]; exact hnext _ rfl
              rw [hset] at hS
              exact ⟨_, rfl, by assumption, by assumption, by assumption, by assumption, by assumption, by assumption, by assumption, by assumption, by assumption, by assumption, hS⟩
          clear hS h2 h5 h6 h7 h8 h9 h10 h11 h12 h13
          rintro ρ w7 ⟨h2, h5, h6, h7, h8, h9, h10, h12, h13, h11, hS⟩
          repeat (with_reducible first | refine c_seq ?_ | refine c_block ?_ | refine c_skip ?_ | refine x_then ?_ | refine x_block ?_)
          refine c_reg ?_
          refine l_pure rfl (s_move  h10 ?_)
          refine l_pure rfl (s_add  rfl rfl (IntWalk.i64_in _ (by omega)) ?_)
          refine l_pure rfl (s_asg  rfl ?_)
          refine l_nil ?_
          repeat (with_reducible first | refine c_seq ?_ | refine c_block ?_ | refine c_skip ?_ | refine x_then ?_ | refine x_block ?_)
          exact ⟨j + 1, _, rfl, ⟨hjt, by assumption, by assumption, by assumption, by assumption, by assumption, by assumption, vi rfl (by omega), by assumption, by assumption, by assumption, hS⟩, by omega⟩
        · refine c_no rfl (decide_eq_false (by omega)) ?_
          repeat (with_reducible first | refine c_seq ?_ | refine c_block ?_ | refine c_skip ?_ | refine x_then ?_ | refine x_block ?_)
          refine c_exit ?_
          repeat (with_reducible first | refine x_then_exit ?_ | refine x_block_exit ?_ | refine x_block_pass rfl ?_)
          repeat (with_reducible first | refine c_seq ?_ | refine c_block ?_ | refine c_skip ?_ | refine x_then ?_ | refine x_block ?_)
          obtain rfl : j = g := by omega
          exact ⟨_, rfl, h2, h5, h6, h7, h8, h9, h10, h12, h13, hS⟩
      clear hS h2 h5 h6 h7 h8 h9 h10 h12 h11
      rintro ρ w6 ⟨h2, h5, h6, h7, h8, h9, h10, h12, h13, hS⟩
      repeat (with_reducible first | refine c_seq ?_ | refine c_block ?_ | refine c_skip ?_ | refine x_then ?_ | refine x_block ?_)
      refine c_reg ?_
      refine l_read rfl (s_ldo (k := 2)  h8 vi_29 hS rfl rfl rfl (.inl rfl) ?_)
      refine l_read rfl (s_ldo (k := 0)  h13 vi_29 hS rfl rfl rfl (.inl rfl) ?_)
      refine l_heavy rfl (s_call Tryz.call32 rfl (hmin _) ?_)
      rintro _ wc24 ⟨rfl, hBc24⟩
      replace hS := hS.grow hBc24
      refine l_heavy rfl (s_sta (k := 2)  h8 rfl vi_29 hS rfl rfl rfl (Nat.le_of_ble_eq_true rfl) rfl ?_)
      intro wz25 hS
      refine l_nil ?_
      repeat (with_reducible first | refine c_seq ?_ | refine c_block ?_ | refine c_skip ?_ | refine x_then ?_ | refine x_block ?_)
      replace hS : St w _ ([(b13, 29, encR (ofQ tk)), (b12, 29, encR (ofQ s)), (b8, 29, encR (ofQ (maxQ (P - totS kp (J.take (t + g))) 0))), (b7, 29, (tab cs.length fun i => ofQ (if i ∈ J.take (t + g) then sh i else 0)).flatMap encR), (b6, 29, (tab cs.length fun j => ofQ (kp j)).flatMap encR), (b5, 29, encR zRR), (b2, 32, encIt (x, vc))] ++ LQ) := hS
      refine ⟨t + g, _, rfl, ⟨hg2, by assumption, by assumption, by assumption, by assumption, by assumption, by assumption, by assumption, fun i hi k hk => ?_, (hS.drop (List.sublist_cons_self _ _)).drop (List.sublist_cons_self _ _)⟩, by omega⟩
      rw [hAG] at hi
      have hkp2 := hgB k hk
      rcases List.mem_append.1 hi with h | h
      · have := hbd i (by rw [← hA]; exact h) i0 hi0d
        omega
      · have := hgp i (by rw [← hGe]; exact h)
        omega
    · refine c_no rfl (decide_eq_false (by omega)) ?_
      repeat (with_reducible first | refine c_seq ?_ | refine c_block ?_ | refine c_skip ?_ | refine x_then ?_ | refine x_block ?_)
      refine c_exit ?_
      repeat (with_reducible first | refine x_then_exit ?_ | refine x_block_exit ?_ | refine x_block_pass rfl ?_)
      repeat (with_reducible first | refine c_seq ?_ | refine c_block ?_ | refine c_skip ?_ | refine x_then ?_ | refine x_block ?_)
      have e : J.take t = J := List.take_of_length_le (by omega)
      rw [e, tab_congr (g := fun i => ofQ (sh i)) (fun i hi => by rw [if_pos ((hJm i).2 hi)])] at hS
      have e2 : lefQ cs kp P = maxQ (P - totS kp J) 0 := by rw [hJ]; rfl
      rw [← e2] at hS
      exact ⟨_, rfl, h5, h7, h8, hS.drop (List.Sublist.cons_cons _ (List.Sublist.cons_cons _ (List.Sublist.cons _ (List.Sublist.cons_cons _ (List.nil_sublist _)))))⟩
  clear hS
  rintro ρ w4 ⟨h5, h7, h8, hS⟩
  repeat (with_reducible first | refine c_seq ?_ | refine c_block ?_ | refine c_skip ?_ | refine x_then ?_ | refine x_block ?_)
  refine c_draw [(0, .pure), (1, .read), (2, .pure), (3, .free)] (by kernel_rfl) (by kernel_rfl) hS ?_
  intro wz26 hS hBz26
  refine w_pure rfl rfl (s_move  h7 ?_)
  refine w_read rfl rfl (s_ldo (k := 0)  h8 vi_29 hS rfl rfl rfl (.inl rfl) ?_)
  refine w_pure rfl rfl (s_asg  rfl ?_)
  refine w_free rfl rfl (s_sta (k := 2)  h5 rfl vi_29 hS rfl rfl rfl (Nat.le_of_ble_eq_true rfl) rfl ?_)
  intro wz27 hS
  refine w_end ?_
  repeat (with_reducible first | refine c_seq ?_ | refine c_block ?_ | refine c_skip ?_ | refine x_then ?_ | refine x_block ?_)
  refine c_ret ?_
  repeat (with_reducible first | refine x_then_ret ?_ | refine x_block_ret ?_)
  refine r_tmp_cell (k := 2) rfl h5 rfl vi_29 hS rfl rfl ?_
  exact ⟨b7, rfl, hS.drop (List.Sublist.cons _ (List.Sublist.cons_cons _ (List.nil_sublist _)))⟩
end Go.Proofs.YtknccjbkacaelaaGreatDoor
namespace Go.Proofs.YtknccjbkacaelaaGreatDoor
open Go Go.RowKit Go.Sx
def rzD (X : List It) (owed : List RR) : List RR := if checkE X owed = 0 then reD X (inO owed) else []
def rzL (X : List It) (owed : List RR) : List RR := if checkE X owed = 0 then reL X (inO owed) else []
theorem tab_self {O : List RR} {n : Nat} (hn : O.length = n) (h : ∀ c, c < n → O.getD c zRR = ofQ (owF O c)) : O = tab n fun c => ofQ (owF O c) := by
  refine List.ext_getElem (by rw [tab_len, hn]) fun i h1 h2 => ?_
  have e1 := h i (by omega)
  rw [List.getD_eq_getElem?_getD, List.getElem?_eq_getElem h1, Option.getD_some] at e1
  have e2 : (tab n fun c => ofQ (owF O c)).getD i zRR = ofQ (owF O i) := tab_get _ _ (by omega)
  rw [List.getD_eq_getElem?_getD, List.getElem?_eq_getElem h2, Option.getD_some] at e2
  rw [e1, e2]
theorem reD_nf (X : List It) : ∀ O : List RR, (∀ c, c < O.length → O.getD c zRR = ofQ (owF O c)) → ∀ c, c < (reD X O).length → (reD X O).getD c zRR = ofQ (owF (reD X O) c) := by
  induction X with
  | nil => intro O h; exact h
  | cons x X ih =>
    intro O _
    refine ih (stO x O) fun c hc => ?_
    rw [stO_len] at hc
    show (tab O.length _).getD c zRR = ofQ (owF (tab O.length _) c)
    rw [owF_tab hc, tab_get _ _ hc]
theorem reD_tab (X : List It) (owed : List RR) : reD X (inO owed) = tab owed.length fun c => ofQ (owF (reD X (inO owed)) c) :=
  tab_self (by rw [reD_len, inO_len]) fun c hc => reD_nf X (inO owed) (fun c hc => by
    rw [inO_len] at hc
    rw [owF_inO hc]
    exact tab_get _ _ hc) c (by rw [reD_len, inO_len]; exact hc)
theorem sl_blk {w0 w : World} {H : List Blk} {k b : Nat} {t : TypeId} {O : List RR} {n : Nat} (hS : St w0 w H) (hk : H[k]? = some (b, t, O.flatMap encR)) (hn : O.length = n) (h : n ≤ 1000000) : Sl encR 3 w (.slice (some ⟨b, 0, none⟩) n n) O := by
  have h1 := hS.sle (k := k) (L := O) (n := n) (cap := n) hk encR_len (by omega) (Nat.le_refl _) (by omega)
  rwa [List.take_of_length_le (by omega)] at h1
theorem set_lt {n : Nat} {d : RR} (f : Nat → RR) (t : Nat) : (tab n fun j => if j < t then f j else d).set t (f t) = tab n fun j => if j < t + 1 then f j else d := by
  rw [tab_set]
  refine tab_congr fun j _ => ?_
  by_cases e : j = t
  · subst e; rw [if_pos rfl, if_pos (by omega)]
  · rw [if_neg e]
    by_cases e2 : j < t
    · rw [if_pos e2, if_pos (by omega)]
    · rw [if_neg e2, if_neg (by omega)]
set_option maxHeartbeats 4000000 in
theorem Realize_ok (vi_ vo : Value) (X : List It) (cvs : List Value) (owed : List RR) (w : World) (hX : Its w vi_ X cvs) (ho : Sl encR 3 w vo owed) (hXB : ItB 24 X) (hoB : RB 24 owed) :
    Ret Tryz.prog 16 #[vi_, vo] w fun r w' => (∃ v1 v2, r = .tuple #[v1, v2, .int .i64 (checkE X owed)] ∧ Sl encR 3 w' v1 (rzD X owed) ∧ Sl encR 3 w' v2 (rzL X owed)) ∧ Below w.heap.size w w' := by
  have hM : MX = 1099511627776 := rfl
  have hKK : KK = 300000 := rfl
  have hzl := hX.zlen
  have hS := St.init w
  refine enter Tryz.func16 rfl Tryz.ntmps16 rfl ?_
  repeat (with_reducible first | refine c_seq ?_ | refine c_block ?_ | refine c_skip ?_ | refine x_then ?_ | refine x_block ?_)
  refine c_reg ?_
  refine l_pure rfl (s_asg  rfl ?_)
  refine l_pure rfl (s_asg  rfl ?_)
  refine l_pure rfl (s_asg  rfl ?_)
  refine l_nil ?_
  repeat (with_reducible first | refine c_seq ?_ | refine c_block ?_ | refine c_skip ?_ | refine x_then ?_ | refine x_block ?_)
  refine c_reg ?_
  refine l_pure rfl (s_move  rfl ?_)
  refine l_pure rfl (s_move  rfl ?_)
  refine l_heavy rfl (s_call Tryz.call26 rfl (Check_ok vi_ vo X cvs owed _ (hX.below hS.below) (ho.below hS.below) (ItB_mono hXB (by omega)) (RB_mono hoB (by omega))) ?_)
  rintro r w1 ⟨rfl, hB1⟩
  replace hS := hS.grow hB1
  refine l_pure rfl (s_asg  rfl ?_)
  refine l_nil ?_
  repeat (with_reducible first | refine c_seq ?_ | refine c_block ?_ | refine c_skip ?_ | refine x_then ?_ | refine x_block ?_)
  refine c_forget (fun ρ' => ρ' 0 = vi_ ∧ ρ' 1 = vo ∧ ρ' 7 = .int .i64 (checkE X owed) ∧ True) ⟨rfl, rfl, rfl, trivial⟩ ?_
  rintro ρk1 ⟨hk1_0, hk1_1, hk1_7, -⟩
  repeat (with_reducible first | refine c_seq ?_ | refine c_block ?_ | refine c_skip ?_ | refine x_then ?_ | refine x_block ?_)
  refine c_reg ?_
  refine l_pure rfl (s_move  hk1_7 ?_)
  refine l_pure rfl (s_neq  rfl rfl ?_)
  refine l_nil ?_
  repeat (with_reducible first | refine c_seq ?_ | refine c_block ?_ | refine c_skip ?_ | refine x_then ?_ | refine x_block ?_)
  by_cases he : checkE X owed = 0
  case neg =>
    refine c_yes rfl (decide_eq_true he) ?_
    repeat (with_reducible first | refine c_seq ?_ | refine c_block ?_ | refine c_skip ?_ | refine x_then ?_ | refine x_block ?_)
    refine c_reg ?_
    refine l_pure rfl (s_move  hk1_7 ?_)
    refine l_pure rfl (s_asg  rfl ?_)
    refine l_pure rfl (s_asg  rfl ?_)
    refine l_pure rfl (s_asg  rfl ?_)
    refine l_nil ?_
    repeat (with_reducible first | refine c_seq ?_ | refine c_block ?_ | refine c_skip ?_ | refine x_then ?_ | refine x_block ?_)
    refine c_ret ?_
    repeat (with_reducible first | refine x_then_ret ?_ | refine x_block_ret ?_)
    refine r_three rfl rfl rfl rfl ?_
    exact ⟨⟨_, _, rfl, by unfold rzD; rw [if_neg he]; exact Sl.nil _ _ _, by unfold rzL; rw [if_neg he]; exact Sl.nil _ _ _⟩, hS.below⟩
  refine c_no rfl (decide_eq_false (not_not_intro he)) ?_
  repeat (with_reducible first | refine c_seq ?_ | refine c_block ?_ | refine c_skip ?_ | refine x_then ?_ | refine x_block ?_)
  obtain ⟨hz1, hz2, hz3, hz4, hz5⟩ := checkE_zero he
  have hrd : rzD X owed = reD X (inO owed) := if_pos he
  have hrl : rzL X owed = reL X (inO owed) := if_pos he
  have hrf := fun t ht => re_facts he hXB hoB (t := t) ht
  obtain ⟨m, hm⟩ : ∃ m, m = owed.length := ⟨_, rfl⟩
  have hrt := fun Y => reD_tab Y owed
  rw [← hm] at hrf hrt hz2
  repeat (with_reducible first | refine c_seq ?_ | refine c_block ?_ | refine c_skip ?_ | refine x_then ?_ | refine x_block ?_)
  refine c_reg ?_
  refine l_pure rfl (s_move  hk1_1 ?_)
  refine l_pure rfl (s_lenr  rfl (ho.below hS.below) ⟨_, Tryz.underlying24⟩ ?_)
  refine l_heavy rfl (s_makeE (enc := encR) (n := m) zRR  rfl rfl si_24 rfl (by omega) (by omega) (by omega) (by omega) hS ?_)
  intro b8 wz2 hS hBz2
  refine l_pure rfl (s_asg  rfl ?_)
  refine l_nil ?_
  repeat (with_reducible first | refine c_seq ?_ | refine c_block ?_ | refine c_skip ?_ | refine x_then ?_ | refine x_block ?_)
  rw [tab_rep, tab_congr (g := fun j => if j < 0 then ofQ (owF owed j) else zRR) (fun j _ => (if_neg (by omega)).symm)] at hS
  repeat (with_reducible first | refine c_seq ?_ | refine c_block ?_ | refine c_skip ?_ | refine x_then ?_ | refine x_block ?_)
  refine c_forget (fun ρ' => ρ' 0 = vi_ ∧ ρ' 1 = vo ∧ ρ' 8 = .slice (some ⟨b8, 0, none⟩) m m ∧ True) ⟨hk1_0, hk1_1, rfl, trivial⟩ ?_
  rintro ρk3 ⟨hk3_0, hk3_1, hk3_8, -⟩
  repeat (with_reducible first | refine c_seq ?_ | refine c_block ?_ | refine c_skip ?_ | refine x_then ?_ | refine x_block ?_)
  refine c_reg ?_
  refine l_pure rfl (s_move  hk3_1 ?_)
  refine l_pure rfl (s_lenr  rfl (ho.below hS.below) ⟨_, Tryz.underlying24⟩ ?_)
  refine l_pure rfl (s_move  rfl ?_)
  refine l_nil ?_
  repeat (with_reducible first | refine c_seq ?_ | refine c_skip ?_ | refine x_then ?_ | refine x_block ?_)
  refine c_cut1 (fun ρ w' => ρ 0 = vi_ ∧ ρ 8 = .slice (some ⟨b8, 0, none⟩) m m ∧ St w w' [(b8, 29, (inO owed).flatMap encR)]) ?_ ?_
  · repeat (with_reducible first | refine c_seq ?_ | refine c_block ?_ | refine c_skip ?_ | refine x_then ?_ | refine x_block ?_)
    refine c_loop (σ := Nat) (fun i ρ w' => i ≤ m ∧ ρ 0 = vi_ ∧ ρ 8 = .slice (some ⟨b8, 0, none⟩) m m ∧ ρ 26 = vo ∧ ρ 27 = .int .i64 m ∧ ρ 28 = .int .i64 i ∧ St w w' [(b8, 29, (tab m fun j => if j < i then ofQ (owF owed j) else zRR).flatMap encR)]) (fun i => m - i) 0
      ⟨Nat.zero_le _, by assumption, by assumption, rfl, vi rfl (by omega), rfl, hS⟩ ?_
    clear hS
    rintro i ρ w2 ⟨hi, h0, h8, h26, h27, h28, hS⟩
    repeat (with_reducible first | refine c_seq ?_ | refine c_block ?_ | refine c_skip ?_ | refine x_then ?_ | refine x_block ?_)
    refine c_reg ?_
    refine l_pure rfl (s_lss  h28 h27 ?_)
    refine l_nil ?_
    repeat (with_reducible first | refine c_seq ?_ | refine c_block ?_ | refine c_skip ?_ | refine x_then ?_ | refine x_block ?_)
    by_cases hlt : i < m
    · refine c_yes rfl (decide_eq_true (by omega)) ?_
      repeat (with_reducible first | refine c_seq ?_ | refine c_block ?_ | refine c_skip ?_ | refine x_then ?_ | refine x_block ?_)
      have hLi := hoB _ (getD_mem owed i zRR (by omega))
      have hL0 : Lr zRR = 1 := Lr_zRR
      have hadd := fun w => QAdd_ok (owed.getD i zRR) zRR w (by omega)
      rw [toQ_zRR, Rat.add_zero] at hadd
      have htl : (tab m fun j => if j < i then ofQ (owF owed j) else zRR).length = m := tab_len _ _
      repeat (with_reducible first | refine c_seq ?_ | refine c_block ?_ | refine c_skip ?_ | refine x_then ?_ | refine x_block ?_)
      refine c_reg ?_
      refine l_pure rfl (s_move  h28 ?_)
      refine l_pure rfl (s_ixr (i := i)  h26 h28 (ho.below hS.below) (by omega) (by first | omega | (simp; done) | (simp; omega)) si_24 ?_)
      refine l_read rfl (s_lde (i := i) zRR  rfl vi_29 (ho.below hS.below) (by first | omega | (simp; done) | (simp; omega)) rfl rfl (.inl rfl) ?_)
      refine l_heavy rfl (s_alloc  vi_29 hS ?_)
      intro b10 wz4 hS hBz4
      refine l_pure rfl (s_asg  rfl ?_)
      refine l_heavy rfl (s_sta (k := 0)  rfl rfl vi_29 hS rfl rfl rfl (Nat.le_of_ble_eq_true rfl) rfl ?_)
      intro wz5 hS
      refine l_nil ?_
      repeat (with_reducible first | refine c_seq ?_ | refine c_block ?_ | refine c_skip ?_ | refine x_then ?_ | refine x_block ?_)
      refine c_reg ?_
      refine l_pure rfl (s_move  h8 ?_)
      refine l_pure rfl (s_move  rfl ?_)
      refine l_read rfl (s_ldo (k := 0)  rfl vi_29 hS rfl rfl rfl (.inl rfl) ?_)
      refine l_pure rfl (s_build  rfl bz_29 ?_)
      refine l_heavy rfl (s_call Tryz.call19 rfl (hadd _) ?_)
      rintro _ wc6 ⟨rfl, hBc6⟩
      replace hS := hS.grow hBc6
      refine l_pure rfl (s_ixo (i := i)  rfl rfl (by omega) (by first | omega | (simp; done) | (simp; omega)) si_24 ?_)
      refine l_heavy rfl (s_stE (k := 1) (i := i) (enc := encR) (ofQ (owF owed i)) (fun _ => rfl)  rfl rfl vi_29 hS rfl (by first | omega | simp) (by first | omega | (simp; done) | (simp; omega)) rfl rfl ?_)
      intro wz7 hS
      refine l_nil ?_
      repeat (with_reducible first | refine c_seq ?_ | refine c_block ?_ | refine c_skip ?_ | refine x_then ?_ | refine x_block ?_)
      replace hS : St w _ [(b10, 29, encR (owed.getD i zRR)), (b8, 29, ((tab m fun j => if j < i then ofQ (owF owed j) else zRR).set i (ofQ (owF owed i))).flatMap encR)] := hS
      rw [set_lt (fun j => ofQ (owF owed j))] at hS
      repeat (with_reducible first | refine c_seq ?_ | refine c_block ?_ | refine c_skip ?_ | refine x_then ?_ | refine x_block ?_)
      refine c_reg ?_
      refine l_pure rfl (s_add  h28 rfl (IntWalk.i64_in _ (by omega)) ?_)
      refine l_pure rfl (s_move  rfl ?_)
      refine l_nil ?_
      repeat (with_reducible first | refine c_seq ?_ | refine c_block ?_ | refine c_skip ?_ | refine x_then ?_ | refine x_block ?_)
      exact ⟨i + 1, _, rfl, ⟨hlt, by assumption, by assumption, by assumption, by assumption, vi rfl (by omega), hS.drop (List.sublist_cons_self _ _)⟩, by omega⟩
    · refine c_no rfl (decide_eq_false (by omega)) ?_
      repeat (with_reducible first | refine c_seq ?_ | refine c_block ?_ | refine c_skip ?_ | refine x_then ?_ | refine x_block ?_)
      refine c_exit ?_
      repeat (with_reducible first | refine x_then_exit ?_ | refine x_block_exit ?_ | refine x_block_pass rfl ?_)
      repeat (with_reducible first | refine c_seq ?_ | refine c_block ?_ | refine c_skip ?_ | refine x_then ?_ | refine x_block ?_)
      obtain rfl : i = m := by omega
      rw [tab_congr (g := fun j => ofQ (owF owed j)) (fun j hj => if_pos hj), hm] at hS
      exact ⟨_, rfl, h0, h8, hS⟩
  clear hS
  rintro ρ w2 ⟨h0, h8, hS⟩
  repeat (with_reducible first | refine c_seq ?_ | refine c_block ?_ | refine c_skip ?_ | refine x_then ?_ | refine x_block ?_)
  refine c_reg ?_
  refine l_pure rfl (s_move  h0 ?_)
  refine l_pure rfl (s_lenr  rfl (hX.sl.below hS.below) ⟨_, Tryz.underlying26⟩ ?_)
  refine l_heavy rfl (s_makeE (enc := encR) (n := X.length) zRR  rfl rfl si_24 rfl (by omega) (by omega) (by omega) (by omega) hS ?_)
  intro b11 wz8 hS hBz8
  refine l_pure rfl (s_asg  rfl ?_)
  refine l_nil ?_
  repeat (with_reducible first | refine c_seq ?_ | refine c_block ?_ | refine c_skip ?_ | refine x_then ?_ | refine x_block ?_)
  rw [tab_rep, tab_congr (g := fun j => if j < 0 then ofQ (lfO (X.getD j zIt) (reD (X.take j) (inO owed))) else zRR) (fun j _ => (if_neg (by omega)).symm)] at hS
  replace hS : St w _ [(b11, 29, (tab X.length fun j => if j < 0 then ofQ (lfO (X.getD j zIt) (reD (X.take j) (inO owed))) else zRR).flatMap encR), (b8, 29, (reD (X.take 0) (inO owed)).flatMap encR)] := hS
  repeat (with_reducible first | refine c_seq ?_ | refine c_block ?_ | refine c_skip ?_ | refine x_then ?_ | refine x_block ?_)
  refine c_forget (fun ρ' => ρ' 0 = vi_ ∧ ρ' 8 = .slice (some ⟨b8, 0, none⟩) m m ∧ ρ' 11 = .slice (some ⟨b11, 0, none⟩) X.length X.length ∧ True) ⟨h0, h8, rfl, trivial⟩ ?_
  rintro ρk9 ⟨hk9_0, hk9_8, hk9_11, -⟩
  repeat (with_reducible first | refine c_seq ?_ | refine c_block ?_ | refine c_skip ?_ | refine x_then ?_ | refine x_block ?_)
  refine c_reg ?_
  refine l_pure rfl (s_move  hk9_0 ?_)
  refine l_pure rfl (s_lenr  rfl (hX.sl.below hS.below) ⟨_, Tryz.underlying26⟩ ?_)
  refine l_pure rfl (s_move  rfl ?_)
  refine l_nil ?_
  repeat (with_reducible first | refine c_seq ?_ | refine c_skip ?_ | refine x_then ?_ | refine x_block ?_)
  refine c_cut1 (fun ρ w' => ρ 8 = .slice (some ⟨b8, 0, none⟩) m m ∧ ρ 11 = .slice (some ⟨b11, 0, none⟩) X.length X.length ∧ St w w' [(b11, 29, (reL X (inO owed)).flatMap encR), (b8, 29, (reD X (inO owed)).flatMap encR)]) ?_ ?_
  · repeat (with_reducible first | refine c_seq ?_ | refine c_block ?_ | refine c_skip ?_ | refine x_then ?_ | refine x_block ?_)
    refine c_loop (σ := Nat) (fun t ρ w' => t ≤ X.length ∧ ρ 8 = .slice (some ⟨b8, 0, none⟩) m m ∧ ρ 11 = .slice (some ⟨b11, 0, none⟩) X.length X.length ∧ ρ 43 = vi_ ∧ ρ 44 = .int .i64 X.length ∧ ρ 45 = .int .i64 t ∧ St w w' [(b11, 29, (tab X.length fun j => if j < t then ofQ (lfO (X.getD j zIt) (reD (X.take j) (inO owed))) else zRR).flatMap encR), (b8, 29, (reD (X.take t) (inO owed)).flatMap encR)]) (fun t => X.length - t) 0
      ⟨Nat.zero_le _, by assumption, by assumption, rfl, vi rfl (by rw [hzl]), rfl, hS⟩ ?_
    clear hS h0 h8
    rintro t ρ w3 ⟨ht, h8, h11, h43, h44, h45, hS⟩
    repeat (with_reducible first | refine c_seq ?_ | refine c_block ?_ | refine c_skip ?_ | refine x_then ?_ | refine x_block ?_)
    refine c_reg ?_
    refine l_pure rfl (s_lss  h45 h44 ?_)
    refine l_nil ?_
    repeat (with_reducible first | refine c_seq ?_ | refine c_block ?_ | refine c_skip ?_ | refine x_then ?_ | refine x_block ?_)
    by_cases hlt : t < X.length
    · refine c_yes rfl (decide_eq_true (by omega)) ?_
      repeat (with_reducible first | refine c_seq ?_ | refine c_block ?_ | refine c_skip ?_ | refine x_then ?_ | refine x_block ?_)
      obtain ⟨hok, hgL⟩ := hrf t hlt
      have htk := take_succ' X t zIt hlt
      obtain ⟨x, hx⟩ : ∃ x, x = X.getD t zIt := ⟨_, rfl⟩
      obtain ⟨vc, hvc⟩ : ∃ v, v = cvs.getD t undef := ⟨_, rfl⟩
      have hxX : x ∈ X := by rw [hx]; exact getD_mem X t zIt hlt
      have hch := hX.ch t hlt
      have hzg := hX.zget hlt
      rw [← hx] at hok hgL htk
      rw [← hx, ← hvc] at hch hzg
      obtain ⟨O, hO⟩ : ∃ O, O = reD (X.take t) (inO owed) := ⟨_, rfl⟩
      have hOt := hrt (X.take t)
      rw [← hO] at hok hgL hOt hS
      have hsnoc : reD (X.take (t + 1)) (inO owed) = stO x O := by rw [htk, reD_snoc, ← hO]
      have hlfe : ofQ (lfO (X.getD t zIt) (reD (X.take t) (inO owed))) = ofQ (lfO x O) := by rw [← hx, ← hO]
      obtain ⟨f, hf⟩ : ∃ f, f = owF O := ⟨_, rfl⟩
      have hOl : O.length = m := by rw [hOt, tab_len]
      have hOB : RB KK O := fun q hq => by
        rw [hOt] at hq
        obtain ⟨c, hc, rfl⟩ := tab_mem hq
        have := hgL 0 (Nat.zero_le _) c hc
        rw [gotR_zero, show owF O c - 0 = owF O c by grind] at this
        rw [Lr_ofQ]; exact this
      obtain ⟨x1, x2, x3⟩ := hXB x hxX
      have lP : L (procQ x) ≤ 2 * KK + 1 := by have h1 := L_proc x; omega
      have hsL : ∀ i, L (shO x O i) ≤ 160 * KK + 180 := fun i => sh_L hok lP i
      have hshare := fun v1 v2 w h1 h2 => share_ok x v1 v2 O KK w h1 h2 (by rw [hOl]; exact hok) (by omega) (by omega) (by omega) hOB (by omega)
      have hstO : stO x O = tab m fun c => ofQ (f c - gotR x.charges (shO x O) x.charges.length c) := by unfold stO; rw [hOl, hf]
      replace hshare : ∀ (v1 v2 : Value) w, Sl encCh 6 w v1 x.charges → Sl encR 3 w v2 O → Ret Tryz.prog 27 #[aggIt x v1, v2] w fun r w' => ∃ b, r = .tuple #[.slice (some ⟨b, 0, none⟩) x.charges.length x.charges.length, aggR (ofQ (lfO x O))] ∧ St w w' [(b, 29, (tab x.charges.length fun i => ofQ (shO x O i)).flatMap encR)] := hshare
      obtain ⟨sh, hsh⟩ : ∃ s, s = shO x O := ⟨_, rfl⟩
      rw [← hsh] at hgL hsL hstO hshare
      rw [← hf] at hgL
      obtain ⟨cs, hcs⟩ : ∃ cs, cs = x.charges := ⟨_, rfl⟩
      rw [← hcs] at hch hok hgL hstO hshare
      have hn8 := hok.n8
      have hlB := fun i (hi : i < cs.length) => hok.lB i hi
      have hOf : (tab m fun c => ofQ (owF O c)) = tab m fun c => ofQ (f c - gotR cs sh 0 c) := tab_congr fun c _ => by rw [gotR_zero, hf]; congr 1; grind
      rw [hOt.trans hOf] at hS
      have hO2 : O = tab m fun c => ofQ (f c - gotR cs sh 0 c) := hOt.trans hOf
      obtain ⟨ca, ccap, hvc2, _⟩ := hch.form
      subst hvc2
      repeat (with_reducible first | refine c_seq ?_ | refine c_block ?_ | refine c_skip ?_ | refine x_then ?_ | refine x_block ?_)
      refine c_reg ?_
      refine l_pure rfl (s_move  h45 ?_)
      refine l_pure rfl (s_ixr (i := t)  h43 h45 (hX.sl.below hS.below) (by omega) (by first | omega | (simp; done) | (simp; omega)) si_26 ?_)
      refine l_read rfl (s_lde (v := aggIt x (.slice ca cs.length ccap)) (i := t) (zIt, undef)  rfl vi_32 (hX.sl.below hS.below) (by omega) rfl (by rw [hzg]; rfl) (.inl rfl) ?_)
      refine l_heavy rfl (s_alloc  vi_32 hS ?_)
      intro b13 wz10 hS hBz10
      refine l_pure rfl (s_asg  rfl ?_)
      refine l_heavy rfl (s_sta (k := 0)  rfl rfl vi_32 hS rfl rfl rfl (Nat.le_of_ble_eq_true rfl) rfl ?_)
      intro wz11 hS
      refine l_nil ?_
      repeat (with_reducible first | refine c_seq ?_ | refine c_block ?_ | refine c_skip ?_ | refine x_then ?_ | refine x_block ?_)
      replace hS : St w _ [(b13, 32, encIt (x, .slice ca cs.length ccap)), (b11, 29, (tab X.length fun j => if j < t then ofQ (lfO (X.getD j zIt) (reD (X.take j) (inO owed))) else zRR).flatMap encR), (b8, 29, (tab m fun c => ofQ (f c - gotR cs sh 0 c)).flatMap encR)] := hS
      repeat (with_reducible first | refine c_seq ?_ | refine c_block ?_ | refine c_skip ?_ | refine x_then ?_ | refine x_block ?_)
      refine c_forget (fun ρ' => ρ' 8 = .slice (some ⟨b8, 0, none⟩) m m ∧ ρ' 11 = .slice (some ⟨b11, 0, none⟩) X.length X.length ∧ ρ' 43 = vi_ ∧ ρ' 44 = .int .i64 X.length ∧ ρ' 45 = .int .i64 t ∧ ρ' 12 = .int .i64 t ∧ ρ' 13 = .pointer (some ⟨b13, 0, none⟩) ∧ True) ⟨h8, h11, h43, h44, h45, rfl, rfl, trivial⟩ ?_
      rintro ρk12 ⟨hk12_8, hk12_11, hk12_43, hk12_44, hk12_45, hk12_12, hk12_13, -⟩
      repeat (with_reducible first | refine c_seq ?_ | refine c_block ?_ | refine c_skip ?_ | refine x_then ?_ | refine x_block ?_)
      refine c_reg ?_
      refine l_pure rfl (s_asg  rfl ?_)
      refine l_nil ?_
      repeat (with_reducible first | refine c_seq ?_ | refine c_block ?_ | refine c_skip ?_ | refine x_then ?_ | refine x_block ?_)
      refine c_reg ?_
      refine l_pure rfl (s_move  hk12_11 ?_)
      refine l_pure rfl (s_move  hk12_12 ?_)
      refine l_read rfl (s_ldo (k := 0)  hk12_13 vi_32 hS rfl rfl rfl (.inl rfl) ?_)
      refine l_pure rfl (s_move  hk12_8 ?_)
      refine l_heavy rfl (s_call Tryz.call27 rfl (hshare (.slice ca cs.length ccap) (.slice (some ⟨b8, 0, none⟩) m m) _ (hch.below hS.below) (by rw [hO2]; exact sl_blk hS (k := 2) rfl (tab_len _ _) (by omega))) ?_)
      rintro r w5 ⟨b14, rfl, hS5⟩
      replace hS := hS.join hS5
      replace hS : St w _ [(b14, 29, (tab cs.length fun i => ofQ (sh i)).flatMap encR), (b13, 32, encIt (x, .slice ca cs.length ccap)), (b11, 29, (tab X.length fun j => if j < t then ofQ (lfO (X.getD j zIt) (reD (X.take j) (inO owed))) else zRR).flatMap encR), (b8, 29, (tab m fun c => ofQ (f c - gotR cs sh 0 c)).flatMap encR)] := hS
      have htL : ((tab X.length fun j => if j < t then ofQ (lfO (X.getD j zIt) (reD (X.take j) (inO owed))) else zRR)).length = X.length := tab_len _ _
      refine l_pure rfl (s_move  rfl ?_)
      refine l_pure rfl (s_ext  rfl rfl ?_)
      refine l_pure rfl (s_ext  rfl rfl ?_)
      refine l_pure rfl (s_asg  rfl ?_)
      refine l_pure rfl (s_ixo (i := t)  rfl rfl (by omega) (by first | omega | (simp; done) | (simp; omega)) si_24 ?_)
      refine l_heavy rfl (s_stE (k := 2) (i := t) (enc := encR) (ofQ (lfO x O)) (fun _ => rfl)  rfl rfl vi_29 hS rfl (by first | omega | simp) (by first | omega | (simp; done) | (simp; omega)) rfl rfl ?_)
      intro wz13 hS
      refine l_nil ?_
      repeat (with_reducible first | refine c_seq ?_ | refine c_block ?_ | refine c_skip ?_ | refine x_then ?_ | refine x_block ?_)
      replace hS : St w _ [(b14, 29, (tab cs.length fun i => ofQ (sh i)).flatMap encR), (b13, 32, encIt (x, .slice ca cs.length ccap)), (b11, 29, ((tab X.length fun j => if j < t then ofQ (lfO (X.getD j zIt) (reD (X.take j) (inO owed))) else zRR).set t (ofQ (lfO x O))).flatMap encR), (b8, 29, (tab m fun c => ofQ (f c - gotR cs sh 0 c)).flatMap encR)] := hS
      rw [← hlfe, set_lt (fun j => ofQ (lfO (X.getD j zIt) (reD (X.take j) (inO owed))))] at hS
      repeat (with_reducible first | refine c_seq ?_ | refine c_block ?_ | refine c_skip ?_ | refine x_then ?_ | refine x_block ?_)
      refine c_forget (fun ρ' => ρ' 8 = .slice (some ⟨b8, 0, none⟩) m m ∧ ρ' 11 = .slice (some ⟨b11, 0, none⟩) X.length X.length ∧ ρ' 43 = vi_ ∧ ρ' 44 = .int .i64 X.length ∧ ρ' 45 = .int .i64 t ∧ ρ' 13 = .pointer (some ⟨b13, 0, none⟩) ∧ ρ' 14 = .slice (some ⟨b14, 0, none⟩) cs.length cs.length ∧ True) ⟨hk12_8, hk12_11, hk12_43, hk12_44, hk12_45, hk12_13, rfl, trivial⟩ ?_
      rintro ρk14 ⟨hk14_8, hk14_11, hk14_43, hk14_44, hk14_45, hk14_13, hk14_14, -⟩
      repeat (with_reducible first | refine c_seq ?_ | refine c_block ?_ | refine c_skip ?_ | refine x_then ?_ | refine x_block ?_)
      refine c_reg ?_
      refine l_pure rfl (s_fld  hk14_13 fo_32_2 ?_)
      refine l_read rfl (s_ldo (k := 1)  rfl vi_30 hS rfl rfl rfl (.inr rfl) ?_)
      refine l_pure rfl (s_lenr  rfl (hch.below hS.below) ⟨_, Tryz.underlying30⟩ ?_)
      refine l_pure rfl (s_move  rfl ?_)
      refine l_nil ?_
      repeat (with_reducible first | refine c_seq ?_ | refine c_skip ?_ | refine x_then ?_ | refine x_block ?_)
      refine c_cut1 (fun ρ w' => ρ 8 = .slice (some ⟨b8, 0, none⟩) m m ∧ ρ 11 = .slice (some ⟨b11, 0, none⟩) X.length X.length ∧ ρ 43 = vi_ ∧ ρ 44 = .int .i64 X.length ∧ ρ 45 = .int .i64 t ∧ St w w' [(b14, 29, (tab cs.length fun i => ofQ (sh i)).flatMap encR), (b13, 32, encIt (x, .slice ca cs.length ccap)), (b11, 29, (tab X.length fun j => if j < t + 1 then ofQ (lfO (X.getD j zIt) (reD (X.take j) (inO owed))) else zRR).flatMap encR), (b8, 29, (tab m fun c => ofQ (f c - gotR cs sh cs.length c)).flatMap encR)]) ?_ ?_
      · repeat (with_reducible first | refine c_seq ?_ | refine c_block ?_ | refine c_skip ?_ | refine x_then ?_ | refine x_block ?_)
        refine c_loop (σ := Nat) (fun k ρ w' => k ≤ cs.length ∧ ρ 8 = .slice (some ⟨b8, 0, none⟩) m m ∧ ρ 11 = .slice (some ⟨b11, 0, none⟩) X.length X.length ∧ ρ 43 = vi_ ∧ ρ 44 = .int .i64 X.length ∧ ρ 45 = .int .i64 t ∧ ρ 14 = .slice (some ⟨b14, 0, none⟩) cs.length cs.length ∧ ρ 60 = .slice ca cs.length ccap ∧ ρ 61 = .int .i64 cs.length ∧ ρ 62 = .int .i64 k ∧ St w w' [(b14, 29, (tab cs.length fun i => ofQ (sh i)).flatMap encR), (b13, 32, encIt (x, .slice ca cs.length ccap)), (b11, 29, (tab X.length fun j => if j < t + 1 then ofQ (lfO (X.getD j zIt) (reD (X.take j) (inO owed))) else zRR).flatMap encR), (b8, 29, (tab m fun c => ofQ (f c - gotR cs sh k c)).flatMap encR)]) (fun k => cs.length - k) 0
          ⟨Nat.zero_le _, by assumption, by assumption, by assumption, by assumption, by assumption, by assumption, rfl, rfl, rfl, hS⟩ ?_
        clear hS h8 h11 h43 h44 h45
        rintro k ρ w6 ⟨hk, h8, h11, h43, h44, h45, h14, h60, h61, h62, hS⟩
        repeat (with_reducible first | refine c_seq ?_ | refine c_block ?_ | refine c_skip ?_ | refine x_then ?_ | refine x_block ?_)
        refine c_reg ?_
        refine l_pure rfl (s_lss  h62 h61 ?_)
        refine l_nil ?_
        repeat (with_reducible first | refine c_seq ?_ | refine c_block ?_ | refine c_skip ?_ | refine x_then ?_ | refine x_block ?_)
        by_cases hkt : k < cs.length
        · refine c_yes rfl (decide_eq_true (by omega)) ?_
          repeat (with_reducible first | refine c_seq ?_ | refine c_block ?_ | refine c_skip ?_ | refine x_then ?_ | refine x_block ?_)
          obtain ⟨c, hc0⟩ : ∃ c, c = cs.getD k zCh := ⟨_, rfl⟩
          obtain ⟨kc, hkc⟩ : ∃ n, n = clm cs k := ⟨_, rfl⟩
          obtain ⟨hkm, hck⟩ := hok.cl hkt
          rw [← hkc] at hkm hck
          replace hck : c.claim = (kc : Int) := by rw [hc0]; exact hck
          have l1 := hsL k
          have l2 := hgL k (by omega) kc hkm
          have e1 : (tab cs.length fun i => ofQ (sh i)).getD k zRR = ofQ (sh k) := tab_get _ _ hkt
          have htl1 : (tab cs.length fun i => ofQ (sh i)).length = cs.length := tab_len _ _
          have e2 : (tab m fun c => ofQ (f c - gotR cs sh k c)).getD kc zRR = ofQ (f kc - gotR cs sh k kc) := tab_get _ _ hkm
          have htl2 : (tab m fun c => ofQ (f c - gotR cs sh k c)).length = m := tab_len _ _
          have hsub := fun w => QSubtract_ok (ofQ (f kc - gotR cs sh k kc)) (ofQ (sh k)) w (by rw [Lr_ofQ, Lr_ofQ]; omega)
          rw [toQ_ofQ, toQ_ofQ] at hsub
          repeat (with_reducible first | refine c_seq ?_ | refine c_block ?_ | refine c_skip ?_ | refine x_then ?_ | refine x_block ?_)
          refine c_reg ?_
          refine l_pure rfl (s_move  h62 ?_)
          refine l_pure rfl (s_ixr (i := k)  h60 h62 (hch.below hS.below) (by omega) (by first | omega | (simp; done) | (simp; omega)) si_30 ?_)
          refine l_read rfl (s_lde (i := k) zCh  rfl vi_38 (hch.below hS.below) (by first | omega | (simp; done) | (simp; omega)) rfl rfl (.inl rfl) ?_)
          refine l_heavy rfl (s_alloc  vi_38 hS ?_)
          intro b16 wz15 hS hBz15
          refine l_pure rfl (s_asg  rfl ?_)
          refine l_heavy rfl (s_sta (k := 0)  rfl rfl vi_38 hS rfl rfl rfl (Nat.le_of_ble_eq_true rfl) rfl ?_)
          intro wz16 hS
          refine l_nil ?_
          repeat (with_reducible first | refine c_seq ?_ | refine c_block ?_ | refine c_skip ?_ | refine x_then ?_ | refine x_block ?_)
          rw [← hc0] at hS
          replace hS : St w _ [(b16, 38, encCh c), (b14, 29, (tab cs.length fun i => ofQ (sh i)).flatMap encR), (b13, 32, encIt (x, .slice ca cs.length ccap)), (b11, 29, (tab X.length fun j => if j < t + 1 then ofQ (lfO (X.getD j zIt) (reD (X.take j) (inO owed))) else zRR).flatMap encR), (b8, 29, (tab m fun c => ofQ (f c - gotR cs sh k c)).flatMap encR)] := hS
          repeat (with_reducible first | refine c_seq ?_ | refine c_block ?_ | refine c_skip ?_ | refine x_then ?_ | refine x_block ?_)
          refine c_draw [(0, .pure), (1, .pure), (2, .read), (3, .pure), (4, .pure), (5, .read), (6, .pure), (7, .read), (8, .pure), (9, .pure), (10, .pure), (11, .read), (12, .grow), (13, .pure), (14, .free)] (by kernel_rfl) (by kernel_rfl) hS ?_
          intro wz17 hS hBz17
          refine w_pure rfl rfl (s_move  h8 ?_)
          refine w_pure rfl rfl (s_fld  rfl fo_38_0 ?_)
          refine w_read rfl rfl (s_ldo (k := 0)  rfl vi_3 hS rfl rfl rfl (.inr rfl) ?_)
          refine w_pure rfl rfl (s_move  h8 ?_)
          refine w_pure rfl rfl (s_fld  rfl fo_38_0 ?_)
          refine w_read rfl rfl (s_ldo (k := 0)  rfl vi_3 hS rfl rfl rfl (.inr rfl) ?_)
          refine w_pure rfl rfl (s_ixo (i := kc)  rfl rfl (by omega) (by first | omega | (simp; done) | (simp; omega)) si_24 ?_)
          refine w_read rfl rfl (s_ldE (k := 4) (i := kc) (enc := encR) zRR (fun _ => rfl)  rfl vi_29 hS rfl (by first | omega | simp) (by first | omega | (simp; done) | (simp; omega)) rfl (.inl rfl) ?_)
          refine w_pure rfl rfl (s_move  h14 ?_)
          refine w_pure rfl rfl (s_move  rfl ?_)
          refine w_pure rfl rfl (s_ixo (i := k)  rfl rfl (by omega) (by first | omega | (simp; done) | (simp; omega)) si_24 ?_)
          refine w_read rfl rfl (s_ldE (k := 1) (i := k) (enc := encR) zRR (fun _ => rfl)  rfl vi_29 hS rfl (by first | omega | simp) (by first | omega | (simp; done) | (simp; omega)) rfl (.inl rfl) ?_)
          rw [e1, e2]
          refine w_grow rfl rfl (s_call Tryz.call22 rfl (hsub _) ?_)
          rintro _ wc18 ⟨rfl, hBc18⟩
          replace hS := hS.grow hBc18
          refine ⟨hBc18, ?_⟩
          refine w_pure rfl rfl (s_ixo (i := kc)  rfl rfl (by omega) (by first | omega | (simp; done) | (simp; omega)) si_24 ?_)
          refine w_free rfl rfl (s_stE (k := 4) (i := kc) (enc := encR) (ofQ (f kc - gotR cs sh k kc - sh k)) (fun _ => rfl)  rfl rfl vi_29 hS rfl (by first | omega | simp) (by first | omega | (simp; done) | (simp; omega)) rfl rfl ?_)
          intro wz19 hS
          refine w_end ?_
          repeat (with_reducible first | refine c_seq ?_ | refine c_block ?_ | refine c_skip ?_ | refine x_then ?_ | refine x_block ?_)
          replace hS : St w _ [(b16, 38, encCh c), (b14, 29, (tab cs.length fun i => ofQ (sh i)).flatMap encR), (b13, 32, encIt (x, .slice ca cs.length ccap)), (b11, 29, (tab X.length fun j => if j < t + 1 then ofQ (lfO (X.getD j zIt) (reD (X.take j) (inO owed))) else zRR).flatMap encR), (b8, 29, ((tab m fun c => ofQ (f c - gotR cs sh k c)).set kc (ofQ (f kc - gotR cs sh k kc - sh k))).flatMap encR)] := hS
          have hset : (tab m fun c => ofQ (f c - gotR cs sh k c)).set kc (ofQ (f kc - gotR cs sh k kc - sh k)) = tab m fun c => ofQ (f c - gotR cs sh (k + 1) c) := by
            rw [tab_setQ]
            refine tab_congr fun c' _ => ?_
            rw [gotR_succ, ← hkc]
            by_cases e : c' = kc
            · rw [if_pos e, if_pos e, e]; congr 1; grind
            · rw [if_neg e, if_neg e]
          rw [hset] at hS
          repeat (with_reducible first | refine c_seq ?_ | refine c_block ?_ | refine c_skip ?_ | refine x_then ?_ | refine x_block ?_)
          refine c_reg ?_
          refine l_pure rfl (s_add  h62 rfl (IntWalk.i64_in _ (by omega)) ?_)
          refine l_pure rfl (s_move  rfl ?_)
          refine l_nil ?_
          repeat (with_reducible first | refine c_seq ?_ | refine c_block ?_ | refine c_skip ?_ | refine x_then ?_ | refine x_block ?_)
          exact ⟨k + 1, _, rfl, ⟨hkt, by assumption, by assumption, by assumption, by assumption, by assumption, by assumption, by assumption, by assumption, vi rfl (by omega), hS.drop (List.sublist_cons_self _ _)⟩, by omega⟩
        · refine c_no rfl (decide_eq_false (by omega)) ?_
          repeat (with_reducible first | refine c_seq ?_ | refine c_block ?_ | refine c_skip ?_ | refine x_then ?_ | refine x_block ?_)
          refine c_exit ?_
          repeat (with_reducible first | refine x_then_exit ?_ | refine x_block_exit ?_ | refine x_block_pass rfl ?_)
          repeat (with_reducible first | refine c_seq ?_ | refine c_block ?_ | refine c_skip ?_ | refine x_then ?_ | refine x_block ?_)
          obtain rfl : k = cs.length := by omega
          exact ⟨_, rfl, h8, h11, h43, h44, h45, hS⟩
      clear hS h8 h11 h43 h44 h45
      rintro ρ w6 ⟨h8, h11, h43, h44, h45, hS⟩
      rw [← hstO, ← hsnoc] at hS
      repeat (with_reducible first | refine c_seq ?_ | refine c_block ?_ | refine c_skip ?_ | refine x_then ?_ | refine x_block ?_)
      refine c_reg ?_
      refine l_pure rfl (s_add  h45 rfl (IntWalk.i64_in _ (by omega)) ?_)
      refine l_pure rfl (s_move  rfl ?_)
      refine l_nil ?_
      repeat (with_reducible first | refine c_seq ?_ | refine c_block ?_ | refine c_skip ?_ | refine x_then ?_ | refine x_block ?_)
      exact ⟨t + 1, _, rfl, ⟨hlt, by assumption, by assumption, by assumption, by assumption, vi rfl (by omega), (hS.drop (List.sublist_cons_self _ _)).drop (List.sublist_cons_self _ _)⟩, by omega⟩
    · refine c_no rfl (decide_eq_false (by omega)) ?_
      repeat (with_reducible first | refine c_seq ?_ | refine c_block ?_ | refine c_skip ?_ | refine x_then ?_ | refine x_block ?_)
      refine c_exit ?_
      repeat (with_reducible first | refine x_then_exit ?_ | refine x_block_exit ?_ | refine x_block_pass rfl ?_)
      repeat (with_reducible first | refine c_seq ?_ | refine c_block ?_ | refine c_skip ?_ | refine x_then ?_ | refine x_block ?_)
      obtain rfl : t = X.length := by omega
      rw [List.take_of_length_le (Nat.le_refl _), tab_congr (g := fun j => ofQ (lfO (X.getD j zIt) (reD (X.take j) (inO owed)))) (fun j hj => if_pos hj)] at hS
      exact ⟨_, rfl, h8, h11, hS⟩
  clear hS h0 h8
  rintro ρ w3 ⟨h8, h11, hS⟩
  repeat (with_reducible first | refine c_seq ?_ | refine c_block ?_ | refine c_skip ?_ | refine x_then ?_ | refine x_block ?_)
  refine c_reg ?_
  refine l_pure rfl (s_move  h8 ?_)
  refine l_pure rfl (s_move  h11 ?_)
  refine l_pure rfl (s_asg  rfl ?_)
  refine l_pure rfl (s_asg  rfl ?_)
  refine l_pure rfl (s_asg  rfl ?_)
  refine l_nil ?_
  repeat (with_reducible first | refine c_seq ?_ | refine c_block ?_ | refine c_skip ?_ | refine x_then ?_ | refine x_block ?_)
  refine c_ret ?_
  repeat (with_reducible first | refine x_then_ret ?_ | refine x_block_ret ?_)
  refine r_three rfl rfl rfl rfl ?_
  rw [he, hrd, hrl]
  exact ⟨⟨_, _, rfl, sl_blk hS (k := 1) rfl (by rw [reD_len, inO_len, hm]) (by omega), sl_blk hS (k := 0) rfl (tab_len _ _) (by omega)⟩, hS.below⟩
end Go.Proofs.YtknccjbkacaelaaGreatDoor
namespace Go.Proofs.YtknccjbkacaelaaGreatDoor
open Go Go.RowKit Go.Sx
set_option maxHeartbeats 1000000 in
theorem rShare_full (x : It) (vc vo : Value) (owed : List RR) (K : Nat) (w : World) (hch : Sl encCh 6 w vc x.charges) (ho : Sl encR 3 w vo owed) (hXB : ItB K [x]) (hoB : RB K owed) (hK : 20000 * K + 20000 ≤ MX) :
    Ret Tryz.prog 15 #[aggIt x vc, vo] w fun r w' => ((∃ v, r = .tuple #[v, aggR (lefR x owed), .int .i64 (checkE [x] owed)] ∧ Sl encR 3 w' v (shsL x owed)) ∧ Below w.heap.size w w') ∧
      (checkE [x] owed = 0 → ∃ b, r = .tuple #[.slice (some ⟨b, 0, none⟩) x.charges.length x.charges.length, aggR (ofQ (lefQ x.charges (kapQ x.charges (owF owed)) (procQ x))), .int .i64 0] ∧
        St w w' [(b, 29, (tab x.charges.length fun i => ofQ (shQ x.charges (kapQ x.charges (owF owed)) (procQ x) i)).flatMap encR)]) := by
  have hM : MX = 1099511627776 := rfl
  have hS := St.init w
  refine enter Tryz.func15 rfl Tryz.ntmps15 rfl ?_
  repeat (with_reducible first | refine c_seq ?_ | refine c_block ?_ | refine c_skip ?_ | refine x_then ?_ | refine x_block ?_)
  refine c_reg ?_
  refine l_heavy rfl (s_box  rfl rfl hS ?_)
  intro b2 wz1 hS hBz1
  refine l_pure rfl (s_asg  rfl ?_)
  refine l_heavy rfl (s_alloc  vi_29 hS ?_)
  intro b5 wz2 hS hBz2
  refine l_pure rfl (s_asg  rfl ?_)
  refine l_nil ?_
  repeat (with_reducible first | refine c_seq ?_ | refine c_block ?_ | refine c_skip ?_ | refine x_then ?_ | refine x_block ?_)
  replace hS : St w _ [(b5, 29, encR zRR), (b2, 32, encIt (x, vc))] := hS
  repeat (with_reducible first | refine c_seq ?_ | refine c_block ?_ | refine c_skip ?_ | refine x_then ?_ | refine x_block ?_)
  refine c_reg ?_
  refine l_read rfl (s_ldo (k := 1)  rfl vi_32 hS rfl rfl rfl (.inl rfl) ?_)
  refine l_heavy rfl (s_bsl (vs := [aggIt x vc])  rfl si_26 rfl (by decide) (by decide) (by decide) (by simp [Value.cells, aggIt]) rfl hS ?_)
  intro b11 wz3 hS hBz3
  refine l_pure rfl (s_move  rfl ?_)
  replace hS : St w _ [(b11, 32, ([x].zip [vc]).flatMap encIt), (b5, 29, encR zRR), (b2, 32, encIt (x, vc))] := hS
  have hI : Its _ (.slice (some ⟨b11, 0, none⟩) 1 1) [x] [vc] := ⟨rfl, hS.sle (k := 0) (L := [x].zip [vc]) (n := 1) (cap := 1) rfl encIt_len (Nat.le_refl _) (Nat.le_refl _) (by decide), fun i hi => (by
    obtain rfl : i = 0 := by simp at hi; exact hi
    exact hch.below hS.below)⟩
  refine l_heavy rfl (s_call Tryz.call41 rfl (rCheck_ok _ vo [x] [vc] owed _ hI (ho.below hS.below) (ItB_mono hXB (by omega)) (RB_mono hoB (by omega))) ?_)
  rintro r' w2 ⟨rfl, hB2⟩
  replace hS := hS.grow hB2
  refine l_pure rfl (s_asg  rfl ?_)
  refine l_nil ?_
  repeat (with_reducible first | refine c_seq ?_ | refine c_block ?_ | refine c_skip ?_ | refine x_then ?_ | refine x_block ?_)
  refine c_forget (fun ρ' => ρ' 1 = vo ∧ ρ' 2 = .pointer (some ⟨b2, 0, none⟩) ∧ ρ' 5 = .pointer (some ⟨b5, 0, none⟩) ∧ ρ' 7 = .int .i64 (checkE [x] owed) ∧ True) ⟨rfl, rfl, rfl, rfl, trivial⟩ ?_
  rintro ρk4 ⟨hk4_1, hk4_2, hk4_5, hk4_7, -⟩
  repeat (with_reducible first | refine c_seq ?_ | refine c_block ?_ | refine c_skip ?_ | refine x_then ?_ | refine x_block ?_)
  refine c_reg ?_
  refine l_pure rfl (s_move  hk4_7 ?_)
  refine l_pure rfl (s_neq  rfl rfl ?_)
  refine l_nil ?_
  repeat (with_reducible first | refine c_seq ?_ | refine c_block ?_ | refine c_skip ?_ | refine x_then ?_ | refine x_block ?_)
  by_cases he : checkE [x] owed = 0
  case neg =>
    refine c_yes rfl (decide_eq_true he) ?_
    repeat (with_reducible first | refine c_seq ?_ | refine c_block ?_ | refine c_skip ?_ | refine x_then ?_ | refine x_block ?_)
    refine c_reg ?_
    refine l_pure rfl (s_build  rfl bz_29 ?_)
    refine l_pure rfl (s_move  hk4_7 ?_)
    refine l_pure rfl (s_asg  rfl ?_)
    refine l_heavy rfl (s_sta (k := 1)  hk4_5 rfl vi_29 hS rfl rfl rfl (Nat.le_of_ble_eq_true rfl) rfl ?_)
    intro wz5 hS
    refine l_pure rfl (s_asg  rfl ?_)
    refine l_nil ?_
    repeat (with_reducible first | refine c_seq ?_ | refine c_block ?_ | refine c_skip ?_ | refine x_then ?_ | refine x_block ?_)
    refine c_ret ?_
    repeat (with_reducible first | refine x_then_ret ?_ | refine x_block_ret ?_)
    refine r_tmp_cell_tmp (k := 1) rfl hk4_5 rfl rfl vi_29 hS rfl rfl ?_
    exact ⟨⟨⟨_, by unfold lefR; rw [if_neg he]; rfl, by unfold shsL; rw [if_neg he]; exact Sl.nil _ _ _⟩, hS.below⟩, fun h => absurd h he⟩
  refine c_no rfl (decide_eq_false (not_not_intro he)) ?_
  repeat (with_reducible first | refine c_seq ?_ | refine c_block ?_ | refine c_skip ?_ | refine x_then ?_ | refine x_block ?_)
  obtain ⟨hp1, hp2, _⟩ := hXB x List.mem_cons_self
  have hz := checkE_zero he
  repeat (with_reducible first | refine c_seq ?_ | refine c_block ?_ | refine c_skip ?_ | refine x_then ?_ | refine x_block ?_)
  refine c_reg ?_
  refine l_read rfl (s_ldo (k := 2)  hk4_2 vi_32 hS rfl rfl rfl (.inl rfl) ?_)
  refine l_pure rfl (s_move  hk4_1 ?_)
  refine l_heavy rfl (s_call Tryz.call42 rfl (rshare_ok x vc vo owed K _ (hch.below hS.below) (ho.below hS.below) (chok_of he List.mem_cons_self hXB hoB) hp1 hp2 (by omega) hoB hK) ?_)
  rintro r' w3 ⟨b14, rfl, hS3⟩
  replace hS := hS.join hS3
  refine l_pure rfl (s_move  rfl ?_)
  refine l_pure rfl (s_ext  rfl rfl ?_)
  refine l_pure rfl (s_ext  rfl rfl ?_)
  refine l_heavy rfl (s_alloc  vi_29 hS ?_)
  intro b9 wz6 hS hBz6
  refine l_pure rfl (s_asg  rfl ?_)
  refine l_heavy rfl (s_sta (k := 0)  rfl rfl vi_29 hS rfl rfl rfl (Nat.le_of_ble_eq_true rfl) rfl ?_)
  intro wz7 hS
  refine l_nil ?_
  repeat (with_reducible first | refine c_seq ?_ | refine c_block ?_ | refine c_skip ?_ | refine x_then ?_ | refine x_block ?_)
  refine c_forget (fun ρ' => ρ' 5 = .pointer (some ⟨b5, 0, none⟩) ∧ ρ' 8 = .slice (some ⟨b14, 0, none⟩) x.charges.length x.charges.length ∧ ρ' 9 = .pointer (some ⟨b9, 0, none⟩) ∧ True) ⟨hk4_5, rfl, rfl, trivial⟩ ?_
  rintro ρk8 ⟨hk8_5, hk8_8, hk8_9, -⟩
  repeat (with_reducible first | refine c_seq ?_ | refine c_block ?_ | refine c_skip ?_ | refine x_then ?_ | refine x_block ?_)
  refine c_draw [(0, .pure), (1, .read), (2, .pure), (3, .free), (4, .pure)] (by kernel_rfl) (by kernel_rfl) hS ?_
  intro wz9 hS hBz9
  refine w_pure rfl rfl (s_move  hk8_8 ?_)
  refine w_read rfl rfl (s_ldo (k := 0)  hk8_9 vi_29 hS rfl rfl rfl (.inl rfl) ?_)
  refine w_pure rfl rfl (s_asg  rfl ?_)
  refine w_free rfl rfl (s_sta (k := 3)  hk8_5 rfl vi_29 hS rfl rfl rfl (Nat.le_of_ble_eq_true rfl) rfl ?_)
  intro wz10 hS
  refine w_pure rfl rfl (s_asg  rfl ?_)
  refine w_end ?_
  repeat (with_reducible first | refine c_seq ?_ | refine c_block ?_ | refine c_skip ?_ | refine x_then ?_ | refine x_block ?_)
  refine c_ret ?_
  repeat (with_reducible first | refine x_then_ret ?_ | refine x_block_ret ?_)
  refine r_tmp_cell_tmp (k := 3) rfl hk8_5 rfl rfl vi_29 hS rfl rfl ?_
  have h8 := (itErr_zero (hz.2.2.2.1 x List.mem_cons_self)).1
  rw [he]
  refine ⟨⟨⟨_, by unfold lefR; rw [if_pos he]; rfl, ?_⟩, hS.below⟩, fun _ => ⟨b14, rfl, (hS.drop (List.sublist_cons_self _ _)).drop (List.sublist_append_left [_] _)⟩⟩
  unfold shsL
  rw [if_pos he]
  exact sl_tab (by omega) (hS.drop (List.sublist_cons_self _ _))
theorem rShare_ok (x : It) (vc vo : Value) (owed : List RR) (K : Nat) (w : World) (hch : Sl encCh 6 w vc x.charges) (ho : Sl encR 3 w vo owed) (hXB : ItB K [x]) (hoB : RB K owed) (hK : 20000 * K + 20000 ≤ MX) :
    Ret Tryz.prog 15 #[aggIt x vc, vo] w fun r w' => (∃ v, r = .tuple #[v, aggR (lefR x owed), .int .i64 (checkE [x] owed)] ∧ Sl encR 3 w' v (shsL x owed)) ∧ Below w.heap.size w w' :=
  (rShare_full x vc vo owed K w hch ho hXB hoB hK).mono fun _ _ h => h.1
set_option maxHeartbeats 4000000 in
theorem rRealize_ok (vi_ vo : Value) (X : List It) (cvs : List Value) (owed : List RR) (w : World) (hX : Its w vi_ X cvs) (ho : Sl encR 3 w vo owed) (hXB : ItB 24 X) (hoB : RB 24 owed) :
    Ret Tryz.prog 17 #[vi_, vo] w fun r w' => (∃ v1 v2, r = .tuple #[v1, v2, .int .i64 (checkE X owed)] ∧ Sl encR 3 w' v1 (rzD X owed) ∧ Sl encR 3 w' v2 (rzL X owed)) ∧ Below w.heap.size w w' := by
  have hM : MX = 1099511627776 := rfl
  have hKK : KK = 300000 := rfl
  have hzl := hX.zlen
  have hS := St.init w
  refine enter Tryz.func17 rfl Tryz.ntmps17 rfl ?_
  repeat (with_reducible first | refine c_seq ?_ | refine c_block ?_ | refine c_skip ?_ | refine x_then ?_ | refine x_block ?_)
  refine c_reg ?_
  refine l_pure rfl (s_asg  rfl ?_)
  refine l_pure rfl (s_asg  rfl ?_)
  refine l_pure rfl (s_asg  rfl ?_)
  refine l_nil ?_
  repeat (with_reducible first | refine c_seq ?_ | refine c_block ?_ | refine c_skip ?_ | refine x_then ?_ | refine x_block ?_)
  refine c_reg ?_
  refine l_pure rfl (s_move  rfl ?_)
  refine l_pure rfl (s_move  rfl ?_)
  refine l_heavy rfl (s_call Tryz.call41 rfl (rCheck_ok vi_ vo X cvs owed _ (hX.below hS.below) (ho.below hS.below) (ItB_mono hXB (by omega)) (RB_mono hoB (by omega))) ?_)
  rintro r w1 ⟨rfl, hB1⟩
  replace hS := hS.grow hB1
  refine l_pure rfl (s_asg  rfl ?_)
  refine l_nil ?_
  repeat (with_reducible first | refine c_seq ?_ | refine c_block ?_ | refine c_skip ?_ | refine x_then ?_ | refine x_block ?_)
  refine c_forget (fun ρ' => ρ' 0 = vi_ ∧ ρ' 1 = vo ∧ ρ' 7 = .int .i64 (checkE X owed) ∧ True) ⟨rfl, rfl, rfl, trivial⟩ ?_
  rintro ρk1 ⟨hk1_0, hk1_1, hk1_7, -⟩
  repeat (with_reducible first | refine c_seq ?_ | refine c_block ?_ | refine c_skip ?_ | refine x_then ?_ | refine x_block ?_)
  refine c_reg ?_
  refine l_pure rfl (s_move  hk1_7 ?_)
  refine l_pure rfl (s_neq  rfl rfl ?_)
  refine l_nil ?_
  repeat (with_reducible first | refine c_seq ?_ | refine c_block ?_ | refine c_skip ?_ | refine x_then ?_ | refine x_block ?_)
  by_cases he : checkE X owed = 0
  case neg =>
    refine c_yes rfl (decide_eq_true he) ?_
    repeat (with_reducible first | refine c_seq ?_ | refine c_block ?_ | refine c_skip ?_ | refine x_then ?_ | refine x_block ?_)
    refine c_reg ?_
    refine l_pure rfl (s_move  hk1_7 ?_)
    refine l_pure rfl (s_asg  rfl ?_)
    refine l_pure rfl (s_asg  rfl ?_)
    refine l_pure rfl (s_asg  rfl ?_)
    refine l_nil ?_
    repeat (with_reducible first | refine c_seq ?_ | refine c_block ?_ | refine c_skip ?_ | refine x_then ?_ | refine x_block ?_)
    refine c_ret ?_
    repeat (with_reducible first | refine x_then_ret ?_ | refine x_block_ret ?_)
    refine r_three rfl rfl rfl rfl ?_
    exact ⟨⟨_, _, rfl, by unfold rzD; rw [if_neg he]; exact Sl.nil _ _ _, by unfold rzL; rw [if_neg he]; exact Sl.nil _ _ _⟩, hS.below⟩
  refine c_no rfl (decide_eq_false (not_not_intro he)) ?_
  repeat (with_reducible first | refine c_seq ?_ | refine c_block ?_ | refine c_skip ?_ | refine x_then ?_ | refine x_block ?_)
  obtain ⟨hz1, hz2, hz3, hz4, hz5⟩ := checkE_zero he
  have hrd : rzD X owed = reD X (inO owed) := if_pos he
  have hrl : rzL X owed = reL X (inO owed) := if_pos he
  have hrf := fun t ht => re_facts he hXB hoB (t := t) ht
  have hfx := fun (v : Value) w h => rFixed_ok v owed w h (RB_mono hoB (by omega)) (by omega)
  have hin : (tab owed.length fun j => ofQ (owF owed j)) = reD (X.take 0) (inO owed) := rfl
  rw [hin] at hfx
  obtain ⟨m, hm⟩ : ∃ m, m = owed.length := ⟨_, rfl⟩
  have hrt := fun Y => reD_tab Y owed
  rw [← hm] at hrf hrt hz2
  repeat (with_reducible first | refine c_seq ?_ | refine c_block ?_ | refine c_skip ?_ | refine x_then ?_ | refine x_block ?_)
  refine c_reg ?_
  refine l_pure rfl (s_move  hk1_1 ?_)
  refine l_heavy rfl (s_call Tryz.call28 rfl (hfx vo _ (ho.below hS.below)) ?_)
  rintro v8 w2 ⟨LO, hG, hSO⟩
  replace hS : St w w2 ([] ++ LO) := (hS.join hSO).perm List.perm_append_comm
  refine l_pure rfl (s_asg  rfl ?_)
  refine l_nil ?_
  repeat (with_reducible first | refine c_seq ?_ | refine c_block ?_ | refine c_skip ?_ | refine x_then ?_ | refine x_block ?_)
  refine c_reg ?_
  refine l_pure rfl (s_asg  rfl ?_)
  refine l_nil ?_
  repeat (with_reducible first | refine c_seq ?_ | refine c_block ?_ | refine c_skip ?_ | refine x_then ?_ | refine x_block ?_)
  refine c_reg ?_
  refine l_pure rfl (s_asg  rfl ?_)
  refine l_nil ?_
  repeat (with_reducible first | refine c_seq ?_ | refine c_skip ?_ | refine x_then ?_ | refine x_block ?_)
  refine c_cut1 (fun ρ w' => ρ 8 = v8 ∧ ∃ sR LO LR, ρ 9 = sR ∧ Gl encR 29 3 v8 (reD X (inO owed)) LO ∧ Gl encR 29 3 sR (reL X (inO owed)) LR ∧ St w w' ([] ++ LO ++ LR)) ?_ ?_
  · repeat (with_reducible first | refine c_seq ?_ | refine c_block ?_ | refine c_skip ?_ | refine x_then ?_ | refine x_block ?_)
    refine c_loop (σ := Nat) (fun t ρ w' => t ≤ X.length ∧ ρ 0 = vi_ ∧ ρ 8 = v8 ∧ ρ 10 = .int .i64 t ∧ ∃ sR LO LR, ρ 9 = sR ∧ Gl encR 29 3 v8 (reD (X.take t) (inO owed)) LO ∧ Gl encR 29 3 sR (tab t fun j => ofQ (lfO (X.getD j zIt) (reD (X.take j) (inO owed)))) LR ∧ St w w' ([] ++ LO ++ LR)) (fun t => X.length - t) 0
      ⟨Nat.zero_le _, by assumption, rfl, rfl, _, LO, [], rfl, hG, Gl.nil _ _ _, hS.cast (List.append_nil _).symm⟩ ?_
    clear hS hG
    rintro t ρ w3 ⟨ht, h0, h8, h10, sR, LO, LR, h9, hG, hR, hS⟩
    have htR := tab_len t (fun j => ofQ (lfO (X.getD j zIt) (reD (X.take j) (inO owed))))
    repeat (with_reducible first | refine c_seq ?_ | refine c_block ?_ | refine c_skip ?_ | refine x_then ?_ | refine x_block ?_)
    refine c_reg ?_
    refine l_pure rfl (s_move  h10 ?_)
    refine l_pure rfl (s_move  h0 ?_)
    refine l_pure rfl (s_lenr  rfl (hX.sl.below hS.below) ⟨_, Tryz.underlying26⟩ ?_)
    refine l_pure rfl (s_lss  rfl rfl ?_)
    refine l_nil ?_
    repeat (with_reducible first | refine c_seq ?_ | refine c_block ?_ | refine c_skip ?_ | refine x_then ?_ | refine x_block ?_)
    by_cases hlt : t < X.length
    · refine c_yes rfl (decide_eq_true (by omega)) ?_
      repeat (with_reducible first | refine c_seq ?_ | refine c_block ?_ | refine c_skip ?_ | refine x_then ?_ | refine x_block ?_)
      obtain ⟨hok, hgL⟩ := hrf t hlt
      have htk := take_succ' X t zIt hlt
      obtain ⟨x, hx⟩ : ∃ x, x = X.getD t zIt := ⟨_, rfl⟩
      obtain ⟨vc, hvc⟩ : ∃ v, v = cvs.getD t undef := ⟨_, rfl⟩
      have hxX : x ∈ X := by rw [hx]; exact getD_mem X t zIt hlt
      have hch := hX.ch t hlt
      have hzg := hX.zget hlt
      rw [← hx] at hok hgL htk
      rw [← hx, ← hvc] at hch hzg
      obtain ⟨O, hO⟩ : ∃ O, O = reD (X.take t) (inO owed) := ⟨_, rfl⟩
      have hOt := hrt (X.take t)
      rw [← hO] at hok hgL hOt hG
      have hsnoc : reD (X.take (t + 1)) (inO owed) = stO x O := by rw [htk, reD_snoc, ← hO]
      have hlfe : ofQ (lfO (X.getD t zIt) (reD (X.take t) (inO owed))) = ofQ (lfO x O) := by rw [← hx, ← hO]
      have htR1 := tab_succ t (fun j => ofQ (lfO (X.getD j zIt) (reD (X.take j) (inO owed))))
      rw [hlfe] at htR1
      obtain ⟨f, hf⟩ : ∃ f, f = owF O := ⟨_, rfl⟩
      have hOl : O.length = m := by rw [hOt, tab_len]
      have hOB : RB KK O := fun q hq => by
        rw [hOt] at hq
        obtain ⟨c, hc, rfl⟩ := tab_mem hq
        have := hgL 0 (Nat.zero_le _) c hc
        rw [gotR_zero, show owF O c - 0 = owF O c by grind] at this
        rw [Lr_ofQ]; exact this
      obtain ⟨x1, x2, x3⟩ := hXB x hxX
      have lP : L (procQ x) ≤ 2 * KK + 1 := by have h1 := L_proc x; omega
      have hsL : ∀ i, L (shO x O i) ≤ 160 * KK + 180 := fun i => sh_L hok lP i
      have hshare := fun v1 v2 w h1 h2 => rshare_ok x v1 v2 O KK w h1 h2 (by rw [hOl]; exact hok) (by omega) (by omega) (by omega) hOB (by omega)
      have hstO : stO x O = tab m fun c => ofQ (f c - gotR x.charges (shO x O) x.charges.length c) := by unfold stO; rw [hOl, hf]
      replace hshare : ∀ (v1 v2 : Value) w, Sl encCh 6 w v1 x.charges → Sl encR 3 w v2 O → Ret Tryz.prog 42 #[aggIt x v1, v2] w fun r w' => ∃ b, r = .tuple #[.slice (some ⟨b, 0, none⟩) x.charges.length x.charges.length, aggR (ofQ (lfO x O))] ∧ St w w' [(b, 29, (tab x.charges.length fun i => ofQ (shO x O i)).flatMap encR)] := hshare
      obtain ⟨lf, hlf⟩ : ∃ q, q = lfO x O := ⟨_, rfl⟩
      obtain ⟨sh, hsh⟩ : ∃ s, s = shO x O := ⟨_, rfl⟩
      rw [← hsh] at hgL hsL hstO hshare
      rw [← hlf] at hshare htR1
      rw [← hf] at hgL
      obtain ⟨cs, hcs⟩ : ∃ cs, cs = x.charges := ⟨_, rfl⟩
      rw [← hcs] at hch hok hgL hstO hshare
      have hn8 := hok.n8
      have hlB := fun i (hi : i < cs.length) => hok.lB i hi
      have hOf : (tab m fun c => ofQ (owF O c)) = tab m fun c => ofQ (f c - gotR cs sh 0 c) := tab_congr fun c _ => by rw [gotR_zero, hf]; congr 1; grind
      have hO2 : O = tab m fun c => ofQ (f c - gotR cs sh 0 c) := hOt.trans hOf
      obtain ⟨ca, ccap, hvc2, _⟩ := hch.form
      subst hvc2
      have hOr := hG.sl (hS.perm (perm3 _ _ _)) encR_len
      rw [hO2] at hG
      repeat (with_reducible first | refine c_seq ?_ | refine c_block ?_ | refine c_skip ?_ | refine x_then ?_ | refine x_block ?_)
      refine c_reg ?_
      refine l_pure rfl (s_move  h0 ?_)
      refine l_pure rfl (s_move  h10 ?_)
      refine l_pure rfl (s_ixr (i := t)  rfl rfl (hX.sl.below hS.below) (by omega) (by first | omega | (simp; done) | (simp; omega)) si_26 ?_)
      refine l_read rfl (s_lde (v := aggIt x (.slice ca cs.length ccap)) (i := t) (zIt, undef)  rfl vi_32 (hX.sl.below hS.below) (by omega) rfl (by rw [hzg]; rfl) (.inl rfl) ?_)
      refine l_pure rfl (s_move  h8 ?_)
      refine l_heavy rfl (s_call Tryz.call42 rfl (hshare (.slice ca cs.length ccap) v8 _ (hch.below hS.below) hOr) ?_)
      rintro r w5 ⟨bs, rfl, hS5⟩
      replace hS := hS.join hS5
      replace hS : St w _ ([(bs, 29, (tab cs.length fun i => ofQ (sh i)).flatMap encR)] ++ LO ++ LR) := hS
      refine l_pure rfl (s_move  rfl ?_)
      refine l_pure rfl (s_ext  rfl rfl ?_)
      refine l_pure rfl (s_ext  rfl rfl ?_)
      refine l_heavy rfl (s_alloc  vi_29 hS ?_)
      intro b12 wz2 hS hBz2
      refine l_pure rfl (s_asg  rfl ?_)
      refine l_heavy rfl (s_sta (k := 0)  rfl rfl vi_29 hS rfl rfl rfl (Nat.le_of_ble_eq_true rfl) rfl ?_)
      intro wz3 hS
      refine l_nil ?_
      repeat (with_reducible first | refine c_seq ?_ | refine c_block ?_ | refine c_skip ?_ | refine x_then ?_ | refine x_block ?_)
      replace hS : St w _ ([(b12, 29, encR (ofQ lf)), (bs, 29, (tab cs.length fun i => ofQ (sh i)).flatMap encR)] ++ LO ++ LR) := hS
      repeat (with_reducible first | refine c_seq ?_ | refine c_block ?_ | refine c_skip ?_ | refine x_then ?_ | refine x_block ?_)
      refine c_forget (fun ρ' => ρ' 0 = vi_ ∧ ρ' 8 = v8 ∧ ρ' 9 = sR ∧ ρ' 10 = .int .i64 t ∧ ρ' 11 = .slice (some ⟨bs, 0, none⟩) cs.length cs.length ∧ ρ' 12 = .pointer (some ⟨b12, 0, none⟩) ∧ True) ⟨h0, h8, h9, h10, rfl, rfl, trivial⟩ ?_
      rintro ρk4 ⟨hk4_0, hk4_8, hk4_9, hk4_10, hk4_11, hk4_12, -⟩
      repeat (with_reducible first | refine c_seq ?_ | refine c_block ?_ | refine c_skip ?_ | refine x_then ?_ | refine x_block ?_)
      refine c_reg ?_
      refine l_pure rfl (s_asg  rfl ?_)
      refine l_nil ?_
      repeat (with_reducible first | refine c_seq ?_ | refine c_skip ?_ | refine x_then ?_ | refine x_block ?_)
      refine c_cut1 (fun ρ w' => ρ 0 = vi_ ∧ ρ 8 = v8 ∧ ρ 9 = sR ∧ ρ 10 = .int .i64 t ∧ ρ 12 = .pointer (some ⟨b12, 0, none⟩) ∧ ∃ LO, Gl encR 29 3 v8 (tab m fun c => ofQ (f c - gotR cs sh cs.length c)) LO ∧ St w w' ([(b12, 29, encR (ofQ lf)), (bs, 29, (tab cs.length fun i => ofQ (sh i)).flatMap encR)] ++ LO ++ LR)) ?_ ?_
      · repeat (with_reducible first | refine c_seq ?_ | refine c_block ?_ | refine c_skip ?_ | refine x_then ?_ | refine x_block ?_)
        refine c_loop (σ := Nat) (fun k ρ w' => k ≤ cs.length ∧ ρ 0 = vi_ ∧ ρ 8 = v8 ∧ ρ 9 = sR ∧ ρ 10 = .int .i64 t ∧ ρ 11 = .slice (some ⟨bs, 0, none⟩) cs.length cs.length ∧ ρ 12 = .pointer (some ⟨b12, 0, none⟩) ∧ ρ 13 = .int .i64 k ∧ ∃ LO, Gl encR 29 3 v8 (tab m fun c => ofQ (f c - gotR cs sh k c)) LO ∧ St w w' ([(b12, 29, encR (ofQ lf)), (bs, 29, (tab cs.length fun i => ofQ (sh i)).flatMap encR)] ++ LO ++ LR)) (fun k => cs.length - k) 0
          ⟨Nat.zero_le _, by assumption, by assumption, by assumption, by assumption, by assumption, by assumption, rfl, LO, hG, hS⟩ ?_
        clear hS hG h0 h8 h9 h10
        rintro k ρ w6 ⟨hk, h0, h8, h9, h10, h11, h12, h13, LO, hG, hS⟩
        repeat (with_reducible first | refine c_seq ?_ | refine c_block ?_ | refine c_skip ?_ | refine x_then ?_ | refine x_block ?_)
        refine c_reg ?_
        refine l_pure rfl (s_move  h13 ?_)
        refine l_pure rfl (s_move  h11 ?_)
        refine l_pure rfl (s_leno  rfl ⟨_, Tryz.underlying24⟩ ?_)
        refine l_pure rfl (s_lss  rfl rfl ?_)
        refine l_nil ?_
        repeat (with_reducible first | refine c_seq ?_ | refine c_block ?_ | refine c_skip ?_ | refine x_then ?_ | refine x_block ?_)
        by_cases hkt : k < cs.length
        · refine c_yes rfl (decide_eq_true (by omega)) ?_
          repeat (with_reducible first | refine c_seq ?_ | refine c_block ?_ | refine c_skip ?_ | refine x_then ?_ | refine x_block ?_)
          obtain ⟨c, hc0⟩ : ∃ c, c = cs.getD k zCh := ⟨_, rfl⟩
          obtain ⟨kc, hkc⟩ : ∃ n, n = clm cs k := ⟨_, rfl⟩
          obtain ⟨hkm, hck⟩ := hok.cl hkt
          rw [← hkc] at hkm hck
          replace hck : (cs.getD k zCh).claim = (kc : Int) := hck
          have l1 := hsL k
          have l2 := hgL k (by omega) kc hkm
          have e1 : (tab cs.length fun i => ofQ (sh i)).getD k zRR = ofQ (sh k) := tab_get _ _ hkt
          have htl1 : (tab cs.length fun i => ofQ (sh i)).length = cs.length := tab_len _ _
          have e2 : (tab m fun c => ofQ (f c - gotR cs sh k c)).getD kc zRR = ofQ (f kc - gotR cs sh k kc) := tab_get _ _ hkm
          have htl2 : (tab m fun c => ofQ (f c - gotR cs sh k c)).length = m := tab_len _ _
          have hsub := fun w => rMinus_ok (f kc - gotR cs sh k kc) (sh k) w (by omega)
          repeat (with_reducible first | refine c_seq ?_ | refine c_block ?_ | refine c_skip ?_ | refine x_then ?_ | refine x_block ?_)
          refine c_reg ?_
          refine l_pure rfl (s_move  h0 ?_)
          refine l_pure rfl (s_move  h10 ?_)
          refine l_pure rfl (s_ixr (i := t)  rfl rfl (hX.sl.below hS.below) (by omega) (by first | omega | (simp; done) | (simp; omega)) si_26 ?_)
          refine l_pure rfl (s_fldr  rfl (spot_el (hX.sl.below hS.below) (fun _ => rfl) (by decide) (by first | omega | (simp; done) | (simp; omega))) fo_32_2 ?_)
          refine l_read rfl (s_ldfe (v := .slice ca cs.length ccap) (i := t) (off := 6) (zIt, undef)  rfl vi_30 (hX.sl.below hS.below) encIt_len (by decide) (by omega) rfl (by rw [hzg]; rfl) (.inr rfl) ?_)
          refine l_pure rfl (s_move  h13 ?_)
          refine l_pure rfl (s_ixr (i := k)  rfl rfl (hch.below hS.below) (by omega) (by first | omega | (simp; done) | (simp; omega)) si_30 ?_)
          refine l_pure rfl (s_fldr  rfl (spot_el (hch.below hS.below) (fun _ => rfl) (by decide) (by first | omega | (simp; done) | (simp; omega))) fo_38_0 ?_)
          refine l_read rfl (s_ldfe (v := .int .i64 (kc : Int)) (i := k) (off := 0) zCh  rfl vi_3 (hch.below hS.below) encCh_len (by decide) (by omega) rfl (by rw [← hck]; rfl) (.inr rfl) ?_)
          refine l_pure rfl (s_asg  rfl ?_)
          refine l_nil ?_
          repeat (with_reducible first | refine c_seq ?_ | refine c_block ?_ | refine c_skip ?_ | refine x_then ?_ | refine x_block ?_)
          refine c_forget (fun ρ' => ρ' 0 = vi_ ∧ ρ' 8 = v8 ∧ ρ' 9 = sR ∧ ρ' 10 = .int .i64 t ∧ ρ' 11 = .slice (some ⟨bs, 0, none⟩) cs.length cs.length ∧ ρ' 12 = .pointer (some ⟨b12, 0, none⟩) ∧ ρ' 13 = .int .i64 k ∧ ρ' 14 = .int .i64 kc ∧ True) ⟨h0, h8, h9, h10, h11, h12, h13, rfl, trivial⟩ ?_
          rintro ρk5 ⟨hk5_0, hk5_8, hk5_9, hk5_10, hk5_11, hk5_12, hk5_13, hk5_14, -⟩
          repeat (with_reducible first | refine c_seq ?_ | refine c_block ?_ | refine c_skip ?_ | refine x_then ?_ | refine x_block ?_)
          refine c_draw [(0, .pure), (1, .pure), (2, .pure), (3, .pure), (4, .pure), (5, .read), (6, .pure), (7, .pure), (8, .pure), (9, .read), (10, .grow), (11, .pure), (12, .free)] (by kernel_rfl) (by kernel_rfl) hS ?_
          intro wz6 hS hBz6
          refine w_pure rfl rfl (s_move  hk5_8 ?_)
          refine w_pure rfl rfl (s_move  hk5_14 ?_)
          refine w_pure rfl rfl (s_move  hk5_8 ?_)
          refine w_pure rfl rfl (s_move  hk5_14 ?_)
          refine w_pure rfl rfl (s_ixr (i := kc)  rfl rfl (hG.sl (hS.perm (perm3 _ _ _)) encR_len) (by omega) (by first | omega | (simp; done) | (simp; omega)) si_24 ?_)
          refine w_read rfl rfl (s_lde (i := kc) zRR  rfl vi_29 (hG.sl (hS.perm (perm3 _ _ _)) encR_len) (by first | omega | (simp; done) | (simp; omega)) rfl rfl (.inl rfl) ?_)
          refine w_pure rfl rfl (s_move  hk5_11 ?_)
          refine w_pure rfl rfl (s_move  hk5_13 ?_)
          refine w_pure rfl rfl (s_ixo (i := k)  rfl rfl (by omega) (by first | omega | (simp; done) | (simp; omega)) si_24 ?_)
          refine w_read rfl rfl (s_ldE (k := 1) (i := k) (enc := encR) zRR (fun _ => rfl)  rfl vi_29 hS rfl (by first | omega | simp) (by first | omega | (simp; done) | (simp; omega)) rfl (.inl rfl) ?_)
          rw [e1, e2]
          refine w_grow rfl rfl (s_call Tryz.call32 rfl (hsub _) ?_)
          rintro _ wc7 ⟨rfl, hBc7⟩
          replace hS := hS.grow hBc7
          refine ⟨hBc7, ?_⟩
          refine w_pure rfl rfl (s_ixr (i := kc)  rfl rfl (hG.sl (hS.perm (perm3 _ _ _)) encR_len) (by omega) (by first | omega | (simp; done) | (simp; omega)) si_24 ?_)
          refine w_free rfl rfl (s_stG (i := kc) (ofQ (f kc - gotR cs sh k kc - sh k)) encR_len  rfl rfl vi_29 hG (hS.perm (perm3 _ _ _)) (by omega) rfl rfl ?_)
          intro wz8 hS
          refine w_end ?_
          repeat (with_reducible first | refine c_seq ?_ | refine c_block ?_ | refine c_skip ?_ | refine x_then ?_ | refine x_block ?_)
          obtain ⟨LO2, hG2, hS2⟩ := hS
          have hset : (tab m fun c => ofQ (f c - gotR cs sh k c)).set kc (ofQ (f kc - gotR cs sh k kc - sh k)) = tab m fun c => ofQ (f c - gotR cs sh (k + 1) c) := by
            rw [tab_setQ]
            refine tab_congr fun c' _ => ?_
            rw [gotR_succ, ← hkc]
            by_cases e : c' = kc
            · rw [if_pos e, if_pos e, e]; congr 1; grind
            · rw [if_neg e, if_neg e]
          rw [hset] at hG2
          repeat (with_reducible first | refine c_seq ?_ | refine c_block ?_ | refine c_skip ?_ | refine x_then ?_ | refine x_block ?_)
          refine c_reg ?_
          refine l_pure rfl (s_move  hk5_13 ?_)
          refine l_pure rfl (s_add  rfl rfl (IntWalk.i64_in _ (by omega)) ?_)
          refine l_pure rfl (s_asg  rfl ?_)
          refine l_nil ?_
          repeat (with_reducible first | refine c_seq ?_ | refine c_block ?_ | refine c_skip ?_ | refine x_then ?_ | refine x_block ?_)
          exact ⟨k + 1, _, rfl, ⟨hkt, by assumption, by assumption, by assumption, by assumption, by assumption, by assumption, vi rfl (by omega), LO2, hG2, hS2.perm (perm3 _ _ _)⟩, by omega⟩
        · refine c_no rfl (decide_eq_false (by omega)) ?_
          repeat (with_reducible first | refine c_seq ?_ | refine c_block ?_ | refine c_skip ?_ | refine x_then ?_ | refine x_block ?_)
          refine c_exit ?_
          repeat (with_reducible first | refine x_then_exit ?_ | refine x_block_exit ?_ | refine x_block_pass rfl ?_)
          repeat (with_reducible first | refine c_seq ?_ | refine c_block ?_ | refine c_skip ?_ | refine x_then ?_ | refine x_block ?_)
          obtain rfl : k = cs.length := by omega
          exact ⟨_, rfl, h0, h8, h9, h10, h12, LO, hG, hS⟩
      clear hS hG h0 h8 h9 h10
      rintro ρ w6 ⟨h0, h8, h9, h10, h12, LO, hG, hS⟩
      rw [← hstO, ← hsnoc] at hG
      repeat (with_reducible first | refine c_seq ?_ | refine c_block ?_ | refine c_skip ?_ | refine x_then ?_ | refine x_block ?_)
      refine c_reg ?_
      refine l_pure rfl (s_move  h9 ?_)
      refine l_read rfl (s_ldo (k := 0)  h12 vi_29 hS rfl rfl rfl (.inl rfl) ?_)
      refine l_heavy rfl (s_bsl (vs := [aggR (ofQ lf)])  rfl si_24 rfl (by decide) (by decide) (by decide) (by simp [Value.cells, aggR]) rfl hS ?_)
      intro bx wz9 hS hBz9
      refine l_heavy rfl (s_appl [ofQ lf]  rfl rfl si_24 (by decide) hR hS rfl rfl encR_len (encR_one [ofQ lf]) (by first | omega | (simp only [List.length_cons, List.length_nil]; omega)) (by first | omega | (simp only [List.length_cons, List.length_nil]; omega)) ?_)
      intro va10 La10 wa10 hR hS hga10
      refine l_pure rfl (s_asg  rfl ?_)
      refine l_nil ?_
      repeat (with_reducible first | refine c_seq ?_ | refine c_block ?_ | refine c_skip ?_ | refine x_then ?_ | refine x_block ?_)
      rw [← htR1] at hR
      repeat (with_reducible first | refine c_seq ?_ | refine c_block ?_ | refine c_skip ?_ | refine x_then ?_ | refine x_block ?_)
      refine c_reg ?_
      refine l_pure rfl (s_move  h10 ?_)
      refine l_pure rfl (s_add  rfl rfl (IntWalk.i64_in _ (by omega)) ?_)
      refine l_pure rfl (s_asg  rfl ?_)
      refine l_nil ?_
      repeat (with_reducible first | refine c_seq ?_ | refine c_block ?_ | refine c_skip ?_ | refine x_then ?_ | refine x_block ?_)
      exact ⟨t + 1, _, rfl, ⟨hlt, by assumption, by assumption, vi rfl (by omega), _, LO, _, rfl, hG, hR, (hS.drop (List.sublist_cons_self _ _)).drop (List.sublist_cons_self _ _)⟩, by omega⟩
    · refine c_no rfl (decide_eq_false (by omega)) ?_
      repeat (with_reducible first | refine c_seq ?_ | refine c_block ?_ | refine c_skip ?_ | refine x_then ?_ | refine x_block ?_)
      refine c_exit ?_
      repeat (with_reducible first | refine x_then_exit ?_ | refine x_block_exit ?_ | refine x_block_pass rfl ?_)
      repeat (with_reducible first | refine c_seq ?_ | refine c_block ?_ | refine c_skip ?_ | refine x_then ?_ | refine x_block ?_)
      obtain rfl : t = X.length := by omega
      rw [List.take_of_length_le (Nat.le_refl _)] at hG
      exact ⟨_, rfl, h8, sR, LO, LR, h9, hG, hR, hS⟩
  clear hS hG
  rintro ρ w3 ⟨h8, sR, LO, LR, h9, hG, hR, hS⟩
  repeat (with_reducible first | refine c_seq ?_ | refine c_block ?_ | refine c_skip ?_ | refine x_then ?_ | refine x_block ?_)
  refine c_reg ?_
  refine l_pure rfl (s_move  h8 ?_)
  refine l_pure rfl (s_move  h9 ?_)
  refine l_pure rfl (s_asg  rfl ?_)
  refine l_pure rfl (s_asg  rfl ?_)
  refine l_pure rfl (s_asg  rfl ?_)
  refine l_nil ?_
  repeat (with_reducible first | refine c_seq ?_ | refine c_block ?_ | refine c_skip ?_ | refine x_then ?_ | refine x_block ?_)
  refine c_ret ?_
  repeat (with_reducible first | refine x_then_ret ?_ | refine x_block_ret ?_)
  refine r_three rfl rfl rfl rfl ?_
  rw [he, hrd, hrl]
  exact ⟨⟨_, _, rfl, hG.sl (hS.perm (perm3 _ _ _)) encR_len, hR.sl hS encR_len⟩, hS.below⟩
end Go.Proofs.YtknccjbkacaelaaGreatDoor
namespace Go.Proofs.YtknccjbkacaelaaGreatDoor
open Go Go.RowKit Go.Sx
def fewIt (x : It) : Bool := decide (x.charges.length ≤ 12) && (few x.price && (few x.costs && x.charges.all fun c => few c.limit))
def frB (owed : List RR) : Bool := decide ((owed.length : Int) ≤ 10) && owed.all few
def fewI (X : List It) (owed : List RR) : Bool := decide (X.length ≤ 10) && (frB owed && X.all fewIt)
theorem fewI_B {X : List It} {owed : List RR} (h : fewI X owed = true) : X.length ≤ 10 ∧ owed.length ≤ 10 ∧ ItB 24 X ∧ RB 24 owed ∧ ∀ x ∈ X, x.charges.length ≤ 12 := by
  unfold fewI frB at h
  simp only [Bool.and_eq_true, decide_eq_true_eq, List.all_eq_true] at h
  obtain ⟨h1, ⟨h2, h3⟩, h4⟩ := h
  refine ⟨h1, by omega, fun x hx => ?_, fun r hr => few_Lr (h3 r hr), fun x hx => ?_⟩
  · have := h4 x hx
    unfold fewIt at this
    simp only [Bool.and_eq_true, decide_eq_true_eq, List.all_eq_true] at this
    exact ⟨few_Lr this.2.1, few_Lr this.2.2.1, fun c hc => few_Lr (this.2.2.2 c hc)⟩
  · have := h4 x hx
    unfold fewIt at this
    simp only [Bool.and_eq_true, decide_eq_true_eq] at this
    exact this.1
theorem all_step {α : Type} (f : α → Bool) (l : List α) (d : α) {i : Nat} (hi : i < l.length) (h : (l.take i).all f = true) :
    (f (l.getD i d) = true → (l.take (i + 1)).all f = true) ∧ (f (l.getD i d) = false → l.all f = false) := by
  constructor
  · intro g
    rw [take_succ' l i d hi, List.all_append, h, List.all_cons, g]; rfl
  · intro g
    rw [List.all_eq_false]
    exact ⟨_, getD_mem l i d hi, by rw [g]; decide⟩
set_option maxHeartbeats 1000000 in
theorem fewI_ok (vi_ vo : Value) (X : List It) (cvs : List Value) (owed : List RR) (w : World) (hX : Its w vi_ X cvs) (ho : Sl encR 3 w vo owed) :
    Ret Tryz.prog 14 #[vi_, vo] w fun v w' => v = .bool (fewI X owed) ∧ Below w.heap.size w w' := by
  have hmX := hX.sl.maxLen
  rw [hX.zlen] at hmX
  have hzl := hX.zlen
  have hS := St.init w
  refine enter Tryz.func14 rfl Tryz.ntmps14 rfl ?_
  repeat (with_reducible first | refine c_seq ?_ | refine c_block ?_ | refine c_skip ?_ | refine x_then ?_ | refine x_block ?_)
  refine c_reg ?_
  refine l_pure rfl (s_asg  rfl ?_)
  refine l_nil ?_
  repeat (with_reducible first | refine c_seq ?_ | refine c_block ?_ | refine c_skip ?_ | refine x_then ?_ | refine x_block ?_)
  by_cases h10 : 10 < X.length
  · repeat (with_reducible first | refine c_seq ?_ | refine c_block ?_ | refine c_skip ?_ | refine x_then ?_ | refine x_block ?_)
    refine c_reg ?_
    refine l_pure rfl (s_move  rfl ?_)
    refine l_pure rfl (s_lenr  rfl (hX.sl.below hS.below) ⟨_, Tryz.underlying26⟩ ?_)
    refine l_pure rfl (s_gtr  rfl rfl ?_)
    refine l_pure rfl (s_move  rfl ?_)
    refine l_no (gno_yes 12 (by kernel_rfl) rfl (decide_eq_true (by omega))) ?_
    refine l_no (gno_yes 12 (by kernel_rfl) rfl (decide_eq_true (by omega))) ?_
    refine l_no (gno_yes 12 (by kernel_rfl) rfl (decide_eq_true (by omega))) ?_
    refine l_pure rfl (s_pick (vb rfl (decide_eq_true (by omega))) rfl ?_)
    refine l_nil ?_
    repeat (with_reducible first | refine c_seq ?_ | refine c_block ?_ | refine c_skip ?_ | refine x_then ?_ | refine x_block ?_)
    refine c_yes rfl (rfl) ?_
    repeat (with_reducible first | refine c_seq ?_ | refine c_block ?_ | refine c_skip ?_ | refine x_then ?_ | refine x_block ?_)
    refine c_reg ?_
    refine l_pure rfl (s_asg  rfl ?_)
    refine l_nil ?_
    repeat (with_reducible first | refine c_seq ?_ | refine c_block ?_ | refine c_skip ?_ | refine x_then ?_ | refine x_block ?_)
    refine c_ret ?_
    repeat (with_reducible first | refine x_then_ret ?_ | refine x_block_ret ?_)
    refine r_one rfl rfl ?_
    exact ⟨vb rfl (by unfold fewI; rw [decide_eq_false (by omega)]; rfl), hS.below⟩
  have e10 : fewI X owed = (frB owed && X.all fewIt) := by unfold fewI; rw [decide_eq_true (by omega)]; rfl
  repeat (with_reducible first | refine c_seq ?_ | refine c_block ?_ | refine c_skip ?_ | refine x_then ?_ | refine x_block ?_)
  refine c_reg ?_
  refine l_pure rfl (s_move  rfl ?_)
  refine l_pure rfl (s_lenr  rfl (hX.sl.below hS.below) ⟨_, Tryz.underlying26⟩ ?_)
  refine l_pure rfl (s_gtr  rfl rfl ?_)
  refine l_pure rfl (s_move  rfl ?_)
  refine l_pure (gd_yes 12 (by kernel_rfl) rfl (decide_eq_false (by omega))) (s_move  rfl ?_)
  refine l_heavy (gd_yes 12 (by kernel_rfl) rfl (decide_eq_false (by omega))) (s_call Tryz.call39 rfl (FewRats_ok vo owed 10 _ (ho.below hS.below)) ?_)
  rintro _ wc1 ⟨rfl, hBc1⟩
  replace hS := hS.grow hBc1
  refine l_pure (gd_yes 12 (by kernel_rfl) rfl (decide_eq_false (by omega))) (s_not  rfl ?_)
  refine l_pure rfl (s_pick (vb rfl (decide_eq_false (by omega))) rfl ?_)
  refine l_nil ?_
  repeat (with_reducible first | refine c_seq ?_ | refine c_block ?_ | refine c_skip ?_ | refine x_then ?_ | refine x_block ?_)
  cases hfr : frB owed with
  | false =>
    refine c_yes rfl (by show (!frB owed) = true; rw [hfr]; rfl) ?_
    repeat (with_reducible first | refine c_seq ?_ | refine c_block ?_ | refine c_skip ?_ | refine x_then ?_ | refine x_block ?_)
    refine c_reg ?_
    refine l_pure rfl (s_asg  rfl ?_)
    refine l_nil ?_
    repeat (with_reducible first | refine c_seq ?_ | refine c_block ?_ | refine c_skip ?_ | refine x_then ?_ | refine x_block ?_)
    refine c_ret ?_
    repeat (with_reducible first | refine x_then_ret ?_ | refine x_block_ret ?_)
    refine r_one rfl rfl ?_
    exact ⟨vb rfl (by rw [e10, hfr]; rfl), hS.below⟩
  | true =>
  refine c_no rfl (by show (!frB owed) = false; rw [hfr]; rfl) ?_
  repeat (with_reducible first | refine c_seq ?_ | refine c_block ?_ | refine c_skip ?_ | refine x_then ?_ | refine x_block ?_)
  have e11 : fewI X owed = X.all fewIt := by rw [e10, hfr]; rfl
  rw [e11]
  repeat (with_reducible first | refine c_seq ?_ | refine c_block ?_ | refine c_skip ?_ | refine x_then ?_ | refine x_block ?_)
  refine c_reg ?_
  refine l_pure rfl (s_move  rfl ?_)
  refine l_pure rfl (s_lenr  rfl (hX.sl.below hS.below) ⟨_, Tryz.underlying26⟩ ?_)
  refine l_pure rfl (s_move  rfl ?_)
  refine l_nil ?_
  repeat (with_reducible first | refine c_seq ?_ | refine c_block ?_ | refine c_skip ?_ | refine x_then ?_ | refine x_block ?_)
  refine c_loop (σ := Nat) (fun i ρ w' => i ≤ X.length ∧ (X.take i).all fewIt = true ∧ ρ 17 = vi_ ∧ ρ 18 = .int .i64 X.length ∧ ρ 19 = .int .i64 i ∧ St w w' []) (fun i => X.length - i) 0
    ⟨Nat.zero_le _, rfl, rfl, vi rfl (by rw [hzl]), rfl, hS⟩ ?_
  clear hS
  rintro i ρ w2 ⟨hi, hok1, h17, h18, h19, hS⟩
  repeat (with_reducible first | refine c_seq ?_ | refine c_block ?_ | refine c_skip ?_ | refine x_then ?_ | refine x_block ?_)
  refine c_reg ?_
  refine l_pure rfl (s_lss  h19 h18 ?_)
  refine l_nil ?_
  repeat (with_reducible first | refine c_seq ?_ | refine c_block ?_ | refine c_skip ?_ | refine x_then ?_ | refine x_block ?_)
  by_cases hlt : i < X.length
  · refine c_yes rfl (decide_eq_true (by omega)) ?_
    repeat (with_reducible first | refine c_seq ?_ | refine c_block ?_ | refine c_skip ?_ | refine x_then ?_ | refine x_block ?_)
    obtain ⟨x, hx⟩ : ∃ x, x = X.getD i zIt := ⟨_, rfl⟩
    obtain ⟨cv, hcv⟩ : ∃ cv, cv = cvs.getD i undef := ⟨_, rfl⟩
    have hch := hX.ch i hlt
    rw [← hx, ← hcv] at hch
    have hmc := hch.maxLen
    obtain ⟨ca, ccap, hcve, _⟩ := hch.form
    subst hcve
    have hzg := hX.zget hlt
    rw [← hx, ← hcv] at hzg
    obtain ⟨f1, f2⟩ := all_step fewIt X zIt hlt hok1
    rw [← hx] at f1 f2
    repeat (with_reducible first | refine c_seq ?_ | refine c_block ?_ | refine c_skip ?_ | refine x_then ?_ | refine x_block ?_)
    refine c_reg ?_
    refine l_pure rfl (s_ixr (i := i)  h17 h19 (hX.sl.below hS.below) (by omega) (by first | omega | (simp; done) | (simp; omega)) si_26 ?_)
    refine l_read rfl (s_lde (v := aggIt x (.slice ca x.charges.length ccap)) (i := i) (zIt, undef)  rfl vi_32 (hX.sl.below hS.below) (by omega) rfl (by rw [hzg]; rfl) (.inl rfl) ?_)
    refine l_heavy rfl (s_alloc  vi_32 hS ?_)
    intro b6 wz2 hS hBz2
    refine l_heavy rfl (s_sta (k := 0)  rfl rfl vi_32 hS rfl rfl rfl (Nat.le_of_ble_eq_true rfl) rfl ?_)
    intro wz3 hS
    refine l_nil ?_
    repeat (with_reducible first | refine c_seq ?_ | refine c_block ?_ | refine c_skip ?_ | refine x_then ?_ | refine x_block ?_)
    replace hS : St w _ [(b6, 32, encIt (x, .slice ca x.charges.length ccap))] := hS
    repeat (with_reducible first | refine c_seq ?_ | refine c_block ?_ | refine c_skip ?_ | refine x_then ?_ | refine x_block ?_)
    refine c_forget (fun ρ' => ρ' 17 = vi_ ∧ ρ' 18 = .int .i64 X.length ∧ ρ' 19 = .int .i64 i ∧ ρ' 6 = .pointer (some ⟨b6, 0, none⟩) ∧ True) ⟨h17, h18, h19, rfl, trivial⟩ ?_
    rintro ρk4 ⟨hk4_17, hk4_18, hk4_19, hk4_6, -⟩
    refine c_cut1 (fun ρ w' => ρ 17 = vi_ ∧ ρ 18 = .int .i64 X.length ∧ ρ 19 = .int .i64 i ∧ ρ 6 = .pointer (some ⟨b6, 0, none⟩) ∧ ρ 38 = .bool (!(decide (x.charges.length ≤ 12) && (few x.price && few x.costs))) ∧ St w w' [(b6, 32, encIt (x, .slice ca x.charges.length ccap))]) ?_ ?_
    · by_cases h12 : 12 < x.charges.length
      · repeat (with_reducible first | refine c_seq ?_ | refine c_block ?_ | refine c_skip ?_ | refine x_then ?_ | refine x_block ?_)
        refine c_reg ?_
        refine l_pure rfl (s_fld  hk4_6 fo_32_2 ?_)
        refine l_read rfl (s_ldo (k := 0)  rfl vi_30 hS rfl rfl rfl (.inr rfl) ?_)
        refine l_pure rfl (s_lenr  rfl (hch.below hS.below) ⟨_, Tryz.underlying30⟩ ?_)
        refine l_pure rfl (s_gtr  rfl rfl ?_)
        refine l_pure rfl (s_move  rfl ?_)
        refine l_no (gno_yes 27 (by kernel_rfl) rfl (decide_eq_true (by omega))) ?_
        refine l_no (gno_yes 27 (by kernel_rfl) rfl (decide_eq_true (by omega))) ?_
        refine l_no (gno_yes 27 (by kernel_rfl) rfl (decide_eq_true (by omega))) ?_
        refine l_no (gno_yes 27 (by kernel_rfl) rfl (decide_eq_true (by omega))) ?_
        refine l_pure rfl (s_pick (vb rfl (decide_eq_true (by omega))) rfl ?_)
        refine l_pure rfl (s_move  rfl ?_)
        refine l_no (gno_yes 33 (by kernel_rfl) rfl rfl) ?_
        refine l_no (gno_yes 33 (by kernel_rfl) rfl rfl) ?_
        refine l_no (gno_yes 33 (by kernel_rfl) rfl rfl) ?_
        refine l_no (gno_yes 33 (by kernel_rfl) rfl rfl) ?_
        refine l_pure rfl (s_pick (vb rfl rfl) rfl ?_)
        refine l_nil ?_
        repeat (with_reducible first | refine c_seq ?_ | refine c_block ?_ | refine c_skip ?_ | refine x_then ?_ | refine x_block ?_)
        exact ⟨_, rfl, by assumption, by assumption, by assumption, by assumption, vb rfl (by rw [decide_eq_false (by omega)]; rfl), hS⟩
      have e12 : decide (x.charges.length ≤ 12) = true := decide_eq_true (by omega)
      rw [e12]
      cases hfp : few x.price with
      | false =>
        repeat (with_reducible first | refine c_seq ?_ | refine c_block ?_ | refine c_skip ?_ | refine x_then ?_ | refine x_block ?_)
        refine c_reg ?_
        refine l_pure rfl (s_fld  hk4_6 fo_32_2 ?_)
        refine l_read rfl (s_ldo (k := 0)  rfl vi_30 hS rfl rfl rfl (.inr rfl) ?_)
        refine l_pure rfl (s_lenr  rfl (hch.below hS.below) ⟨_, Tryz.underlying30⟩ ?_)
        refine l_pure rfl (s_gtr  rfl rfl ?_)
        refine l_pure rfl (s_move  rfl ?_)
        refine l_pure (gd_yes 27 (by kernel_rfl) rfl (decide_eq_false (by omega))) (s_fld  hk4_6 fo_32_0 ?_)
        refine l_read (gd_yes 27 (by kernel_rfl) rfl (decide_eq_false (by omega))) (s_ldo (k := 0)  rfl vi_29 hS rfl rfl rfl (.inl rfl) ?_)
        refine l_heavy (gd_yes 27 (by kernel_rfl) rfl (decide_eq_false (by omega))) (s_call Tryz.call40 rfl (Few_ok x.price _) ?_)
        rintro r w3 ⟨rfl, hB3⟩
        rw [hfp]
        replace hS := hS.grow hB3
        refine l_pure (gd_yes 27 (by kernel_rfl) rfl (decide_eq_false (by omega))) (s_not  rfl ?_)
        refine l_pure rfl (s_pick (vb rfl (decide_eq_false (by omega))) rfl ?_)
        refine l_pure rfl (s_move  rfl ?_)
        refine l_no (gno_yes 33 (by kernel_rfl) rfl rfl) ?_
        refine l_no (gno_yes 33 (by kernel_rfl) rfl rfl) ?_
        refine l_no (gno_yes 33 (by kernel_rfl) rfl rfl) ?_
        refine l_no (gno_yes 33 (by kernel_rfl) rfl rfl) ?_
        refine l_pure rfl (s_pick (vb rfl rfl) rfl ?_)
        refine l_nil ?_
        repeat (with_reducible first | refine c_seq ?_ | refine c_block ?_ | refine c_skip ?_ | refine x_then ?_ | refine x_block ?_)
        exact ⟨_, rfl, by assumption, by assumption, by assumption, by assumption, vb rfl rfl, hS⟩
      | true =>
        repeat (with_reducible first | refine c_seq ?_ | refine c_block ?_ | refine c_skip ?_ | refine x_then ?_ | refine x_block ?_)
        refine c_reg ?_
        refine l_pure rfl (s_fld  hk4_6 fo_32_2 ?_)
        refine l_read rfl (s_ldo (k := 0)  rfl vi_30 hS rfl rfl rfl (.inr rfl) ?_)
        refine l_pure rfl (s_lenr  rfl (hch.below hS.below) ⟨_, Tryz.underlying30⟩ ?_)
        refine l_pure rfl (s_gtr  rfl rfl ?_)
        refine l_pure rfl (s_move  rfl ?_)
        refine l_pure (gd_yes 27 (by kernel_rfl) rfl (decide_eq_false (by omega))) (s_fld  hk4_6 fo_32_0 ?_)
        refine l_read (gd_yes 27 (by kernel_rfl) rfl (decide_eq_false (by omega))) (s_ldo (k := 0)  rfl vi_29 hS rfl rfl rfl (.inl rfl) ?_)
        refine l_heavy (gd_yes 27 (by kernel_rfl) rfl (decide_eq_false (by omega))) (s_call Tryz.call40 rfl (Few_ok x.price _) ?_)
        rintro r w3 ⟨rfl, hB3⟩
        rw [hfp]
        replace hS := hS.grow hB3
        refine l_pure (gd_yes 27 (by kernel_rfl) rfl (decide_eq_false (by omega))) (s_not  rfl ?_)
        refine l_pure rfl (s_pick (vb rfl (decide_eq_false (by omega))) rfl ?_)
        refine l_pure rfl (s_move  rfl ?_)
        refine l_pure (gd_yes 33 (by kernel_rfl) rfl rfl) (s_fld  hk4_6 fo_32_1 ?_)
        refine l_read (gd_yes 33 (by kernel_rfl) rfl rfl) (s_ldo (k := 0)  rfl vi_29 hS rfl rfl rfl (.inl rfl) ?_)
        refine l_heavy (gd_yes 33 (by kernel_rfl) rfl rfl) (s_call Tryz.call40 rfl (Few_ok x.costs _) ?_)
        rintro r w4 ⟨rfl, hB4⟩
        replace hS := hS.grow hB4
        refine l_pure (gd_yes 33 (by kernel_rfl) rfl rfl) (s_not  rfl ?_)
        refine l_pure rfl (s_pick (vb rfl rfl) rfl ?_)
        refine l_nil ?_
        repeat (with_reducible first | refine c_seq ?_ | refine c_block ?_ | refine c_skip ?_ | refine x_then ?_ | refine x_block ?_)
        exact ⟨_, rfl, by assumption, by assumption, by assumption, by assumption, vb rfl (by simp), hS⟩
    clear hS h17 h18 h19
    rintro ρ w5 ⟨h17, h18, h19, h6, h38, hS⟩
    repeat (with_reducible first | refine c_seq ?_ | refine c_block ?_ | refine c_skip ?_ | refine x_then ?_ | refine x_block ?_)
    have efi : fewIt x = ((decide (x.charges.length ≤ 12) && (few x.price && few x.costs)) && x.charges.all fun c => few c.limit) := by unfold fewIt; simp only [Bool.and_assoc]
    cases hpc : (decide (x.charges.length ≤ 12) && (few x.price && few x.costs)) with
    | false =>
      rw [hpc] at efi h38
      refine c_yes h38 rfl ?_
      repeat (with_reducible first | refine c_seq ?_ | refine c_block ?_ | refine c_skip ?_ | refine x_then ?_ | refine x_block ?_)
      refine c_reg ?_
      refine l_pure rfl (s_asg  rfl ?_)
      refine l_nil ?_
      repeat (with_reducible first | refine c_seq ?_ | refine c_block ?_ | refine c_skip ?_ | refine x_then ?_ | refine x_block ?_)
      refine c_ret ?_
      repeat (with_reducible first | refine x_then_ret ?_ | refine x_block_ret ?_)
      refine r_one rfl rfl ?_
      exact ⟨vb rfl (f2 efi).symm, hS.below⟩
    | true =>
      rw [hpc] at efi h38
      refine c_no h38 rfl ?_
      repeat (with_reducible first | refine c_seq ?_ | refine c_block ?_ | refine c_skip ?_ | refine x_then ?_ | refine x_block ?_)
      refine c_reg ?_
      refine l_pure rfl (s_fld  h6 fo_32_2 ?_)
      refine l_read rfl (s_ldo (k := 0)  rfl vi_30 hS rfl rfl rfl (.inr rfl) ?_)
      refine l_pure rfl (s_lenr  rfl (hch.below hS.below) ⟨_, Tryz.underlying30⟩ ?_)
      refine l_pure rfl (s_move  rfl ?_)
      refine l_nil ?_
      repeat (with_reducible first | refine c_seq ?_ | refine c_skip ?_ | refine x_then ?_ | refine x_block ?_)
      refine c_cut1 (fun ρ w' => (x.charges.all fun c => few c.limit) = true ∧ ρ 17 = vi_ ∧ ρ 18 = .int .i64 X.length ∧ ρ 19 = .int .i64 i ∧ St w w' []) ?_ ?_
      · repeat (with_reducible first | refine c_seq ?_ | refine c_block ?_ | refine c_skip ?_ | refine x_then ?_ | refine x_block ?_)
        refine c_loop (σ := Nat) (fun k ρ w' => k ≤ x.charges.length ∧ ((x.charges.take k).all fun c => few c.limit) = true ∧ ρ 17 = vi_ ∧ ρ 18 = .int .i64 X.length ∧ ρ 19 = .int .i64 i ∧ ρ 40 = .slice ca x.charges.length ccap ∧ ρ 41 = .int .i64 x.charges.length ∧ ρ 42 = .int .i64 k ∧ St w w' []) (fun k => x.charges.length - k) 0
          ⟨Nat.zero_le _, rfl, h17, h18, h19, rfl, rfl, rfl, hS.drop (List.nil_sublist _)⟩ ?_
        clear hS h17 h18 h19 h6 h38
        rintro k ρ w6 ⟨hk1, hok, h17, h18, h19, h40, h41, h42, hS⟩
        repeat (with_reducible first | refine c_seq ?_ | refine c_block ?_ | refine c_skip ?_ | refine x_then ?_ | refine x_block ?_)
        refine c_reg ?_
        refine l_pure rfl (s_lss  h42 h41 ?_)
        refine l_nil ?_
        repeat (with_reducible first | refine c_seq ?_ | refine c_block ?_ | refine c_skip ?_ | refine x_then ?_ | refine x_block ?_)
        by_cases hkl : k < x.charges.length
        · refine c_yes rfl (decide_eq_true (by omega)) ?_
          repeat (with_reducible first | refine c_seq ?_ | refine c_block ?_ | refine c_skip ?_ | refine x_then ?_ | refine x_block ?_)
          obtain ⟨c, hc⟩ : ∃ c, c = x.charges.getD k zCh := ⟨_, rfl⟩
          obtain ⟨g1, g2⟩ := all_step (fun c => few c.limit) x.charges zCh hkl hok
          rw [← hc] at g1 g2
          repeat (with_reducible first | refine c_seq ?_ | refine c_block ?_ | refine c_skip ?_ | refine x_then ?_ | refine x_block ?_)
          refine c_reg ?_
          refine l_pure rfl (s_ixr (i := k)  h40 h42 (hch.below hS.below) (by omega) (by first | omega | (simp; done) | (simp; omega)) si_30 ?_)
          refine l_read rfl (s_lde (i := k) zCh  rfl vi_38 (hch.below hS.below) (by first | omega | (simp; done) | (simp; omega)) rfl rfl (.inl rfl) ?_)
          refine l_heavy rfl (s_alloc  vi_38 hS ?_)
          intro b8 wz5 hS hBz5
          refine l_heavy rfl (s_sta (k := 0)  rfl rfl vi_38 hS rfl rfl rfl (Nat.le_of_ble_eq_true rfl) rfl ?_)
          intro wz6 hS
          refine l_nil ?_
          repeat (with_reducible first | refine c_seq ?_ | refine c_block ?_ | refine c_skip ?_ | refine x_then ?_ | refine x_block ?_)
          replace hS : St w _ [(b8, 38, encCh (x.charges.getD k zCh))] := hS
          rw [← hc] at hS
          repeat (with_reducible first | refine c_seq ?_ | refine c_block ?_ | refine c_skip ?_ | refine x_then ?_ | refine x_block ?_)
          refine c_reg ?_
          refine l_pure rfl (s_fld  rfl fo_38_3 ?_)
          refine l_read rfl (s_ldo (k := 0)  rfl vi_29 hS rfl rfl rfl (.inl rfl) ?_)
          refine l_heavy rfl (s_call Tryz.call40 rfl (Few_ok c.limit _) ?_)
          rintro _ wc7 ⟨rfl, hBc7⟩
          replace hS := hS.grow hBc7
          refine l_pure rfl (s_not  rfl ?_)
          refine l_nil ?_
          repeat (with_reducible first | refine c_seq ?_ | refine c_block ?_ | refine c_skip ?_ | refine x_then ?_ | refine x_block ?_)
          cases hfl : few c.limit with
          | false =>
            refine c_yes rfl (rfl) ?_
            repeat (with_reducible first | refine c_seq ?_ | refine c_block ?_ | refine c_skip ?_ | refine x_then ?_ | refine x_block ?_)
            refine c_reg ?_
            refine l_pure rfl (s_asg  rfl ?_)
            refine l_nil ?_
            repeat (with_reducible first | refine c_seq ?_ | refine c_block ?_ | refine c_skip ?_ | refine x_then ?_ | refine x_block ?_)
            refine c_ret ?_
            repeat (with_reducible first | refine x_then_ret ?_ | refine x_block_ret ?_)
            refine r_one rfl rfl ?_
            exact ⟨vb rfl (f2 (by rw [efi, g2 hfl]; rfl)).symm, hS.below⟩
          | true =>
            refine c_no rfl (rfl) ?_
            repeat (with_reducible first | refine c_seq ?_ | refine c_block ?_ | refine c_skip ?_ | refine x_then ?_ | refine x_block ?_)
            refine c_reg ?_
            refine l_pure rfl (s_add  h42 rfl (IntWalk.i64_in _ (by omega)) ?_)
            refine l_pure rfl (s_move  rfl ?_)
            refine l_nil ?_
            repeat (with_reducible first | refine c_seq ?_ | refine c_block ?_ | refine c_skip ?_ | refine x_then ?_ | refine x_block ?_)
            exact ⟨k + 1, _, rfl, ⟨hkl, g1 hfl, by assumption, by assumption, by assumption, by assumption, by assumption, vi rfl (by omega), hS.drop (List.nil_sublist _)⟩, by omega⟩
        · refine c_no rfl (decide_eq_false (by omega)) ?_
          repeat (with_reducible first | refine c_seq ?_ | refine c_block ?_ | refine c_skip ?_ | refine x_then ?_ | refine x_block ?_)
          refine c_exit ?_
          repeat (with_reducible first | refine x_then_exit ?_ | refine x_block_exit ?_ | refine x_block_pass rfl ?_)
          repeat (with_reducible first | refine c_seq ?_ | refine c_block ?_ | refine c_skip ?_ | refine x_then ?_ | refine x_block ?_)
          have e : x.charges.take k = x.charges := List.take_of_length_le (by omega)
          rw [e] at hok
          exact ⟨_, rfl, hok, h17, h18, h19, hS⟩
      clear hS h17 h18 h19 h6 h38
      rintro ρ w6 ⟨hall, h17, h18, h19, hS⟩
      repeat (with_reducible first | refine c_seq ?_ | refine c_block ?_ | refine c_skip ?_ | refine x_then ?_ | refine x_block ?_)
      refine c_reg ?_
      refine l_pure rfl (s_add  h19 rfl (IntWalk.i64_in _ (by omega)) ?_)
      refine l_pure rfl (s_move  rfl ?_)
      refine l_nil ?_
      repeat (with_reducible first | refine c_seq ?_ | refine c_block ?_ | refine c_skip ?_ | refine x_then ?_ | refine x_block ?_)
      exact ⟨i + 1, _, rfl, ⟨hlt, f1 (by rw [efi, hall]; rfl), by assumption, by assumption, vi rfl (by omega), hS⟩, by omega⟩
  · refine c_no rfl (decide_eq_false (by omega)) ?_
    repeat (with_reducible first | refine c_seq ?_ | refine c_block ?_ | refine c_skip ?_ | refine x_then ?_ | refine x_block ?_)
    refine c_exit ?_
    repeat (with_reducible first | refine x_then_exit ?_ | refine x_block_exit ?_ | refine x_block_pass rfl ?_)
    repeat (with_reducible first | refine c_seq ?_ | refine c_block ?_ | refine c_skip ?_ | refine x_then ?_ | refine x_block ?_)
    have e : X.take i = X := List.take_of_length_le (by omega)
    rw [e] at hok1
    repeat (with_reducible first | refine c_seq ?_ | refine c_block ?_ | refine c_skip ?_ | refine x_then ?_ | refine x_block ?_)
    refine c_reg ?_
    refine l_pure rfl (s_asg  rfl ?_)
    refine l_nil ?_
    repeat (with_reducible first | refine c_seq ?_ | refine c_block ?_ | refine c_skip ?_ | refine x_then ?_ | refine x_block ?_)
    refine c_ret ?_
    repeat (with_reducible first | refine x_then_ret ?_ | refine x_block_ret ?_)
    refine r_one rfl rfl ?_
    exact ⟨vb rfl hok1.symm, hS.below⟩
end Go.Proofs.YtknccjbkacaelaaGreatDoor
namespace Go.Proofs.YtknccjbkacaelaaGreatDoor
open Go Go.RowKit Go.Sx Go.ChangeShapes Go.WideShapes
section
variable {H : Type} {enc0 : TypeId × Value → H} {P : Program} {w : World} {sp : Nat → Bool} {held : Bool}
/-- A slice whose elements can be read: as a list. -/
theorem open_sl {α : Type} {enc : α → List Value} {size : Nat} {G : α → Prop} {t e : TypeId} {fuel base : Nat} {cs : List Value} {x : DataW H × List MemPlace} (ht : P.underlying t = some (.slice e)) (hce : P.cellsOf e = size)
    (hel : ∀ (n : Nat) (cs : List Value) (y : DataW H × List MemPlace), DataW.trod enc0 P w base sp held n e cs = some y → ∃ a, cs = enc a ∧ G a)
    (h : DataW.trod enc0 P w base sp held fuel t cs = some x) : ∃ v L, cs = [v] ∧ Sl enc size w v L ∧ ∀ y ∈ L, G y := by
  rcases DataW.trod_slice ht h with ⟨h1, _⟩ | ⟨a, len, cap, elems, rest, n, _, h1, _, _, hlc, hm, hlen, hel2, _, _⟩
  · exact ⟨_, [], h1, Sl.nil _ _ _, fun x hx => by cases hx⟩
  · have each : ∀ i, i < len → ∃ y : α, G y ∧ ∀ j u, (enc y)[j]? = some u → w.cell? (a.add (i * size + j)) = some u := by
      intro i hi
      have h2 := hel2 i hi
      rw [hce, List.getElem?_eq_getElem (by omega : i < elems.length), Option.bind_eq_some_iff] at h2
      obtain ⟨cs2, hcs, htr⟩ := h2
      obtain ⟨_, hcl, hcell⟩ := World.cells?_some hcs
      obtain ⟨y, rfl, hG⟩ := hel _ _ _ htr
      refine ⟨y, hG, fun j u hj => ?_⟩
      have hjl : j < size := by
        rw [← hcl]
        exact (List.getElem?_eq_some_iff.1 hj).1
      rw [← hj, ← hcell j hjl, add_add]
    refine ⟨_, (List.range len).pmap (fun i hi => Classical.choose (each i hi)) (fun i hi => List.mem_range.1 hi), h1, ⟨⟨some a, cap, by simp, by simp; exact hlc, hm, fun q => by cases q⟩, fun i hi => ?_⟩, fun y hy => ?_⟩
    · have hil : i < len := by simpa using hi
      intro j u hu2
      rw [List.getElem_pmap] at hu2
      simp only [List.getElem_range] at hu2
      show w.cell? ((a.add (i * size)).add j) = _
      rw [add_add]
      exact (Classical.choose_spec (each i hil)).2 j u hu2
    · obtain ⟨i, hi, rfl⟩ := List.mem_pmap.1 hy
      exact (Classical.choose_spec (each i (List.mem_range.1 hi))).1
end
section
variable {H : Type} {enc0 : TypeId × Value → H} {w : World} {sp : Nat → Bool} {held : Bool}
theorem list3 {α : Type} {l : List α} (h : l.length = 3) : ∃ a b c, l = [a, b, c] := by
  match l, h with
  | [a, b, c], _ => exact ⟨a, b, c, rfl⟩
theorem cb_bool : Tryz.prog.cellsOf 4 = 1 := by kernel_rfl
theorem cb_string : Tryz.prog.cellsOf 9 = 1 := by kernel_rfl
theorem cb_int : Tryz.prog.cellsOf 3 = 1 := by kernel_rfl
theorem cb_rat : Tryz.prog.cellsOf 29 = 3 := by kernel_rfl
/-- How long a number's texts can be. -/
def rok (r : RR) : Prop := r.num.size ≤ maxLen ∧ r.den.size ≤ maxLen
theorem open_ratc {n base : Nat} {cs : List Value} {y : DataW H × List MemPlace} (h : DataW.trod enc0 Tryz.prog w base sp held n 29 cs = some y) : ∃ r : RR, cs = encR r ∧ rok r := by
  obtain ⟨xs, m, _, _, hl, hxl, hf⟩ := DataW.trod_struct Tryz.underlying29 h
  rw [cb_rat] at hl
  obtain ⟨u0, u1, u2, rfl⟩ := list3 hl
  have h3 : xs.length = 3 := hxl
  have h0 : DataW.trod enc0 Tryz.prog w base sp held m 4 (([u0, u1, u2].drop 0).take (Tryz.prog.cellsOf 4)) = xs[0]? := hf 0 _ rfl
  have h1 : DataW.trod enc0 Tryz.prog w base sp held m 9 (([u0, u1, u2].drop 1).take (Tryz.prog.cellsOf 9)) = xs[1]? := hf 1 _ rfl
  have h2 : DataW.trod enc0 Tryz.prog w base sp held m 9 (([u0, u1, u2].drop 2).take (Tryz.prog.cellsOf 9)) = xs[2]? := hf 2 _ rfl
  rw [cb_bool, List.getElem?_eq_getElem (by omega)] at h0
  rw [cb_string, List.getElem?_eq_getElem (by omega)] at h1 h2
  obtain ⟨b, e0, _⟩ := DataW.trod_bool Tryz.underlying4 h0
  obtain ⟨s, e1, _, hs⟩ := DataW.trod_string Tryz.underlying9 h1
  obtain ⟨d, e2, _, hd⟩ := DataW.trod_string Tryz.underlying9 h2
  obtain rfl : u0 = .bool b := (List.cons.inj e0).1
  obtain rfl : u1 = .string s := (List.cons.inj e1).1
  obtain rfl : u2 = .string d := (List.cons.inj e2).1
  exact ⟨⟨b, s, d⟩, rfl, hs, hd⟩
/-- An argument of type []api.Rat. -/
theorem open_rats {v : Value} {d : DataW H} {ps : List MemPlace} (hval : ∃ a n c, v = .slice a n c) (h : DataW.Trod enc0 Tryz.prog w 0 (fun _ => true) true 24 v d ps) : ∃ L : List RR, Sl encR 3 w v L ∧ ∀ r ∈ L, rok r := by
  obtain ⟨a, n, c, rfl⟩ := hval
  obtain ⟨fuel, hf⟩ := h
  obtain ⟨v, L, e, hS, hG⟩ := open_sl (enc := encR) (G := rok) Tryz.underlying24 cb_rat (fun _ _ _ h => open_ratc h) hf
  simp only [Value.cells, List.cons.injEq, and_true] at e
  rw [e]
  exact ⟨L, hS, hG⟩
end
end Go.Proofs.YtknccjbkacaelaaGreatDoor
namespace Go.Proofs.YtknccjbkacaelaaGreatDoor
open Go Go.RowKit Go.Sx Go.ChangeShapes Go.WideShapes
section
variable {H : Type} {enc0 : TypeId × Value → H} {w : World} {sp : Nat → Bool} {held : Bool}
theorem list6 {α : Type} {l : List α} (h : l.length = 6) : ∃ a b c d e f, l = [a, b, c, d, e, f] := by
  match l, h with
  | [a, b, c, d, e, f], _ => exact ⟨a, b, c, d, e, f, rfl⟩
theorem list7 {α : Type} {l : List α} (h : l.length = 7) : ∃ a b c d e f g, l = [a, b, c, d, e, f, g] := by
  match l, h with
  | [a, b, c, d, e, f, g], _ => exact ⟨a, b, c, d, e, f, g, rfl⟩
theorem cb_ch : Tryz.prog.cellsOf 38 = 6 := by kernel_rfl
theorem cb_it : Tryz.prog.cellsOf 32 = 7 := by kernel_rfl
theorem cb_chs : Tryz.prog.cellsOf 30 = 1 := by kernel_rfl
theorem open_chc {n base : Nat} {cs : List Value} {y : DataW H × List MemPlace} (h : DataW.trod enc0 Tryz.prog w base sp held n 38 cs = some y) : ∃ o : Ch, cs = encCh o ∧ True := by
  obtain ⟨xs, m, _, _, hl, hxl, hf⟩ := DataW.trod_struct Tryz.underlying38 h
  rw [cb_ch] at hl
  obtain ⟨u0, u1, u2, u3, u4, u5, rfl⟩ := list6 hl
  have h6 : xs.length = 4 := hxl
  have h0 : DataW.trod enc0 Tryz.prog w base sp held m 3 (([u0, u1, u2, u3, u4, u5].drop 0).take (Tryz.prog.cellsOf 3)) = xs[0]? := hf 0 _ rfl
  have h1 : DataW.trod enc0 Tryz.prog w base sp held m 3 (([u0, u1, u2, u3, u4, u5].drop 1).take (Tryz.prog.cellsOf 3)) = xs[1]? := hf 1 _ rfl
  have h2 : DataW.trod enc0 Tryz.prog w base sp held m 4 (([u0, u1, u2, u3, u4, u5].drop 2).take (Tryz.prog.cellsOf 4)) = xs[2]? := hf 2 _ rfl
  have h3 : DataW.trod enc0 Tryz.prog w base sp held m 29 (([u0, u1, u2, u3, u4, u5].drop 3).take (Tryz.prog.cellsOf 29)) = xs[3]? := hf 3 _ rfl
  rw [cb_int, List.getElem?_eq_getElem (by omega)] at h0 h1
  rw [cb_bool, List.getElem?_eq_getElem (by omega)] at h2
  rw [cb_rat, List.getElem?_eq_getElem (by omega)] at h3
  obtain ⟨a, e0, _⟩ := DataW.trod_int Tryz.underlying3 h0
  obtain ⟨b, e1, _⟩ := DataW.trod_int Tryz.underlying3 h1
  obtain ⟨f, e2, _⟩ := DataW.trod_bool Tryz.underlying4 h2
  obtain ⟨r, e3, _⟩ := open_ratc h3
  obtain rfl : u0 = .int .i64 a := (List.cons.inj e0).1
  obtain rfl : u1 = .int .i64 b := (List.cons.inj e1).1
  obtain rfl : u2 = .bool f := (List.cons.inj e2).1
  obtain rfl : u3 = .bool r.neg := (List.cons.inj e3).1
  obtain rfl : u4 = .string r.num := (List.cons.inj (List.cons.inj e3).2).1
  obtain rfl : u5 = .string r.den := (List.cons.inj (List.cons.inj (List.cons.inj e3).2).2).1
  exact ⟨⟨a, b, f, r⟩, rfl, trivial⟩
theorem open_itc {n base : Nat} {cs : List Value} {y : DataW H × List MemPlace} (h : DataW.trod enc0 Tryz.prog w base sp held n 32 cs = some y) : ∃ p : It × Value, cs = encIt p ∧ Sl encCh 6 w p.2 p.1.charges := by
  obtain ⟨xs, m, _, _, hl, hxl, hf⟩ := DataW.trod_struct Tryz.underlying32 h
  rw [cb_it] at hl
  obtain ⟨u0, u1, u2, u3, u4, u5, u6, rfl⟩ := list7 hl
  have h6 : xs.length = 3 := hxl
  have h0 : DataW.trod enc0 Tryz.prog w base sp held m 29 (([u0, u1, u2, u3, u4, u5, u6].drop 0).take (Tryz.prog.cellsOf 29)) = xs[0]? := hf 0 _ rfl
  have h1 : DataW.trod enc0 Tryz.prog w base sp held m 29 (([u0, u1, u2, u3, u4, u5, u6].drop 3).take (Tryz.prog.cellsOf 29)) = xs[1]? := hf 1 _ rfl
  have h2 : DataW.trod enc0 Tryz.prog w base sp held m 30 (([u0, u1, u2, u3, u4, u5, u6].drop 6).take (Tryz.prog.cellsOf 30)) = xs[2]? := hf 2 _ rfl
  rw [cb_rat, List.getElem?_eq_getElem (by omega)] at h0 h1
  rw [cb_chs, List.getElem?_eq_getElem (by omega)] at h2
  obtain ⟨p, e0, _⟩ := open_ratc h0
  obtain ⟨c, e1, _⟩ := open_ratc h1
  obtain ⟨v, L, e2, hS, _⟩ := open_sl (enc := encCh) (G := fun _ => True) Tryz.underlying30 cb_ch (fun _ _ _ h => open_chc h) h2
  obtain rfl : u0 = .bool p.neg := (List.cons.inj e0).1
  obtain rfl : u1 = .string p.num := (List.cons.inj (List.cons.inj e0).2).1
  obtain rfl : u2 = .string p.den := (List.cons.inj (List.cons.inj (List.cons.inj e0).2).2).1
  obtain rfl : u3 = .bool c.neg := (List.cons.inj e1).1
  obtain rfl : u4 = .string c.num := (List.cons.inj (List.cons.inj e1).2).1
  obtain rfl : u5 = .string c.den := (List.cons.inj (List.cons.inj (List.cons.inj e1).2).2).1
  obtain rfl : u6 = v := (List.cons.inj e2).1
  exact ⟨(⟨p, c, L⟩, u6), rfl, hS⟩
/-- An argument of type []api.Item. -/
theorem open_items {v : Value} {d : DataW H} {ps : List MemPlace} (hval : ∃ a n c, v = .slice a n c) (h : DataW.Trod enc0 Tryz.prog w 0 (fun _ => true) true 26 v d ps) : ∃ X cvs, Its w v X cvs := by
  obtain ⟨a, n, c, rfl⟩ := hval
  obtain ⟨fuel, hf⟩ := h
  obtain ⟨v, L, e, hS, hG⟩ := open_sl (enc := encIt) (G := fun p => Sl encCh 6 w p.2 p.1.charges) Tryz.underlying26 cb_it (fun _ _ _ h => open_itc h) hf
  simp only [Value.cells, List.cons.injEq, and_true] at e
  rw [e]
  have hz : (L.map (·.1)).zip (L.map (·.2)) = L := by
    rw [List.zip_map']
    exact List.map_id L
  refine ⟨L.map (·.1), L.map (·.2), ⟨by simp, by rw [hz]; exact hS, fun i hi => ?_⟩⟩
  rw [List.length_map] at hi
  have := hG L[i] (List.getElem_mem hi)
  rw [List.getD_eq_getElem?_getD, List.getD_eq_getElem?_getD, List.getElem?_map, List.getElem?_map, List.getElem?_eq_getElem hi]
  exact this
end
end Go.Proofs.YtknccjbkacaelaaGreatDoor
namespace Go.Proofs.YtknccjbkacaelaaGreatDoor
open Go Go.RowKit Go.Sx Go.ChangeShapes Go.WideShapes
theorem okWide_struct {P : Program} {w : World} {r : Reach} {base : Nat} {t : TypeId} {v : Value} (ht : ∃ fs, P.underlying t = some (.struct fs)) (h : Value.okWide P w r base t v) : ∃ cs, v = .agg cs := by
  obtain ⟨fs, ht⟩ := ht
  unfold Value.okWide at h
  rw [ht] at h
  obtain ⟨cs, h1, _⟩ := h
  exact ⟨cs, h1⟩
section
variable {H : Type} {enc0 : TypeId × Value → H} {w : World}
end
end Go.Proofs.YtknccjbkacaelaaGreatDoor
namespace Go.Proofs.YtknccjbkacaelaaGreatDoor
open Go Go.RowKit Go.Sx Go.ChangeShapes Go.WideShapes
section
variable {H : Type} {enc0 : TypeId × Value → H} {w : World}
set_option maxRecDepth 100000 in
/-- An argument of type api.Item. -/
theorem open_itv {v : Value} {d : DataW H} {ps : List MemPlace} {b0 : Nat} (hval : Value.okWide Tryz.prog w .any b0 32 v) (h : DataW.Trod enc0 Tryz.prog w 0 (fun _ => true) true 32 v d ps) : ∃ x vc, v = aggIt x vc ∧ Sl encCh 6 w vc x.charges := by
  obtain ⟨cs, rfl⟩ := okWide_struct ⟨_, Tryz.underlying32⟩ hval
  obtain ⟨fuel, hf⟩ := h
  obtain ⟨p, e, hS⟩ := open_itc hf
  refine ⟨p.1, p.2, ?_, hS⟩
  have e2 : cs.toList = encIt p := by simpa [Value.cells] using e
  have e3 : cs = (encIt p).toArray := by rw [← e2]
  rw [e3]; rfl
end
theorem SameRats_selfR (va vb : Value) (A : List RR) (w : World) (ha : Sl encR 3 w va A) (hb : Sl encR 3 w vb A) :
    Ret Tryz.prog 18 #[va, vb] w fun v w' => v = .bool true ∧ Below w.heap.size w w' :=
  (SameRats_ok va vb A A w ha hb).mono fun _ _ ⟨h, hB⟩ => ⟨by rw [h, decide_eq_true rfl], hB⟩
set_option maxHeartbeats 4000000 in
theorem CollateralRaw_ok (x : It) (vc vi_ vo : Value) (X : List It) (cvs : List Value) (owed : List RR) (w : World) (hch : Sl encCh 6 w vc x.charges) (hX : Its w vi_ X cvs) (ho : Sl encR 3 w vo owed) :
    Ret Tryz.prog 4 #[aggIt x vc, vi_, vo] w fun v w' => v = .bool true ∧ Below w.heap.size w w' := by
  have hM : MX = 1099511627776 := rfl
  have hS := St.init w
  refine enter Tryz.func4 rfl Tryz.ntmps4 rfl ?_
  repeat (with_reducible first | refine c_seq ?_ | refine c_block ?_ | refine c_skip ?_ | refine x_then ?_ | refine x_block ?_)
  refine c_reg ?_
  refine l_heavy rfl (s_box  rfl rfl hS ?_)
  intro b3 wz1 hS hBz1
  refine l_pure rfl (s_asg  rfl ?_)
  refine l_nil ?_
  repeat (with_reducible first | refine c_seq ?_ | refine c_block ?_ | refine c_skip ?_ | refine x_then ?_ | refine x_block ?_)
  replace hS : St w _ [(b3, 32, encIt (x, vc))] := hS
  repeat (with_reducible first | refine c_seq ?_ | refine c_block ?_ | refine c_skip ?_ | refine x_then ?_ | refine x_block ?_)
  refine c_reg ?_
  refine l_pure rfl (s_move  rfl ?_)
  refine l_pure rfl (s_move  rfl ?_)
  refine l_heavy rfl (s_call Tryz.call14 rfl (fewI_ok vi_ vo X cvs owed _ (hX.below hS.below) (ho.below hS.below)) ?_)
  rintro rf w1 ⟨rfl, hB1⟩
  replace hS := hS.grow hB1
  cases hf : fewI X owed with
  | false =>
    refine l_pure rfl (s_not  rfl ?_)
    refine l_pure rfl (s_move  rfl ?_)
    refine l_no (gno_yes 23 (by kernel_rfl) rfl rfl) ?_
    refine l_no (gno_yes 23 (by kernel_rfl) rfl rfl) ?_
    refine l_no (gno_yes 23 (by kernel_rfl) rfl rfl) ?_
    refine l_no (gno_yes 23 (by kernel_rfl) rfl rfl) ?_
    refine l_pure rfl (s_pick (vb rfl rfl) rfl ?_)
    refine l_nil ?_
    repeat (with_reducible first | refine c_seq ?_ | refine c_block ?_ | refine c_skip ?_ | refine x_then ?_ | refine x_block ?_)
    refine c_yes rfl (rfl) ?_
    repeat (with_reducible first | refine c_seq ?_ | refine c_block ?_ | refine c_skip ?_ | refine x_then ?_ | refine x_block ?_)
    refine c_reg ?_
    refine l_heavy rfl (s_call Tryz.call13 rfl (Cawake_ok _) ?_)
    rintro _ wc2 ⟨rfl, hBc2⟩
    replace hS := hS.grow hBc2
    refine l_pure rfl (s_asg  rfl ?_)
    refine l_nil ?_
    repeat (with_reducible first | refine c_seq ?_ | refine c_block ?_ | refine c_skip ?_ | refine x_then ?_ | refine x_block ?_)
    refine c_ret ?_
    repeat (with_reducible first | refine x_then_ret ?_ | refine x_block_ret ?_)
    refine r_one rfl rfl ?_
    exact ⟨rfl, hS.below⟩
  | true =>
  obtain ⟨hx10, ho10, hXB, hoB, hx12⟩ := fewI_B hf
  refine l_pure rfl (s_not  rfl ?_)
  refine l_pure rfl (s_move  rfl ?_)
  refine l_read (gd_yes 23 (by kernel_rfl) rfl rfl) (s_ldo (k := 0)  rfl vi_32 hS rfl rfl rfl (.inl rfl) ?_)
  refine l_heavy (gd_yes 23 (by kernel_rfl) rfl rfl) (s_bsl (vs := [aggIt x vc])  rfl si_26 rfl (by decide) (by decide) (by decide) (by simp [Value.cells, aggIt]) rfl hS ?_)
  intro b25 wz3 hS hBz3
  replace hS : St w _ [(b25, 32, ([x].zip [vc]).flatMap encIt), (b3, 32, encIt (x, vc))] := hS
  have hI : Its _ (.slice (some ⟨b25, 0, none⟩) 1 1) [x] [vc] := ⟨rfl, hS.sle (k := 0) (L := [x].zip [vc]) (n := 1) (cap := 1) rfl encIt_len (Nat.le_refl _) (Nat.le_refl _) (by decide), fun i hi => (by
    obtain rfl : i = 0 := by simp at hi; exact hi
    exact hch.below hS.below)⟩
  refine l_heavy (gd_yes 23 (by kernel_rfl) rfl rfl) (s_call Tryz.call14 rfl (fewI_ok _ (.slice none 0 0) [x] [vc] [] _ hI (Sl.nil _ _ _)) ?_)
  rintro rg w2 ⟨rfl, hB2⟩
  replace hS := hS.grow hB2
  cases hg : fewI [x] [] with
  | false =>
    refine l_pure (gd_yes 23 (by kernel_rfl) rfl rfl) (s_not  rfl ?_)
    refine l_pure rfl (s_pick (vb rfl rfl) rfl ?_)
    refine l_nil ?_
    repeat (with_reducible first | refine c_seq ?_ | refine c_block ?_ | refine c_skip ?_ | refine x_then ?_ | refine x_block ?_)
    refine c_yes rfl (rfl) ?_
    repeat (with_reducible first | refine c_seq ?_ | refine c_block ?_ | refine c_skip ?_ | refine x_then ?_ | refine x_block ?_)
    refine c_reg ?_
    refine l_heavy rfl (s_call Tryz.call13 rfl (Cawake_ok _) ?_)
    rintro _ wc4 ⟨rfl, hBc4⟩
    replace hS := hS.grow hBc4
    refine l_pure rfl (s_asg  rfl ?_)
    refine l_nil ?_
    repeat (with_reducible first | refine c_seq ?_ | refine c_block ?_ | refine c_skip ?_ | refine x_then ?_ | refine x_block ?_)
    refine c_ret ?_
    repeat (with_reducible first | refine x_then_ret ?_ | refine x_block_ret ?_)
    refine r_one rfl rfl ?_
    exact ⟨rfl, hS.below⟩
  | true =>
  obtain ⟨_, _, hx1, _, _⟩ := fewI_B hg
  refine l_pure (gd_yes 23 (by kernel_rfl) rfl rfl) (s_not  rfl ?_)
  refine l_pure rfl (s_pick (vb rfl rfl) rfl ?_)
  refine l_nil ?_
  repeat (with_reducible first | refine c_seq ?_ | refine c_block ?_ | refine c_skip ?_ | refine x_then ?_ | refine x_block ?_)
  refine c_no rfl (rfl) ?_
  repeat (with_reducible first | refine c_seq ?_ | refine c_block ?_ | refine c_skip ?_ | refine x_then ?_ | refine x_block ?_)
  have hat3 : At w2 ⟨b3, 0, none⟩ (encIt (x, vc)) := hS.at (k := 1) rfl 0 7
  replace hch := hch.below hS.below
  replace hX := hX.below hS.below
  replace ho := ho.below hS.below
  have hW := hS.below
  clear hS
  have hS := St.init w2
  obtain ⟨lf, hlf⟩ : ∃ q, q = lefR x owed := ⟨_, rfl⟩
  obtain ⟨ss, hss⟩ : ∃ q, q = shsL x owed := ⟨_, rfl⟩
  obtain ⟨e1, he1⟩ : ∃ q, q = checkE [x] owed := ⟨_, rfl⟩
  obtain ⟨e2, he2⟩ : ∃ q, q = checkE X owed := ⟨_, rfl⟩
  have hsh1 := fun v1 v2 w h1 h2 => Share_ok x v1 v2 owed 24 w h1 h2 hx1 hoB (by rw [hM]; decide)
  have hsh2 := fun v1 v2 w h1 h2 => rShare_ok x v1 v2 owed 24 w h1 h2 hx1 hoB (by rw [hM]; decide)
  rw [← hlf, ← hss, ← he1] at hsh1 hsh2
  repeat (with_reducible first | refine c_seq ?_ | refine c_block ?_ | refine c_skip ?_ | refine x_then ?_ | refine x_block ?_)
  refine c_reg ?_
  refine l_read rfl (s_ld (v := aggIt x vc)  rfl vi_32 (hat3.below hS.below) rfl rfl (.inl rfl) ?_)
  refine l_pure rfl (s_move  rfl ?_)
  refine l_heavy rfl (s_call Tryz.call9 rfl (hsh1 vc vo _ (hch.below hS.below) (ho.below hS.below)) ?_)
  rintro r3 w3 ⟨⟨v7, rfl, h7⟩, hB3⟩
  replace hS := hS.grow hB3
  replace hat3 := hat3.below hS.below
  replace hch := hch.below hS.below
  replace hX := hX.below hS.below
  replace ho := ho.below hS.below
  replace hW := bt hW hS.below
  clear hS
  have hS := St.init w3
  refine l_pure rfl (s_move  rfl ?_)
  refine l_pure rfl (s_ext  rfl rfl ?_)
  refine l_pure rfl (s_ext  rfl rfl ?_)
  refine l_pure rfl (s_ext  rfl rfl ?_)
  refine l_heavy rfl (s_alloc  vi_29 hS ?_)
  intro b8 wz5 hS hBz5
  refine l_pure rfl (s_asg  rfl ?_)
  refine l_heavy rfl (s_sta (k := 0)  rfl rfl vi_29 hS rfl rfl rfl (Nat.le_of_ble_eq_true rfl) rfl ?_)
  intro wz6 hS
  refine l_pure rfl (s_asg  rfl ?_)
  refine l_nil ?_
  repeat (with_reducible first | refine c_seq ?_ | refine c_block ?_ | refine c_skip ?_ | refine x_then ?_ | refine x_block ?_)
  replace hS : St w3 _ [(b8, 29, encR lf)] := hS
  repeat (with_reducible first | refine c_seq ?_ | refine c_block ?_ | refine c_skip ?_ | refine x_then ?_ | refine x_block ?_)
  refine c_forget (fun ρ' => ρ' 1 = vi_ ∧ ρ' 2 = vo ∧ ρ' 3 = .pointer (some ⟨b3, 0, none⟩) ∧ ρ' 7 = v7 ∧ ρ' 8 = .pointer (some ⟨b8, 0, none⟩) ∧ ρ' 9 = .int .i64 e1 ∧ True) ⟨rfl, rfl, rfl, rfl, rfl, rfl, trivial⟩ ?_
  rintro ρk7 ⟨hk7_1, hk7_2, hk7_3, hk7_7, hk7_8, hk7_9, -⟩
  repeat (with_reducible first | refine c_seq ?_ | refine c_block ?_ | refine c_skip ?_ | refine x_then ?_ | refine x_block ?_)
  refine c_reg ?_
  refine l_read rfl (s_ld (v := aggIt x vc)  hk7_3 vi_32 (hat3.below hS.below) rfl rfl (.inl rfl) ?_)
  refine l_pure rfl (s_move  hk7_2 ?_)
  refine l_heavy rfl (s_call Tryz.call15 rfl (hsh2 vc vo _ (hch.below hS.below) (ho.below hS.below)) ?_)
  rintro r4 w4 ⟨⟨v10, rfl, h10⟩, hB4⟩
  replace hS := hS.grow hB4
  have hat8 : At w4 ⟨b8, 0, none⟩ (encR lf) := hS.at (k := 0) rfl 0 3
  replace h7 := h7.below hS.below
  replace hX := hX.below hS.below
  replace ho := ho.below hS.below
  replace hW := bt hW hS.below
  clear hS
  have hS := St.init w4
  refine l_pure rfl (s_move  rfl ?_)
  refine l_pure rfl (s_ext  rfl rfl ?_)
  refine l_pure rfl (s_ext  rfl rfl ?_)
  refine l_pure rfl (s_ext  rfl rfl ?_)
  refine l_heavy rfl (s_alloc  vi_29 hS ?_)
  intro b11 wz8 hS hBz8
  refine l_pure rfl (s_asg  rfl ?_)
  refine l_heavy rfl (s_sta (k := 0)  rfl rfl vi_29 hS rfl rfl rfl (Nat.le_of_ble_eq_true rfl) rfl ?_)
  intro wz9 hS
  refine l_pure rfl (s_asg  rfl ?_)
  refine l_nil ?_
  repeat (with_reducible first | refine c_seq ?_ | refine c_block ?_ | refine c_skip ?_ | refine x_then ?_ | refine x_block ?_)
  replace hS : St w4 _ [(b11, 29, encR lf)] := hS
  repeat (with_reducible first | refine c_seq ?_ | refine c_block ?_ | refine c_skip ?_ | refine x_then ?_ | refine x_block ?_)
  refine c_forget (fun ρ' => ρ' 1 = vi_ ∧ ρ' 2 = vo ∧ ρ' 7 = v7 ∧ ρ' 8 = .pointer (some ⟨b8, 0, none⟩) ∧ ρ' 9 = .int .i64 e1 ∧ ρ' 10 = v10 ∧ ρ' 11 = .pointer (some ⟨b11, 0, none⟩) ∧ ρ' 12 = .int .i64 e1 ∧ True) ⟨hk7_1, hk7_2, hk7_7, hk7_8, hk7_9, rfl, rfl, rfl, trivial⟩ ?_
  rintro ρk10 ⟨hk10_1, hk10_2, hk10_7, hk10_8, hk10_9, hk10_10, hk10_11, hk10_12, -⟩
  repeat (with_reducible first | refine c_seq ?_ | refine c_block ?_ | refine c_skip ?_ | refine x_then ?_ | refine x_block ?_)
  refine c_reg ?_
  refine l_pure rfl (s_move  hk10_1 ?_)
  refine l_pure rfl (s_move  hk10_2 ?_)
  refine l_heavy rfl (s_call Tryz.call16 rfl (Realize_ok vi_ vo X cvs owed _ (hX.below hS.below) (ho.below hS.below) hXB hoB) ?_)
  rintro r5 w5 ⟨⟨v13, v14, rfl, h13, h14⟩, hB5⟩
  rw [← he2]
  replace hS := hS.grow hB5
  refine l_pure rfl (s_move  rfl ?_)
  refine l_pure rfl (s_ext  rfl rfl ?_)
  refine l_pure rfl (s_ext  rfl rfl ?_)
  refine l_pure rfl (s_ext  rfl rfl ?_)
  refine l_pure rfl (s_asg  rfl ?_)
  refine l_pure rfl (s_asg  rfl ?_)
  refine l_pure rfl (s_asg  rfl ?_)
  refine l_nil ?_
  repeat (with_reducible first | refine c_seq ?_ | refine c_block ?_ | refine c_skip ?_ | refine x_then ?_ | refine x_block ?_)
  refine c_forget (fun ρ' => ρ' 1 = vi_ ∧ ρ' 2 = vo ∧ ρ' 7 = v7 ∧ ρ' 8 = .pointer (some ⟨b8, 0, none⟩) ∧ ρ' 9 = .int .i64 e1 ∧ ρ' 10 = v10 ∧ ρ' 11 = .pointer (some ⟨b11, 0, none⟩) ∧ ρ' 12 = .int .i64 e1 ∧ ρ' 13 = v13 ∧ ρ' 14 = v14 ∧ ρ' 15 = .int .i64 e2 ∧ True) ⟨hk10_1, hk10_2, hk10_7, hk10_8, hk10_9, hk10_10, hk10_11, hk10_12, rfl, rfl, rfl, trivial⟩ ?_
  rintro ρk11 ⟨hk11_1, hk11_2, hk11_7, hk11_8, hk11_9, hk11_10, hk11_11, hk11_12, hk11_13, hk11_14, hk11_15, -⟩
  repeat (with_reducible first | refine c_seq ?_ | refine c_block ?_ | refine c_skip ?_ | refine x_then ?_ | refine x_block ?_)
  refine c_reg ?_
  refine l_pure rfl (s_move  hk11_1 ?_)
  refine l_pure rfl (s_move  hk11_2 ?_)
  refine l_heavy rfl (s_call Tryz.call17 rfl (rRealize_ok vi_ vo X cvs owed _ (hX.below hS.below) (ho.below hS.below) hXB hoB) ?_)
  rintro r6 w6 ⟨⟨v16, v17, rfl, h16, h17⟩, hB6⟩
  rw [← he2]
  replace hS := hS.grow hB6
  replace h13 := h13.below hB6
  replace h14 := h14.below hB6
  refine l_pure rfl (s_move  rfl ?_)
  refine l_pure rfl (s_ext  rfl rfl ?_)
  refine l_pure rfl (s_ext  rfl rfl ?_)
  refine l_pure rfl (s_ext  rfl rfl ?_)
  refine l_pure rfl (s_asg  rfl ?_)
  refine l_pure rfl (s_asg  rfl ?_)
  refine l_pure rfl (s_asg  rfl ?_)
  refine l_nil ?_
  repeat (with_reducible first | refine c_seq ?_ | refine c_block ?_ | refine c_skip ?_ | refine x_then ?_ | refine x_block ?_)
  refine c_forget (fun ρ' => ρ' 7 = v7 ∧ ρ' 8 = .pointer (some ⟨b8, 0, none⟩) ∧ ρ' 9 = .int .i64 e1 ∧ ρ' 10 = v10 ∧ ρ' 11 = .pointer (some ⟨b11, 0, none⟩) ∧ ρ' 12 = .int .i64 e1 ∧ ρ' 13 = v13 ∧ ρ' 14 = v14 ∧ ρ' 15 = .int .i64 e2 ∧ ρ' 16 = v16 ∧ ρ' 17 = v17 ∧ ρ' 18 = .int .i64 e2 ∧ True) ⟨hk11_7, hk11_8, hk11_9, hk11_10, hk11_11, hk11_12, hk11_13, hk11_14, hk11_15, rfl, rfl, rfl, trivial⟩ ?_
  rintro ρk12 ⟨hk12_7, hk12_8, hk12_9, hk12_10, hk12_11, hk12_12, hk12_13, hk12_14, hk12_15, hk12_16, hk12_17, hk12_18, -⟩
  repeat (with_reducible first | refine c_seq ?_ | refine c_block ?_ | refine c_skip ?_ | refine x_then ?_ | refine x_block ?_)
  refine c_reg ?_
  refine l_heavy rfl (s_call Tryz.call13 rfl (Cawake_ok _) ?_)
  rintro ra wa ⟨rfl, hBa⟩
  replace hS := hS.grow hBa
  replace h13 := h13.below hBa
  replace h14 := h14.below hBa
  replace h16 := h16.below hBa
  replace h17 := h17.below hBa
  refine l_pure rfl (s_move  rfl ?_)
  refine l_pure (gd_yes 59 (by kernel_rfl) rfl rfl) (s_move  hk12_7 ?_)
  refine l_pure (gd_yes 59 (by kernel_rfl) rfl rfl) (s_move  hk12_10 ?_)
  refine l_heavy (gd_yes 59 (by kernel_rfl) rfl rfl) (s_call Tryz.call18 rfl (SameRats_selfR _ _ _ _ (h7.below hS.below) (h10.below hS.below)) ?_)
  rintro rb wb ⟨rfl, hBb⟩
  replace hS := hS.grow hBb
  replace h13 := h13.below hBb
  replace h14 := h14.below hBb
  replace h16 := h16.below hBb
  replace h17 := h17.below hBb
  refine l_pure rfl (s_pick (vb rfl rfl) rfl ?_)
  refine l_pure rfl (s_move  rfl ?_)
  refine l_read (gd_yes 64 (by kernel_rfl) rfl rfl) (s_ld (v := aggR lf)  hk12_8 vi_29 (hat8.below hS.below) rfl rfl (.inl rfl) ?_)
  refine l_read (gd_yes 64 (by kernel_rfl) rfl rfl) (s_ldo (k := 0)  hk12_11 vi_29 hS rfl rfl rfl (.inl rfl) ?_)
  refine l_pure (gd_yes 64 (by kernel_rfl) rfl rfl) (s_eqR  rfl rfl ?_)
  refine l_pure rfl (s_pick (vb rfl rfl) rfl ?_)
  refine l_pure rfl (s_move  rfl ?_)
  refine l_pure (gd_yes 69 (by kernel_rfl) rfl (decide_eq_true rfl)) (s_move  hk12_9 ?_)
  refine l_pure (gd_yes 69 (by kernel_rfl) rfl (decide_eq_true rfl)) (s_move  hk12_12 ?_)
  refine l_pure (gd_yes 69 (by kernel_rfl) rfl (decide_eq_true rfl)) (s_eql  rfl rfl ?_)
  refine l_pure rfl (s_pick (vb rfl (decide_eq_true rfl)) rfl ?_)
  refine l_pure rfl (s_move  rfl ?_)
  refine l_pure (gd_yes 74 (by kernel_rfl) rfl (decide_eq_true rfl)) (s_move  hk12_13 ?_)
  refine l_pure (gd_yes 74 (by kernel_rfl) rfl (decide_eq_true rfl)) (s_move  hk12_16 ?_)
  refine l_heavy (gd_yes 74 (by kernel_rfl) rfl (decide_eq_true rfl)) (s_call Tryz.call18 rfl (SameRats_selfR _ _ _ _ h13 h16) ?_)
  rintro rc wc ⟨rfl, hBc⟩
  replace hS := hS.grow hBc
  replace h14 := h14.below hBc
  replace h17 := h17.below hBc
  refine l_pure rfl (s_pick (vb rfl (decide_eq_true rfl)) rfl ?_)
  refine l_pure rfl (s_move  rfl ?_)
  refine l_pure (gd_yes 79 (by kernel_rfl) rfl rfl) (s_move  hk12_14 ?_)
  refine l_pure (gd_yes 79 (by kernel_rfl) rfl rfl) (s_move  hk12_17 ?_)
  refine l_heavy (gd_yes 79 (by kernel_rfl) rfl rfl) (s_call Tryz.call18 rfl (SameRats_selfR _ _ _ _ h14 h17) ?_)
  rintro rd wd ⟨rfl, hBd⟩
  replace hS := hS.grow hBd
  refine l_pure rfl (s_pick (vb rfl rfl) rfl ?_)
  refine l_pure rfl (s_move  rfl ?_)
  refine l_pure (gd_yes 84 (by kernel_rfl) rfl rfl) (s_move  hk12_15 ?_)
  refine l_pure (gd_yes 84 (by kernel_rfl) rfl rfl) (s_move  hk12_18 ?_)
  refine l_pure (gd_yes 84 (by kernel_rfl) rfl rfl) (s_eql  rfl rfl ?_)
  refine l_pure rfl (s_pick (vb rfl rfl) rfl ?_)
  refine l_pure rfl (s_asg  rfl ?_)
  refine l_nil ?_
  repeat (with_reducible first | refine c_seq ?_ | refine c_block ?_ | refine c_skip ?_ | refine x_then ?_ | refine x_block ?_)
  refine c_ret ?_
  repeat (with_reducible first | refine x_then_ret ?_ | refine x_block_ret ?_)
  refine r_one rfl rfl ?_
  exact ⟨vb rfl (decide_eq_true rfl), bt hW hS.below⟩
end Go.Proofs.YtknccjbkacaelaaGreatDoor
