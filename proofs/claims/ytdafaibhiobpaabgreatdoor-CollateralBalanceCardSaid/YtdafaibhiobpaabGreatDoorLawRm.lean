/-
  Walks: products and quotients of rational numbers.
-/
import Derived.Test.YtdafaibhiobpaabGreatDoorLawSo
namespace Go.Proofs.YtdafaibhiobpaabGreatDoor
open Go Go.RowKit Go.Sx

theorem sg_mul (p q : Rat) (X Y : Nat) : mkRat (sg (decide (p.num < 0) != decide (q.num < 0)) X) Y = mkRat (sg (decide (p.num < 0)) 1 * sg (decide (q.num < 0)) 1 * X) Y := by
  congr 1
  by_cases h1 : p.num < 0 <;> by_cases h2 : q.num < 0 <;> simp [h1, h2, sg]
theorem sg_abs (n : Int) : sg (decide (n < 0)) 1 * (n.natAbs : Int) = n := by
  by_cases h : n < 0
  · simp [h, sg]; omega
  · simp [h, sg]; omega
theorem mulQ_eq (p q : Rat) : mkRat (sg (decide (p.num < 0) != decide (q.num < 0)) (p.num.natAbs * q.num.natAbs)) (p.den * q.den) = p * q := by
  rw [sg_mul]
  have e : sg (decide (p.num < 0)) 1 * sg (decide (q.num < 0)) 1 * ((p.num.natAbs * q.num.natAbs : Nat) : Int) = p.num * q.num := by
    have h1 := sg_abs p.num
    have h2 := sg_abs q.num
    calc _ = (sg (decide (p.num < 0)) 1 * (p.num.natAbs : Int)) * (sg (decide (q.num < 0)) 1 * (q.num.natAbs : Int)) := by push_cast; grind
      _ = _ := by rw [h1, h2]
  rw [e]
  conv => rhs; rw [← Rat.mkRat_self p, ← Rat.mkRat_self q]
  exact (Rat.mkRat_mul_mkRat _ _ _ _).symm
theorem divQ_eq (p q : Rat) : mkRat (sg (decide (p.num < 0) != decide (q.num < 0)) (p.num.natAbs * q.den)) (p.den * q.num.natAbs) = p / q := by
  by_cases hq : q = 0
  · subst hq
    simp [Rat.mkRat_zero, Rat.div_def]
  have hqn : q.num.natAbs ≠ 0 := fun h => hq (Rat.num_eq_zero.1 (Int.natAbs_eq_zero.1 h))
  have key : mkRat (sg (decide (p.num < 0) != decide (q.num < 0)) (p.num.natAbs * q.den)) (p.den * q.num.natAbs) * q = p := by
    rw [sg_mul]
    conv => lhs; rhs; rw [← Rat.mkRat_self q]
    rw [Rat.mkRat_mul_mkRat]
    have h1 := sg_abs p.num
    have h2 := sg_abs q.num
    have hs : sg (decide (q.num < 0)) 1 * sg (decide (q.num < 0)) 1 = 1 := by
      by_cases h : q.num < 0 <;> simp [h, sg]
    have e : sg (decide (p.num < 0)) 1 * sg (decide (q.num < 0)) 1 * ((p.num.natAbs * q.den : Nat) : Int) * q.num = p.num * ((q.num.natAbs * q.den : Nat) : Int) := by
      calc _ = (sg (decide (p.num < 0)) 1 * (p.num.natAbs : Int)) * (sg (decide (q.num < 0)) 1 * q.num * (q.den : Int)) := by push_cast; grind
        _ = p.num * (sg (decide (q.num < 0)) 1 * (sg (decide (q.num < 0)) 1 * (q.num.natAbs : Int)) * (q.den : Int)) := by rw [h1, h2]
        _ = p.num * ((sg (decide (q.num < 0)) 1 * sg (decide (q.num < 0)) 1) * (q.num.natAbs : Int) * (q.den : Int)) := by grind
        _ = _ := by rw [hs]; push_cast; grind
    rw [e, Nat.mul_assoc]
    have := Rat.mkRat_mul_right (n := p.num) (d := p.den) (a := q.num.natAbs * q.den) (Nat.mul_ne_zero hqn q.den_nz)
    rw [this, Rat.mkRat_self]
  rw [← key, Rat.div_def, Rat.mul_assoc, Rat.mul_inv_cancel _ hq, Rat.mul_one, key]

set_option maxHeartbeats 1000000 in
theorem QMultiply_ok (r s : RR) (w : World) (hr : Lr r + Lr s ≤ MX) :
    Ret Tryz.prog 77 #[aggR r, aggR s] w fun v w' => v = aggR (ofQ (toQ r * toQ s)) ∧ Below w.heap.size w w' := by
  have hM : MX = 1099511627776 := rfl
  have hL1 := L_toQ r
  have hL2 := L_toQ s
  obtain ⟨p, hp⟩ : ∃ p, p = toQ r := ⟨_, rfl⟩
  obtain ⟨q, hq⟩ : ∃ q, q = toQ s := ⟨_, rfl⟩
  have hc1 := fun w => clean_ok r w (show Lr r ≤ MX by omega)
  have hc2 := fun w => clean_ok s w (show Lr s ≤ MX by omega)
  unfold fx at hc1 hc2
  rw [← hp] at hL1 hc1 ⊢
  rw [← hq] at hL2 hc2 ⊢
  have hn1 := L_num p
  have hn2 := L_num q
  have hd1 := L_den p
  have hd2 := L_den q
  have hm1 := natS_size_mul p.num.natAbs q.num.natAbs
  have hm2 := natS_size_mul p.den q.den
  have hD2 : val (natS (p.den * q.den)) ≠ 0 := by rw [val_natS]; exact Nat.mul_ne_zero p.den_nz q.den_nz
  have hred := fun w => reduced_ok (decide (p.num < 0) != decide (q.num < 0)) (natS (p.num.natAbs * q.num.natAbs)) (natS (p.den * q.den)) w (by omega) (by omega) hD2
  rw [val_natS, val_natS, mulQ_eq] at hred
  have hS := St.init w
  refine enter Tryz.func77 rfl Tryz.ntmps77 rfl ?_
  repeat (with_reducible first | refine c_seq ?_ | refine c_block ?_ | refine c_skip ?_ | refine x_then ?_ | refine x_block ?_)
  refine c_reg ?_
  refine l_heavy rfl (s_box (new := encR r)  rfl rfl hS ?_)
  intro b1 wz2 hS hBz2
  refine l_heavy rfl (s_box (new := encR s)  rfl rfl hS ?_)
  intro b3 wz4 hS hBz4
  refine l_heavy rfl (s_alloc  vi_29 hS ?_)
  intro b5 wz6 hS hBz6
  refine l_nil ?_
  repeat (with_reducible first | refine c_seq ?_ | refine c_block ?_ | refine c_skip ?_ | refine x_then ?_ | refine x_block ?_)
  refine c_draw [(0, .read), (2, .read), (1, .grow), (3, .grow), (4, .free), (5, .free)] (by kernel_rfl) (by kernel_rfl) hS ?_
  intro wz7 hS hBz7
  refine w_read rfl rfl (s_ldo (k := 2)  rfl vi_29 hS rfl rfl rfl (.inl rfl) ?_)
  refine w_read rfl rfl (s_ldo (k := 1)  rfl vi_29 hS rfl rfl rfl (.inl rfl) ?_)
  refine w_grow rfl rfl (s_call Tryz.call27 rfl (hc1 _) ?_)
  rintro _ wc8 ⟨rfl, hBc8⟩
  replace hS := hS.grow hBc8
  refine ⟨hBc8, ?_⟩
  refine w_grow rfl rfl (s_call Tryz.call27 rfl (hc2 _) ?_)
  rintro _ wc9 ⟨rfl, hBc9⟩
  replace hS := hS.grow hBc9
  refine ⟨hBc9, ?_⟩
  refine w_free rfl rfl (s_sta (k := 2)  rfl rfl vi_29 hS rfl rfl rfl (Nat.le_of_ble_eq_true rfl) rfl ?_)
  intro wz10 hS
  refine w_free rfl rfl (s_sta (k := 1)  rfl rfl vi_29 hS rfl rfl rfl (Nat.le_of_ble_eq_true rfl) rfl ?_)
  intro wz11 hS
  refine w_end ?_
  repeat (with_reducible first | refine c_seq ?_ | refine c_block ?_ | refine c_skip ?_ | refine x_then ?_ | refine x_block ?_)
  refine c_draw [(0, .pure), (1, .read), (2, .pure), (3, .read), (4, .pure), (5, .pure), (6, .read), (7, .pure), (8, .read), (10, .read), (12, .read), (9, .grow), (11, .grow), (13, .grow), (14, .grow), (15, .grow), (16, .free)] (by kernel_rfl) (by kernel_rfl) hS ?_
  intro wz12 hS hBz12
  refine w_pure rfl rfl (s_fld  rfl fo_29_0 ?_)
  refine w_read rfl rfl (s_ldo (k := 2)  rfl vi_4 hS rfl rfl rfl (.inr rfl) ?_)
  refine w_pure rfl rfl (s_fld  rfl fo_29_0 ?_)
  refine w_read rfl rfl (s_ldo (k := 1)  rfl vi_4 hS rfl rfl rfl (.inr rfl) ?_)
  refine w_pure rfl rfl (s_neb  rfl rfl Tryz.underlying4 ?_)
  refine w_pure rfl rfl (s_fld  rfl fo_29_1 ?_)
  refine w_read rfl rfl (s_ldo (k := 2)  rfl vi_9 hS rfl rfl rfl (.inr rfl) ?_)
  refine w_pure rfl rfl (s_fld  rfl fo_29_1 ?_)
  refine w_read rfl rfl (s_ldo (k := 1)  rfl vi_9 hS rfl rfl rfl (.inr rfl) ?_)
  refine w_read rfl rfl (s_ldo (k := 2)  rfl vi_29 hS rfl rfl rfl (.inl rfl) ?_)
  refine w_read rfl rfl (s_ldo (k := 1)  rfl vi_29 hS rfl rfl rfl (.inl rfl) ?_)
  refine w_grow rfl rfl (s_call Tryz.call29 rfl (N_mul p.num.natAbs q.num.natAbs _ (by omega) (by omega)) ?_)
  rintro _ wc13 ⟨rfl, hBc13⟩
  replace hS := hS.grow hBc13
  refine ⟨hBc13, ?_⟩
  refine w_grow rfl rfl (s_call Tryz.call30 rfl (den_ok p _) ?_)
  rintro _ wc14 ⟨rfl, hBc14⟩
  replace hS := hS.grow hBc14
  refine ⟨hBc14, ?_⟩
  refine w_grow rfl rfl (s_call Tryz.call30 rfl (den_ok q _) ?_)
  rintro _ wc15 ⟨rfl, hBc15⟩
  replace hS := hS.grow hBc15
  refine ⟨hBc15, ?_⟩
  refine w_grow rfl rfl (s_call Tryz.call29 rfl (N_mul p.den q.den _ (by omega) (by omega)) ?_)
  rintro _ wc16 ⟨rfl, hBc16⟩
  replace hS := hS.grow hBc16
  refine ⟨hBc16, ?_⟩
  refine w_grow rfl rfl (s_call Tryz.call57 rfl (hred _) ?_)
  rintro _ wc17 ⟨rfl, hBc17⟩
  replace hS := hS.grow hBc17
  refine ⟨hBc17, ?_⟩
  refine w_free rfl rfl (s_sta (k := 0)  rfl rfl vi_29 hS rfl rfl rfl (Nat.le_of_ble_eq_true rfl) rfl ?_)
  intro wz18 hS
  refine w_end ?_
  repeat (with_reducible first | refine c_seq ?_ | refine c_block ?_ | refine c_skip ?_ | refine x_then ?_ | refine x_block ?_)
  refine c_ret ?_
  repeat (with_reducible first | refine x_then_ret ?_ | refine x_block_ret ?_)
  refine r_cell (k := 0) rfl rfl vi_29 hS rfl rfl ?_
  exact ⟨rfl, hS.below⟩
theorem QMake_ok (b : Bool) (num den : ByteArray) (w : World) (hn : num.size ≤ 2 * MX) (hd : den.size ≤ 2 * MX) (h0 : val den ≠ 0) :
    Ret Tryz.prog 103 #[.bool b, .string num, .string den] w fun v w' => v = .tuple #[aggR (ofQ (mkRat (sg b (val num)) (val den))), .bool true] ∧ Below w.heap.size w w' := by
  have hM : MX = 1099511627776 := rfl
  have hS := St.init w
  refine enter Tryz.func103 rfl Tryz.ntmps103 rfl ?_
  repeat (with_reducible first | refine c_seq ?_ | refine c_block ?_ | refine c_skip ?_ | refine x_then ?_ | refine x_block ?_)
  refine c_reg ?_
  refine l_heavy rfl (s_alloc  vi_29 hS ?_)
  intro b1 wz2 hS hBz2
  refine l_pure rfl (s_asg  rfl ?_)
  refine l_nil ?_
  repeat (with_reducible first | refine c_seq ?_ | refine c_block ?_ | refine c_skip ?_ | refine x_then ?_ | refine x_block ?_)
  refine c_reg ?_
  refine l_pure rfl (s_move  rfl ?_)
  refine l_heavy rfl (s_call Tryz.call52 rfl (Normalize_ok _ _ (show den.size ≤ _ by omega)) ?_)
  rintro _ wq3 ⟨rfl, hq3⟩
  replace hq3 := hq3.symm
  subst hq3
  refine l_pure rfl (s_eqs  rfl rfl ?_)
  refine l_nil ?_
  repeat (with_reducible first | refine c_seq ?_ | refine c_block ?_ | refine c_skip ?_ | refine x_then ?_ | refine x_block ?_)
  refine c_no rfl (decide_eq_false (fun h => h0 (natS_nil.1 h))) ?_
  repeat (with_reducible first | refine c_seq ?_ | refine c_block ?_ | refine c_skip ?_ | refine x_then ?_ | refine x_block ?_)
  refine c_reg ?_
  refine l_pure rfl (s_move  rfl ?_)
  refine l_pure rfl (s_move  rfl ?_)
  refine l_pure rfl (s_move  rfl ?_)
  refine l_heavy rfl (s_call Tryz.call57 rfl (reduced_ok b num den _ hn hd h0) ?_)
  rintro _ wc4 ⟨rfl, hBc4⟩
  replace hS := hS.grow hBc4
  refine l_heavy rfl (s_sta (k := 0)  rfl rfl vi_29 hS rfl rfl rfl (Nat.le_of_ble_eq_true rfl) rfl ?_)
  intro wz5 hS
  refine l_pure rfl (s_asg  rfl ?_)
  refine l_nil ?_
  repeat (with_reducible first | refine c_seq ?_ | refine c_block ?_ | refine c_skip ?_ | refine x_then ?_ | refine x_block ?_)
  refine c_ret ?_
  repeat (with_reducible first | refine x_then_ret ?_ | refine x_block_ret ?_)
  refine r_cell_tmp (k := 0) rfl rfl rfl vi_29 hS rfl rfl ?_
  exact ⟨rfl, hS.below⟩
set_option maxHeartbeats 1000000 in
theorem QDivide_ok (r s : RR) (w : World) (hr : Lr r + Lr s ≤ MX) (hs : toQ s ≠ 0) :
    Ret Tryz.prog 76 #[aggR r, aggR s] w fun v w' => v = .tuple #[aggR (ofQ (toQ r / toQ s)), .bool true] ∧ Below w.heap.size w w' := by
  have hM : MX = 1099511627776 := rfl
  have hL1 := L_toQ r
  have hL2 := L_toQ s
  obtain ⟨p, hp⟩ : ∃ p, p = toQ r := ⟨_, rfl⟩
  obtain ⟨q, hq⟩ : ∃ q, q = toQ s := ⟨_, rfl⟩
  have hc1 := fun w => clean_ok r w (show Lr r ≤ MX by omega)
  have hc2 := fun w => clean_ok s w (show Lr s ≤ MX by omega)
  unfold fx at hc1 hc2
  rw [← hp] at hL1 hc1 ⊢
  rw [← hq] at hL2 hc2 hs ⊢
  have hn1 := L_num p
  have hn2 := L_num q
  have hd1 := L_den p
  have hd2 := L_den q
  have hm1 := natS_size_mul p.num.natAbs q.den
  have hm2 := natS_size_mul p.den q.num.natAbs
  have hqn : q.num.natAbs ≠ 0 := fun h => hs (Rat.num_eq_zero.1 (Int.natAbs_eq_zero.1 h))
  have hD2 : val (natS (p.den * q.num.natAbs)) ≠ 0 := by rw [val_natS]; exact Nat.mul_ne_zero p.den_nz hqn
  have hred := fun w => QMake_ok (decide (p.num < 0) != decide (q.num < 0)) (natS (p.num.natAbs * q.den)) (natS (p.den * q.num.natAbs)) w (by omega) (by omega) hD2
  rw [val_natS, val_natS, divQ_eq] at hred
  have hS := St.init w
  refine enter Tryz.func76 rfl Tryz.ntmps76 rfl ?_
  repeat (with_reducible first | refine c_seq ?_ | refine c_block ?_ | refine c_skip ?_ | refine x_then ?_ | refine x_block ?_)
  refine c_reg ?_
  refine l_heavy rfl (s_box (new := encR r)  rfl rfl hS ?_)
  intro b1 wz2 hS hBz2
  refine l_heavy rfl (s_box (new := encR s)  rfl rfl hS ?_)
  intro b3 wz4 hS hBz4
  refine l_heavy rfl (s_alloc  vi_29 hS ?_)
  intro b5 wz6 hS hBz6
  refine l_pure rfl (s_asg  rfl ?_)
  refine l_nil ?_
  repeat (with_reducible first | refine c_seq ?_ | refine c_block ?_ | refine c_skip ?_ | refine x_then ?_ | refine x_block ?_)
  refine c_draw [(0, .read), (2, .read), (1, .grow), (3, .grow), (4, .free), (5, .free)] (by kernel_rfl) (by kernel_rfl) hS ?_
  intro wz7 hS hBz7
  refine w_read rfl rfl (s_ldo (k := 2)  rfl vi_29 hS rfl rfl rfl (.inl rfl) ?_)
  refine w_read rfl rfl (s_ldo (k := 1)  rfl vi_29 hS rfl rfl rfl (.inl rfl) ?_)
  refine w_grow rfl rfl (s_call Tryz.call27 rfl (hc1 _) ?_)
  rintro _ wc8 ⟨rfl, hBc8⟩
  replace hS := hS.grow hBc8
  refine ⟨hBc8, ?_⟩
  refine w_grow rfl rfl (s_call Tryz.call27 rfl (hc2 _) ?_)
  rintro _ wc9 ⟨rfl, hBc9⟩
  replace hS := hS.grow hBc9
  refine ⟨hBc9, ?_⟩
  refine w_free rfl rfl (s_sta (k := 2)  rfl rfl vi_29 hS rfl rfl rfl (Nat.le_of_ble_eq_true rfl) rfl ?_)
  intro wz10 hS
  refine w_free rfl rfl (s_sta (k := 1)  rfl rfl vi_29 hS rfl rfl rfl (Nat.le_of_ble_eq_true rfl) rfl ?_)
  intro wz11 hS
  refine w_end ?_
  repeat (with_reducible first | refine c_seq ?_ | refine c_block ?_ | refine c_skip ?_ | refine x_then ?_ | refine x_block ?_)
  refine c_draw [(0, .pure), (1, .read), (2, .pure), (3, .read), (4, .pure), (5, .pure), (6, .read), (7, .read), (10, .read), (12, .pure), (13, .read), (8, .grow), (9, .grow), (11, .grow), (14, .grow), (15, .grow), (16, .pure), (17, .pure), (18, .free), (19, .pure)] (by kernel_rfl) (by kernel_rfl) hS ?_
  intro wz12 hS hBz12
  refine w_pure rfl rfl (s_fld  rfl fo_29_0 ?_)
  refine w_read rfl rfl (s_ldo (k := 2)  rfl vi_4 hS rfl rfl rfl (.inr rfl) ?_)
  refine w_pure rfl rfl (s_fld  rfl fo_29_0 ?_)
  refine w_read rfl rfl (s_ldo (k := 1)  rfl vi_4 hS rfl rfl rfl (.inr rfl) ?_)
  refine w_pure rfl rfl (s_neb  rfl rfl Tryz.underlying4 ?_)
  refine w_pure rfl rfl (s_fld  rfl fo_29_1 ?_)
  refine w_read rfl rfl (s_ldo (k := 2)  rfl vi_9 hS rfl rfl rfl (.inr rfl) ?_)
  refine w_read rfl rfl (s_ldo (k := 1)  rfl vi_29 hS rfl rfl rfl (.inl rfl) ?_)
  refine w_read rfl rfl (s_ldo (k := 2)  rfl vi_29 hS rfl rfl rfl (.inl rfl) ?_)
  refine w_pure rfl rfl (s_fld  rfl fo_29_1 ?_)
  refine w_read rfl rfl (s_ldo (k := 1)  rfl vi_9 hS rfl rfl rfl (.inr rfl) ?_)
  refine w_grow rfl rfl (s_call Tryz.call30 rfl (den_ok q _) ?_)
  rintro _ wc13 ⟨rfl, hBc13⟩
  replace hS := hS.grow hBc13
  refine ⟨hBc13, ?_⟩
  refine w_grow rfl rfl (s_call Tryz.call29 rfl (N_mul p.num.natAbs q.den _ (by omega) (by omega)) ?_)
  rintro _ wc14 ⟨rfl, hBc14⟩
  replace hS := hS.grow hBc14
  refine ⟨hBc14, ?_⟩
  refine w_grow rfl rfl (s_call Tryz.call30 rfl (den_ok p _) ?_)
  rintro _ wc15 ⟨rfl, hBc15⟩
  replace hS := hS.grow hBc15
  refine ⟨hBc15, ?_⟩
  refine w_grow rfl rfl (s_call Tryz.call29 rfl (N_mul p.den q.num.natAbs _ (by omega) (by omega)) ?_)
  rintro _ wc16 ⟨rfl, hBc16⟩
  replace hS := hS.grow hBc16
  refine ⟨hBc16, ?_⟩
  refine w_grow rfl rfl (s_call Tryz.call103 rfl (hred _) ?_)
  rintro _ wc17 ⟨rfl, hBc17⟩
  replace hS := hS.grow hBc17
  refine ⟨hBc17, ?_⟩
  refine w_pure rfl rfl (s_ext  rfl rfl ?_)
  refine w_pure rfl rfl (s_ext  rfl rfl ?_)
  refine w_free rfl rfl (s_sta (k := 0)  rfl rfl vi_29 hS rfl rfl rfl (Nat.le_of_ble_eq_true rfl) rfl ?_)
  intro wz18 hS
  refine w_pure rfl rfl (s_asg  rfl ?_)
  refine w_end ?_
  repeat (with_reducible first | refine c_seq ?_ | refine c_block ?_ | refine c_skip ?_ | refine x_then ?_ | refine x_block ?_)
  refine c_ret ?_
  repeat (with_reducible first | refine x_then_ret ?_ | refine x_block_ret ?_)
  refine r_cell_tmp (k := 0) rfl rfl rfl vi_29 hS rfl rfl ?_
  exact ⟨rfl, hS.below⟩
end Go.Proofs.YtdafaibhiobpaabGreatDoor
