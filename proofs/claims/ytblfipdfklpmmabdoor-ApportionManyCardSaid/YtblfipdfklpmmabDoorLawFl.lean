/-
  Walks: integer parts, and numbers as machine integers (program).
-/
import Derived.Test.YtblfipdfklpmmabDoorLawSo
namespace Go.Proofs.YtblfipdfklpmmabDoor
open Go Go.RowKit Go.Sx

theorem sg_mul (p q : Rat) (X Y : Nat) : mkRat (sg (decide (p.num < 0) != decide (q.num < 0)) X) Y = mkRat (sg (decide (p.num < 0)) 1 * sg (decide (q.num < 0)) 1 * X) Y := by
  congr 1
  by_cases h1 : p.num < 0 <;> by_cases h2 : q.num < 0 <;> simp [h1, h2, sg]
theorem sg_abs (n : Int) : sg (decide (n < 0)) 1 * (n.natAbs : Int) = n := by
  by_cases h : n < 0
  · simp [h, sg]; omega
  · simp [h, sg]; omega
theorem mulQ_eq (p q : Rat) : mkRat (sg (decide (p.num < 0) != decide (q.num < 0)) (p.num.natAbs * q.num.natAbs)) (p.den * q.den) = p * q := by
  rw [sg_mul]
  have e : sg (decide (p.num < 0)) 1 * sg (decide (q.num < 0)) 1 * ((p.num.natAbs * q.num.natAbs : Nat) : Int) = p.num * q.num := by
    have h1 := sg_abs p.num
    have h2 := sg_abs q.num
    calc _ = (sg (decide (p.num < 0)) 1 * (p.num.natAbs : Int)) * (sg (decide (q.num < 0)) 1 * (q.num.natAbs : Int)) := by push_cast; grind
      _ = _ := by rw [h1, h2]
  rw [e]
  conv => rhs; rw [← Rat.mkRat_self p, ← Rat.mkRat_self q]
  exact (Rat.mkRat_mul_mkRat _ _ _ _).symm
theorem divQ_eq (p q : Rat) : mkRat (sg (decide (p.num < 0) != decide (q.num < 0)) (p.num.natAbs * q.den)) (p.den * q.num.natAbs) = p / q := by
  by_cases hq : q = 0
  · subst hq
    simp [Rat.mkRat_zero, Rat.div_def]
  have hqn : q.num.natAbs ≠ 0 := fun h => hq (Rat.num_eq_zero.1 (Int.natAbs_eq_zero.1 h))
  have key : mkRat (sg (decide (p.num < 0) != decide (q.num < 0)) (p.num.natAbs * q.den)) (p.den * q.num.natAbs) * q = p := by
    rw [sg_mul]
    conv => lhs; rhs; rw [← Rat.mkRat_self q]
    rw [Rat.mkRat_mul_mkRat]
    have h1 := sg_abs p.num
    have h2 := sg_abs q.num
    have hs : sg (decide (q.num < 0)) 1 * sg (decide (q.num < 0)) 1 = 1 := by
      by_cases h : q.num < 0 <;> simp [h, sg]
    have e : sg (decide (p.num < 0)) 1 * sg (decide (q.num < 0)) 1 * ((p.num.natAbs * q.den : Nat) : Int) * q.num = p.num * ((q.num.natAbs * q.den : Nat) : Int) := by
      calc _ = (sg (decide (p.num < 0)) 1 * (p.num.natAbs : Int)) * (sg (decide (q.num < 0)) 1 * q.num * (q.den : Int)) := by push_cast; grind
        _ = p.num * (sg (decide (q.num < 0)) 1 * (sg (decide (q.num < 0)) 1 * (q.num.natAbs : Int)) * (q.den : Int)) := by rw [h1, h2]
        _ = p.num * ((sg (decide (q.num < 0)) 1 * sg (decide (q.num < 0)) 1) * (q.num.natAbs : Int) * (q.den : Int)) := by grind
        _ = _ := by rw [hs]; push_cast; grind
    rw [e, Nat.mul_assoc]
    have := Rat.mkRat_mul_right (n := p.num) (d := p.den) (a := q.num.natAbs * q.den) (Nat.mul_ne_zero hqn q.den_nz)
    rw [this, Rat.mkRat_self]
  rw [← key, Rat.div_def, Rat.mul_assoc, Rat.mul_inv_cancel _ hq, Rat.mul_one, key]

set_option maxHeartbeats 1000000 in
theorem QMultiply_ok (r s : RR) (w : World) (hr : Lr r + Lr s ≤ MX) :
    Ret Tryd.prog 19 #[aggR r, aggR s] w fun v w' => v = aggR (ofQ (toQ r * toQ s)) ∧ Below w.heap.size w w' := by
  have hM : MX = 1099511627776 := rfl
  have hL1 := L_toQ r
  have hL2 := L_toQ s
  obtain ⟨p, hp⟩ : ∃ p, p = toQ r := ⟨_, rfl⟩
  obtain ⟨q, hq⟩ : ∃ q, q = toQ s := ⟨_, rfl⟩
  have hc1 := fun w => clean_ok r w (show Lr r ≤ MX by omega)
  have hc2 := fun w => clean_ok s w (show Lr s ≤ MX by omega)
  unfold fx at hc1 hc2
  rw [← hp] at hL1 hc1 ⊢
  rw [← hq] at hL2 hc2 ⊢
  have hn1 := L_num p
  have hn2 := L_num q
  have hd1 := L_den p
  have hd2 := L_den q
  have hm1 := natS_size_mul p.num.natAbs q.num.natAbs
  have hm2 := natS_size_mul p.den q.den
  have hD2 : val (natS (p.den * q.den)) ≠ 0 := by rw [val_natS]; exact Nat.mul_ne_zero p.den_nz q.den_nz
  have hred := fun w => reduced_ok (decide (p.num < 0) != decide (q.num < 0)) (natS (p.num.natAbs * q.num.natAbs)) (natS (p.den * q.den)) w (by omega) (by omega) hD2
  rw [val_natS, val_natS, mulQ_eq] at hred
  have hS := St.init w
  refine enter Tryd.func19 rfl Tryd.ntmps19 rfl ?_
  repeat (with_reducible first | refine c_seq ?_ | refine c_block ?_ | refine c_skip ?_ | refine x_then ?_ | refine x_block ?_)
  refine c_reg ?_
  refine l_heavy rfl (s_box (new := encR r)  rfl rfl hS ?_)
  intro b1 wz2 hS hBz2
  refine l_heavy rfl (s_box (new := encR s)  rfl rfl hS ?_)
  intro b3 wz4 hS hBz4
  refine l_heavy rfl (s_alloc  vi_25 hS ?_)
  intro b5 wz6 hS hBz6
  refine l_nil ?_
  repeat (with_reducible first | refine c_seq ?_ | refine c_block ?_ | refine c_skip ?_ | refine x_then ?_ | refine x_block ?_)
  refine c_draw [(0, .read), (2, .read), (1, .grow), (3, .grow), (4, .free), (5, .free)] (by kernel_rfl) (by kernel_rfl) hS ?_
  intro wz7 hS hBz7
  refine w_read rfl rfl (s_ldo (k := 2)  rfl vi_25 hS rfl rfl rfl (.inl rfl) ?_)
  refine w_read rfl rfl (s_ldo (k := 1)  rfl vi_25 hS rfl rfl rfl (.inl rfl) ?_)
  refine w_grow rfl rfl (s_call Tryd.call28 rfl (hc1 _) ?_)
  rintro _ wc8 ⟨rfl, hBc8⟩
  replace hS := hS.grow hBc8
  refine ⟨hBc8, ?_⟩
  refine w_grow rfl rfl (s_call Tryd.call28 rfl (hc2 _) ?_)
  rintro _ wc9 ⟨rfl, hBc9⟩
  replace hS := hS.grow hBc9
  refine ⟨hBc9, ?_⟩
  refine w_free rfl rfl (s_sta (k := 2)  rfl rfl vi_25 hS rfl rfl rfl (Nat.le_of_ble_eq_true rfl) rfl ?_)
  intro wz10 hS
  refine w_free rfl rfl (s_sta (k := 1)  rfl rfl vi_25 hS rfl rfl rfl (Nat.le_of_ble_eq_true rfl) rfl ?_)
  intro wz11 hS
  refine w_end ?_
  repeat (with_reducible first | refine c_seq ?_ | refine c_block ?_ | refine c_skip ?_ | refine x_then ?_ | refine x_block ?_)
  refine c_draw [(0, .pure), (1, .read), (2, .pure), (3, .read), (4, .pure), (5, .pure), (6, .read), (7, .pure), (8, .read), (10, .read), (12, .read), (9, .grow), (11, .grow), (13, .grow), (14, .grow), (15, .grow), (16, .free)] (by kernel_rfl) (by kernel_rfl) hS ?_
  intro wz12 hS hBz12
  refine w_pure rfl rfl (s_fld  rfl fo_25_0 ?_)
  refine w_read rfl rfl (s_ldo (k := 2)  rfl vi_4 hS rfl rfl rfl (.inr rfl) ?_)
  refine w_pure rfl rfl (s_fld  rfl fo_25_0 ?_)
  refine w_read rfl rfl (s_ldo (k := 1)  rfl vi_4 hS rfl rfl rfl (.inr rfl) ?_)
  refine w_pure rfl rfl (s_neb  rfl rfl Tryd.underlying4 ?_)
  refine w_pure rfl rfl (s_fld  rfl fo_25_1 ?_)
  refine w_read rfl rfl (s_ldo (k := 2)  rfl vi_9 hS rfl rfl rfl (.inr rfl) ?_)
  refine w_pure rfl rfl (s_fld  rfl fo_25_1 ?_)
  refine w_read rfl rfl (s_ldo (k := 1)  rfl vi_9 hS rfl rfl rfl (.inr rfl) ?_)
  refine w_read rfl rfl (s_ldo (k := 2)  rfl vi_25 hS rfl rfl rfl (.inl rfl) ?_)
  refine w_read rfl rfl (s_ldo (k := 1)  rfl vi_25 hS rfl rfl rfl (.inl rfl) ?_)
  refine w_grow rfl rfl (s_call Tryd.call37 rfl (N_mul p.num.natAbs q.num.natAbs _ (by omega) (by omega)) ?_)
  rintro _ wc13 ⟨rfl, hBc13⟩
  replace hS := hS.grow hBc13
  refine ⟨hBc13, ?_⟩
  refine w_grow rfl rfl (s_call Tryd.call31 rfl (den_ok p _) ?_)
  rintro _ wc14 ⟨rfl, hBc14⟩
  replace hS := hS.grow hBc14
  refine ⟨hBc14, ?_⟩
  refine w_grow rfl rfl (s_call Tryd.call31 rfl (den_ok q _) ?_)
  rintro _ wc15 ⟨rfl, hBc15⟩
  replace hS := hS.grow hBc15
  refine ⟨hBc15, ?_⟩
  refine w_grow rfl rfl (s_call Tryd.call37 rfl (N_mul p.den q.den _ (by omega) (by omega)) ?_)
  rintro _ wc16 ⟨rfl, hBc16⟩
  replace hS := hS.grow hBc16
  refine ⟨hBc16, ?_⟩
  refine w_grow rfl rfl (s_call Tryd.call8 rfl (hred _) ?_)
  rintro _ wc17 ⟨rfl, hBc17⟩
  replace hS := hS.grow hBc17
  refine ⟨hBc17, ?_⟩
  refine w_free rfl rfl (s_sta (k := 0)  rfl rfl vi_25 hS rfl rfl rfl (Nat.le_of_ble_eq_true rfl) rfl ?_)
  intro wz18 hS
  refine w_end ?_
  repeat (with_reducible first | refine c_seq ?_ | refine c_block ?_ | refine c_skip ?_ | refine x_then ?_ | refine x_block ?_)
  refine c_ret ?_
  repeat (with_reducible first | refine x_then_ret ?_ | refine x_block_ret ?_)
  refine r_cell (k := 0) rfl rfl vi_25 hS rfl rfl ?_
  exact ⟨rfl, hS.below⟩
theorem QMake_ok (b : Bool) (num den : ByteArray) (w : World) (hn : num.size ≤ 2 * MX) (hd : den.size ≤ 2 * MX) (h0 : val den ≠ 0) :
    Ret Tryd.prog 38 #[.bool b, .string num, .string den] w fun v w' => v = .tuple #[aggR (ofQ (mkRat (sg b (val num)) (val den))), .bool true] ∧ Below w.heap.size w w' := by
  have hM : MX = 1099511627776 := rfl
  have hS := St.init w
  refine enter Tryd.func38 rfl Tryd.ntmps38 rfl ?_
  repeat (with_reducible first | refine c_seq ?_ | refine c_block ?_ | refine c_skip ?_ | refine x_then ?_ | refine x_block ?_)
  refine c_reg ?_
  refine l_heavy rfl (s_alloc  vi_25 hS ?_)
  intro b1 wz2 hS hBz2
  refine l_pure rfl (s_asg  rfl ?_)
  refine l_nil ?_
  repeat (with_reducible first | refine c_seq ?_ | refine c_block ?_ | refine c_skip ?_ | refine x_then ?_ | refine x_block ?_)
  refine c_reg ?_
  refine l_pure rfl (s_move  rfl ?_)
  refine l_heavy rfl (s_call Tryd.call21 rfl (Normalize_ok _ _ (show den.size ≤ _ by omega)) ?_)
  rintro _ wq3 ⟨rfl, hq3⟩
  replace hq3 := hq3.symm
  subst hq3
  refine l_pure rfl (s_eqs  rfl rfl ?_)
  refine l_nil ?_
  repeat (with_reducible first | refine c_seq ?_ | refine c_block ?_ | refine c_skip ?_ | refine x_then ?_ | refine x_block ?_)
  refine c_no rfl (decide_eq_false (fun h => h0 (natS_nil.1 h))) ?_
  repeat (with_reducible first | refine c_seq ?_ | refine c_block ?_ | refine c_skip ?_ | refine x_then ?_ | refine x_block ?_)
  refine c_reg ?_
  refine l_pure rfl (s_move  rfl ?_)
  refine l_pure rfl (s_move  rfl ?_)
  refine l_pure rfl (s_move  rfl ?_)
  refine l_heavy rfl (s_call Tryd.call8 rfl (reduced_ok b num den _ hn hd h0) ?_)
  rintro _ wc4 ⟨rfl, hBc4⟩
  replace hS := hS.grow hBc4
  refine l_heavy rfl (s_sta (k := 0)  rfl rfl vi_25 hS rfl rfl rfl (Nat.le_of_ble_eq_true rfl) rfl ?_)
  intro wz5 hS
  refine l_pure rfl (s_asg  rfl ?_)
  refine l_nil ?_
  repeat (with_reducible first | refine c_seq ?_ | refine c_block ?_ | refine c_skip ?_ | refine x_then ?_ | refine x_block ?_)
  refine c_ret ?_
  repeat (with_reducible first | refine x_then_ret ?_ | refine x_block_ret ?_)
  refine r_cell_tmp (k := 0) rfl rfl rfl vi_25 hS rfl rfl ?_
  exact ⟨rfl, hS.below⟩
set_option maxHeartbeats 1000000 in
theorem QDivide_ok (r s : RR) (w : World) (hr : Lr r + Lr s ≤ MX) (hs : toQ s ≠ 0) :
    Ret Tryd.prog 18 #[aggR r, aggR s] w fun v w' => v = .tuple #[aggR (ofQ (toQ r / toQ s)), .bool true] ∧ Below w.heap.size w w' := by
  have hM : MX = 1099511627776 := rfl
  have hL1 := L_toQ r
  have hL2 := L_toQ s
  obtain ⟨p, hp⟩ : ∃ p, p = toQ r := ⟨_, rfl⟩
  obtain ⟨q, hq⟩ : ∃ q, q = toQ s := ⟨_, rfl⟩
  have hc1 := fun w => clean_ok r w (show Lr r ≤ MX by omega)
  have hc2 := fun w => clean_ok s w (show Lr s ≤ MX by omega)
  unfold fx at hc1 hc2
  rw [← hp] at hL1 hc1 ⊢
  rw [← hq] at hL2 hc2 hs ⊢
  have hn1 := L_num p
  have hn2 := L_num q
  have hd1 := L_den p
  have hd2 := L_den q
  have hm1 := natS_size_mul p.num.natAbs q.den
  have hm2 := natS_size_mul p.den q.num.natAbs
  have hqn : q.num.natAbs ≠ 0 := fun h => hs (Rat.num_eq_zero.1 (Int.natAbs_eq_zero.1 h))
  have hD2 : val (natS (p.den * q.num.natAbs)) ≠ 0 := by rw [val_natS]; exact Nat.mul_ne_zero p.den_nz hqn
  have hred := fun w => QMake_ok (decide (p.num < 0) != decide (q.num < 0)) (natS (p.num.natAbs * q.den)) (natS (p.den * q.num.natAbs)) w (by omega) (by omega) hD2
  rw [val_natS, val_natS, divQ_eq] at hred
  have hS := St.init w
  refine enter Tryd.func18 rfl Tryd.ntmps18 rfl ?_
  repeat (with_reducible first | refine c_seq ?_ | refine c_block ?_ | refine c_skip ?_ | refine x_then ?_ | refine x_block ?_)
  refine c_reg ?_
  refine l_heavy rfl (s_box (new := encR r)  rfl rfl hS ?_)
  intro b1 wz2 hS hBz2
  refine l_heavy rfl (s_box (new := encR s)  rfl rfl hS ?_)
  intro b3 wz4 hS hBz4
  refine l_heavy rfl (s_alloc  vi_25 hS ?_)
  intro b5 wz6 hS hBz6
  refine l_pure rfl (s_asg  rfl ?_)
  refine l_nil ?_
  repeat (with_reducible first | refine c_seq ?_ | refine c_block ?_ | refine c_skip ?_ | refine x_then ?_ | refine x_block ?_)
  refine c_draw [(0, .read), (2, .read), (1, .grow), (3, .grow), (4, .free), (5, .free)] (by kernel_rfl) (by kernel_rfl) hS ?_
  intro wz7 hS hBz7
  refine w_read rfl rfl (s_ldo (k := 2)  rfl vi_25 hS rfl rfl rfl (.inl rfl) ?_)
  refine w_read rfl rfl (s_ldo (k := 1)  rfl vi_25 hS rfl rfl rfl (.inl rfl) ?_)
  refine w_grow rfl rfl (s_call Tryd.call28 rfl (hc1 _) ?_)
  rintro _ wc8 ⟨rfl, hBc8⟩
  replace hS := hS.grow hBc8
  refine ⟨hBc8, ?_⟩
  refine w_grow rfl rfl (s_call Tryd.call28 rfl (hc2 _) ?_)
  rintro _ wc9 ⟨rfl, hBc9⟩
  replace hS := hS.grow hBc9
  refine ⟨hBc9, ?_⟩
  refine w_free rfl rfl (s_sta (k := 2)  rfl rfl vi_25 hS rfl rfl rfl (Nat.le_of_ble_eq_true rfl) rfl ?_)
  intro wz10 hS
  refine w_free rfl rfl (s_sta (k := 1)  rfl rfl vi_25 hS rfl rfl rfl (Nat.le_of_ble_eq_true rfl) rfl ?_)
  intro wz11 hS
  refine w_end ?_
  repeat (with_reducible first | refine c_seq ?_ | refine c_block ?_ | refine c_skip ?_ | refine x_then ?_ | refine x_block ?_)
  refine c_draw [(0, .pure), (1, .read), (2, .pure), (3, .read), (4, .pure), (5, .pure), (6, .read), (7, .read), (10, .read), (12, .pure), (13, .read), (8, .grow), (9, .grow), (11, .grow), (14, .grow), (15, .grow), (16, .pure), (17, .pure), (18, .free), (19, .pure)] (by kernel_rfl) (by kernel_rfl) hS ?_
  intro wz12 hS hBz12
  refine w_pure rfl rfl (s_fld  rfl fo_25_0 ?_)
  refine w_read rfl rfl (s_ldo (k := 2)  rfl vi_4 hS rfl rfl rfl (.inr rfl) ?_)
  refine w_pure rfl rfl (s_fld  rfl fo_25_0 ?_)
  refine w_read rfl rfl (s_ldo (k := 1)  rfl vi_4 hS rfl rfl rfl (.inr rfl) ?_)
  refine w_pure rfl rfl (s_neb  rfl rfl Tryd.underlying4 ?_)
  refine w_pure rfl rfl (s_fld  rfl fo_25_1 ?_)
  refine w_read rfl rfl (s_ldo (k := 2)  rfl vi_9 hS rfl rfl rfl (.inr rfl) ?_)
  refine w_read rfl rfl (s_ldo (k := 1)  rfl vi_25 hS rfl rfl rfl (.inl rfl) ?_)
  refine w_read rfl rfl (s_ldo (k := 2)  rfl vi_25 hS rfl rfl rfl (.inl rfl) ?_)
  refine w_pure rfl rfl (s_fld  rfl fo_25_1 ?_)
  refine w_read rfl rfl (s_ldo (k := 1)  rfl vi_9 hS rfl rfl rfl (.inr rfl) ?_)
  refine w_grow rfl rfl (s_call Tryd.call31 rfl (den_ok q _) ?_)
  rintro _ wc13 ⟨rfl, hBc13⟩
  replace hS := hS.grow hBc13
  refine ⟨hBc13, ?_⟩
  refine w_grow rfl rfl (s_call Tryd.call37 rfl (N_mul p.num.natAbs q.den _ (by omega) (by omega)) ?_)
  rintro _ wc14 ⟨rfl, hBc14⟩
  replace hS := hS.grow hBc14
  refine ⟨hBc14, ?_⟩
  refine w_grow rfl rfl (s_call Tryd.call31 rfl (den_ok p _) ?_)
  rintro _ wc15 ⟨rfl, hBc15⟩
  replace hS := hS.grow hBc15
  refine ⟨hBc15, ?_⟩
  refine w_grow rfl rfl (s_call Tryd.call37 rfl (N_mul p.den q.num.natAbs _ (by omega) (by omega)) ?_)
  rintro _ wc16 ⟨rfl, hBc16⟩
  replace hS := hS.grow hBc16
  refine ⟨hBc16, ?_⟩
  refine w_grow rfl rfl (s_call Tryd.call38 rfl (hred _) ?_)
  rintro _ wc17 ⟨rfl, hBc17⟩
  replace hS := hS.grow hBc17
  refine ⟨hBc17, ?_⟩
  refine w_pure rfl rfl (s_ext  rfl rfl ?_)
  refine w_pure rfl rfl (s_ext  rfl rfl ?_)
  refine w_free rfl rfl (s_sta (k := 0)  rfl rfl vi_25 hS rfl rfl rfl (Nat.le_of_ble_eq_true rfl) rfl ?_)
  intro wz18 hS
  refine w_pure rfl rfl (s_asg  rfl ?_)
  refine w_end ?_
  repeat (with_reducible first | refine c_seq ?_ | refine c_block ?_ | refine c_skip ?_ | refine x_then ?_ | refine x_block ?_)
  refine c_ret ?_
  repeat (with_reducible first | refine x_then_ret ?_ | refine x_block_ret ?_)
  refine r_cell_tmp (k := 0) rfl rfl rfl vi_25 hS rfl rfl ?_
  exact ⟨rfl, hS.below⟩
end Go.Proofs.YtblfipdfklpmmabDoor
namespace Go.Proofs.YtblfipdfklpmmabDoor
open Go Go.RowKit Go.Sx

/-! ### Plain facts -/
/-- The magnitude of an integer part. -/
def flN (q : Rat) : Nat := if q.num < 0 ∧ q.num.natAbs % q.den ≠ 0 then q.num.natAbs / q.den + 1 else q.num.natAbs / q.den
theorem flN_eq (q : Rat) : sg (decide (q.num < 0)) (flN q) = q.floor := by
  rw [Rat.floor_def]
  have hd : 0 < q.den := Nat.pos_of_ne_zero q.den_nz
  unfold flN sg
  generalize q.num = z
  generalize q.den = d at *
  by_cases h : z < 0
  · obtain ⟨m, rfl⟩ : ∃ m : Nat, z = -(m : Int) := ⟨z.natAbs, by omega⟩
    rw [decide_eq_true h, if_pos rfl, Int.natAbs_neg, Int.natAbs_natCast, Int.neg_ediv]
    by_cases g : m % d = 0
    · rw [if_neg (fun e => e.2 g), if_pos (Int.natCast_dvd_natCast.2 (Nat.dvd_of_mod_eq_zero g)), Int.natCast_ediv]; omega
    · rw [if_pos ⟨h, g⟩, if_neg (fun e => g (Nat.mod_eq_zero_of_dvd (Int.natCast_dvd_natCast.1 e))), Int.sign_eq_one_of_pos (by omega)]
      push_cast
      omega
  · obtain ⟨m, rfl⟩ : ∃ m : Nat, z = (m : Int) := ⟨z.toNat, by omega⟩
    rw [decide_eq_false h, if_neg (by decide), if_neg (fun e => h e.1), Int.natAbs_natCast, Int.natCast_ediv]
theorem sg_num' (n : Int) : sg (decide (n < 0)) n.natAbs = n := by
  unfold sg
  by_cases h : n < 0
  · rw [decide_eq_true h, if_pos rfl]; omega
  · rw [decide_eq_false h, if_neg (by decide)]; omega
theorem mkRat_fl (q : Rat) : mkRat (sg (decide (q.num < 0)) (flN q)) 1 = ((q.floor : Int) : Rat) := by
  rw [flN_eq]
  have := mkRat_int q.floor
  rw [sg_num'] at this
  exact this
theorem pow256_8 : (256 : Nat) ^ 8 = 18446744073709551616 := by decide
theorem natS_long {V : Nat} : 8 < (natS V).size ↔ 18446744073709551616 ≤ V := by
  rw [← pow256_8]
  constructor
  · intro h
    rcases Nat.lt_or_ge V (256 ^ 8) with g | g
    · have := natS_size_le g; omega
    · exact g
  · intro h
    rcases Nat.lt_or_ge 8 (natS V).size with g | g
    · exact g
    · have h1 := lt_natS_size V
      have h2 : 256 ^ (natS V).size ≤ 256 ^ 8 := Nat.pow_le_pow_right (by decide) g
      omega
theorem or_byte {u d : Nat} (hu : u * 256 < 18446744073709551616) (hd : d < 256) : bitres .or .u64 ((u * 256 : Nat) : Int) (d : Int) = ((256 * u + d : Nat) : Int) := by
  rw [or_nat rfl _ _ hu (by show d < 2 ^ 64; omega)]
  congr 1
  have := Nat.two_pow_add_eq_or_of_lt (i := 8) (b := d) hd u
  rw [show (2 : Nat) ^ 8 = 256 from rfl] at this
  rw [this, Nat.mul_comm]
/-- A number as a machine integer. -/
def i64V (q : Rat) : Int × Bool := if q.den = 1 ∧ -9223372036854775808 ≤ q.num ∧ q.num ≤ 9223372036854775807 then (q.num, true) else (0, false)
theorem i64V_int (z : Int) : i64V (z : Rat) = if -9223372036854775808 ≤ z ∧ z ≤ 9223372036854775807 then (z, true) else (0, false) := by
  unfold i64V
  rw [Rat.num_intCast, Rat.den_intCast]
  by_cases h : -9223372036854775808 ≤ z ∧ z ≤ 9223372036854775807
  · rw [if_pos ⟨rfl, h⟩, if_pos h]
  · rw [if_neg (fun g => h g.2), if_neg h]

/-! ### Walks -/
theorem Uint_ok (V : Nat) (w : World) (hV : (natS V).size ≤ 4398046511104) :
    Ret Tryd.prog 29 #[.string (natS V)] w fun v w' => v = .tuple #[.int .u64 ((if V < 18446744073709551616 then V else 0 : Nat) : Int), .bool (decide (V < 18446744073709551616))] ∧ w' = w := by
  have hlong := natS_long (V := V)
  obtain ⟨s, hs⟩ : ∃ s, s = natS V := ⟨_, rfl⟩
  have hval : val s = V := by rw [hs, val_natS]
  have hnorm := fun w => N_norm V w hV
  rw [← hs] at hlong hV hnorm ⊢
  refine enter Tryd.func29 rfl Tryd.ntmps29 rfl ?_
  repeat (with_reducible first | refine c_seq ?_ | refine c_block ?_ | refine c_skip ?_ | refine x_then ?_ | refine x_block ?_)
  refine c_reg ?_
  refine l_pure rfl (s_asg  rfl ?_)
  refine l_pure rfl (s_asg  rfl ?_)
  refine l_nil ?_
  repeat (with_reducible first | refine c_seq ?_ | refine c_block ?_ | refine c_skip ?_ | refine x_then ?_ | refine x_block ?_)
  refine c_reg ?_
  refine l_pure rfl (s_move  rfl ?_)
  refine l_heavy rfl (s_call Tryd.call21 rfl (hnorm _) ?_)
  rintro r w1 ⟨rfl, rfl⟩
  refine l_pure rfl (s_asg  rfl ?_)
  refine l_nil ?_
  repeat (with_reducible first | refine c_seq ?_ | refine c_block ?_ | refine c_skip ?_ | refine x_then ?_ | refine x_block ?_)
  refine c_reg ?_
  refine l_pure rfl (s_move  rfl ?_)
  refine l_pure rfl (s_lens  rfl Tryd.underlying9 ?_)
  refine l_pure rfl (s_gtr  rfl rfl ?_)
  refine l_nil ?_
  repeat (with_reducible first | refine c_seq ?_ | refine c_block ?_ | refine c_skip ?_ | refine x_then ?_ | refine x_block ?_)
  by_cases h8 : 8 < s.size
  · refine c_yes rfl (decide_eq_true (by omega)) ?_
    repeat (with_reducible first | refine c_seq ?_ | refine c_block ?_ | refine c_skip ?_ | refine x_then ?_ | refine x_block ?_)
    have hnl : ¬ V < 18446744073709551616 := by omega
    rw [if_neg hnl, decide_eq_false hnl]
    repeat (with_reducible first | refine c_seq ?_ | refine c_block ?_ | refine c_skip ?_ | refine x_then ?_ | refine x_block ?_)
    refine c_reg ?_
    refine l_pure rfl (s_asg  rfl ?_)
    refine l_pure rfl (s_asg  rfl ?_)
    refine l_nil ?_
    repeat (with_reducible first | refine c_seq ?_ | refine c_block ?_ | refine c_skip ?_ | refine x_then ?_ | refine x_block ?_)
    refine c_ret ?_
    repeat (with_reducible first | refine x_then_ret ?_ | refine x_block_ret ?_)
    refine r_two rfl rfl rfl ?_
    exact ⟨rfl, rfl⟩
  · refine c_no rfl (decide_eq_false (by omega)) ?_
    repeat (with_reducible first | refine c_seq ?_ | refine c_block ?_ | refine c_skip ?_ | refine x_then ?_ | refine x_block ?_)
    have hlt : V < 18446744073709551616 := by omega
    rw [if_pos hlt, decide_eq_true hlt]
    repeat (with_reducible first | refine c_seq ?_ | refine c_block ?_ | refine c_skip ?_ | refine x_then ?_ | refine x_block ?_)
    refine c_reg ?_
    refine l_pure rfl (s_asg  rfl ?_)
    refine l_nil ?_
    repeat (with_reducible first | refine c_seq ?_ | refine c_block ?_ | refine c_skip ?_ | refine x_then ?_ | refine x_block ?_)
    refine c_reg ?_
    refine l_pure rfl (s_move  rfl ?_)
    refine l_pure rfl (s_lens  rfl Tryd.underlying9 ?_)
    refine l_pure rfl (s_move  rfl ?_)
    refine l_nil ?_
    repeat (with_reducible first | refine c_seq ?_ | refine c_block ?_ | refine c_skip ?_ | refine x_then ?_ | refine x_block ?_)
    have hVs := val_lt s
    rw [hval] at hVs
    refine c_loop (σ := Nat) (fun i ρ w' => i ≤ s.size ∧ ρ 0 = .string s ∧ ρ 4 = .int .u64 ((V / 256 ^ (s.size - i) : Nat) : Int) ∧ ρ 12 = .int .i64 s.size ∧ ρ 13 = .int .i64 i ∧ w' = w1) (fun i => s.size - i) 0
      ⟨Nat.zero_le _, rfl, vi rfl (by rw [Nat.sub_zero, Nat.div_eq_of_lt hVs]; rfl), rfl, rfl, rfl⟩ ?_
    rintro i ρ w2 ⟨hi, h0, h4, h12, h13, rfl⟩
    repeat (with_reducible first | refine c_seq ?_ | refine c_block ?_ | refine c_skip ?_ | refine x_then ?_ | refine x_block ?_)
    refine c_reg ?_
    refine l_pure rfl (s_lss  h13 h12 ?_)
    refine l_nil ?_
    repeat (with_reducible first | refine c_seq ?_ | refine c_block ?_ | refine c_skip ?_ | refine x_then ?_ | refine x_block ?_)
    by_cases hil : i < s.size
    · refine c_yes rfl (decide_eq_true (by omega)) ?_
      repeat (with_reducible first | refine c_seq ?_ | refine c_block ?_ | refine c_skip ?_ | refine x_then ?_ | refine x_block ?_)
      have hb := sbytes_rget s (s.size - 1 - i) (by omega)
      rw [hval] at hb
      have hd := dgt_lt (b := 256) (by decide) V (s.size - 1 - i)
      have hix : s.size - 1 - (s.size - 1 - i) = i := by omega
      have hst := div_step 256 V (s.size - 1 - i)
      have he : s.size - 1 - i + 1 = s.size - i := by omega
      rw [he] at hst
      have hbi : (s[i]'hil).toNat = dgt 256 V (s.size - 1 - i) := by
        rw [← hb]
        congr 1
        exact getElem_congr_idx hix.symm
      have hu : V / 256 ^ (s.size - i) * 256 < 18446744073709551616 := by
        have h1 : V / 256 ^ (s.size - i) * 256 ≤ V / 256 ^ (s.size - 1 - i) := by rw [hst]; omega
        have h2 := Nat.div_le_self V (256 ^ (s.size - 1 - i))
        omega
      obtain ⟨u, hu0⟩ : ∃ u, u = V / 256 ^ (s.size - i) := ⟨_, rfl⟩
      rw [← hu0] at hu hst
      have h4 : ρ 4 = .int .u64 (u : Int) := by rw [hu0]; exact h4
      repeat (with_reducible first | refine c_seq ?_ | refine c_block ?_ | refine c_skip ?_ | refine x_then ?_ | refine x_block ?_)
      refine c_reg ?_
      refine l_pure rfl (s_move  h13 ?_)
      refine l_pure rfl (s_asg  rfl ?_)
      refine l_nil ?_
      repeat (with_reducible first | refine c_seq ?_ | refine c_block ?_ | refine c_skip ?_ | refine x_then ?_ | refine x_block ?_)
      refine c_reg ?_
      refine l_pure rfl (s_move  h4 ?_)
      refine l_pure rfl (s_shl  rfl rfl (by omega) (r := ((u * 256 : Nat) : Int)) (by exact shl_n _ 8 _ (by decide) (wr_u64 _ ⟨by rw [Int.natCast_mul]; rfl, by omega, by omega⟩)) ?_)
      refine l_pure rfl (s_move  h0 ?_)
      refine l_pure rfl (s_move  rfl ?_)
      refine l_pure rfl (s_ixs (i := i)  rfl rfl (by omega) (by omega) Tryd.underlying9 ?_)
      refine l_pure rfl (s_conv  rfl Tryd.underlying54 ⟨_, Tryd.underlying5⟩ (r := ((dgt 256 V (s.size - 1 - i) : Nat) : Int)) (by rw [hbi]; exact IntWalk.u64_in _ (by omega)) ?_)
      refine l_pure rfl (s_or  rfl rfl (r := ((256 * u + dgt 256 V (s.size - 1 - i) : Nat) : Int)) (by exact or_byte hu hd) ?_)
      refine l_pure rfl (s_asg  rfl ?_)
      refine l_nil ?_
      repeat (with_reducible first | refine c_seq ?_ | refine c_block ?_ | refine c_skip ?_ | refine x_then ?_ | refine x_block ?_)
      refine c_reg ?_
      refine l_pure rfl (s_add  h13 rfl (IntWalk.i64_in _ (by omega)) ?_)
      refine l_pure rfl (s_move  rfl ?_)
      refine l_nil ?_
      repeat (with_reducible first | refine c_seq ?_ | refine c_block ?_ | refine c_skip ?_ | refine x_then ?_ | refine x_block ?_)
      refine ⟨i + 1, _, rfl, ⟨hil, h0, vi rfl ?_, h12, vi rfl (by omega), rfl⟩, by omega⟩
      rw [show s.size - (i + 1) = s.size - 1 - i by omega, hst]
    · refine c_no rfl (decide_eq_false (by omega)) ?_
      repeat (with_reducible first | refine c_seq ?_ | refine c_block ?_ | refine c_skip ?_ | refine x_then ?_ | refine x_block ?_)
      refine c_exit ?_
      repeat (with_reducible first | refine x_then_exit ?_ | refine x_block_exit ?_ | refine x_block_pass rfl ?_)
      repeat (with_reducible first | refine c_seq ?_ | refine c_block ?_ | refine c_skip ?_ | refine x_then ?_ | refine x_block ?_)
      obtain rfl : i = s.size := by omega
      repeat (with_reducible first | refine c_seq ?_ | refine c_block ?_ | refine c_skip ?_ | refine x_then ?_ | refine x_block ?_)
      refine c_reg ?_
      refine l_pure rfl (s_move  h4 ?_)
      refine l_pure rfl (s_asg  rfl ?_)
      refine l_pure rfl (s_asg  rfl ?_)
      refine l_nil ?_
      repeat (with_reducible first | refine c_seq ?_ | refine c_block ?_ | refine c_skip ?_ | refine x_then ?_ | refine x_block ?_)
      refine c_ret ?_
      repeat (with_reducible first | refine x_then_ret ?_ | refine x_block_ret ?_)
      refine r_two rfl rfl rfl ?_
      rw [Nat.sub_self, Nat.pow_zero, Nat.div_one]
      exact ⟨rfl, rfl⟩
set_option maxHeartbeats 1000000 in
theorem QInt64_ok (r : RR) (w : World) (hr : Lr r ≤ MX) (h0 : 0 ≤ toQ r) :
    Ret Tryd.prog 11 #[aggR r] w fun v w' => v = .tuple #[.int .i64 (i64V (toQ r)).1, .bool (i64V (toQ r)).2] ∧ Below w.heap.size w w' := by
  have hM : MX = 1099511627776 := rfl
  have hL1 := L_toQ r
  have hc1 := fun w => clean_ok r w hr
  obtain ⟨p, hp⟩ : ∃ p, p = toQ r := ⟨_, rfl⟩
  unfold fx at hc1
  rw [← hp] at hL1 hc1 h0 ⊢
  have hneg : ¬ p.num < 0 := fun g => by have := num_neg.1 g; grind
  have hn1 := L_num p
  have hU := fun w => Uint_ok p.num.natAbs w (by omega)
  have hval : i64V p = if p.den = 1 ∧ p.num.natAbs ≤ 9223372036854775807 then ((p.num.natAbs : Int), true) else (0, false) := by
    unfold i64V
    by_cases g : p.den = 1 ∧ p.num.natAbs ≤ 9223372036854775807
    · rw [if_pos g, if_pos ⟨g.1, by omega, by omega⟩, show ((p.num.natAbs : Nat) : Int) = p.num by omega]
    · rw [if_neg g, if_neg (fun e => g ⟨e.1, by omega⟩)]
  rw [hval]
  have hS := St.init w
  refine enter Tryd.func11 rfl Tryd.ntmps11 rfl ?_
  repeat (with_reducible first | refine c_seq ?_ | refine c_block ?_ | refine c_skip ?_ | refine x_then ?_ | refine x_block ?_)
  refine c_reg ?_
  refine l_heavy rfl (s_box (new := encR r)  rfl rfl hS ?_)
  intro b1 wz1 hS hBz1
  refine l_pure rfl (s_asg  rfl ?_)
  refine l_pure rfl (s_asg  rfl ?_)
  refine l_nil ?_
  repeat (with_reducible first | refine c_seq ?_ | refine c_block ?_ | refine c_skip ?_ | refine x_then ?_ | refine x_block ?_)
  refine c_reg ?_
  refine l_read rfl (s_ldo (k := 0)  rfl vi_25 hS rfl rfl rfl (.inl rfl) ?_)
  refine l_heavy rfl (s_call Tryd.call28 rfl (hc1 _) ?_)
  rintro _ wc2 ⟨rfl, hBc2⟩
  replace hS := hS.grow hBc2
  refine l_heavy rfl (s_sta (k := 0)  rfl rfl vi_25 hS rfl rfl rfl (Nat.le_of_ble_eq_true rfl) rfl ?_)
  intro wz3 hS
  refine l_nil ?_
  repeat (with_reducible first | refine c_seq ?_ | refine c_block ?_ | refine c_skip ?_ | refine x_then ?_ | refine x_block ?_)
  replace hS : St w _ [(b1, 25, encR (ofQ p))] := hS
  repeat (with_reducible first | refine c_seq ?_ | refine c_block ?_ | refine c_skip ?_ | refine x_then ?_ | refine x_block ?_)
  refine c_reg ?_
  refine l_pure rfl (s_fld  rfl fo_25_1 ?_)
  refine l_read rfl (s_ldo (k := 0)  rfl vi_9 hS rfl rfl rfl (.inr rfl) ?_)
  refine l_heavy rfl (s_call Tryd.call29 rfl (hU _) ?_)
  rintro r w3 ⟨rfl, rfl⟩
  refine l_pure rfl (s_move  rfl ?_)
  refine l_pure rfl (s_ext  rfl rfl ?_)
  refine l_pure rfl (s_ext  rfl rfl ?_)
  refine l_pure rfl (s_asg  rfl ?_)
  refine l_pure rfl (s_asg  rfl ?_)
  refine l_nil ?_
  repeat (with_reducible first | refine c_seq ?_ | refine c_block ?_ | refine c_skip ?_ | refine x_then ?_ | refine x_block ?_)
  have hden : (ofQ p).den = ⟨#[]⟩ ↔ p.den = 1 := by
    rw [ofQ_den]
    split
    · next e => exact ⟨fun _ => e, fun _ => rfl⟩
    · next e => rw [natS_nil]; exact ⟨fun g => absurd g p.den_nz, fun g => absurd g e⟩
  by_cases hd : p.den = 1
  · have hd' := hden.2 hd
    by_cases hl : p.num.natAbs < 18446744073709551616
    · repeat (with_reducible first | refine c_seq ?_ | refine c_block ?_ | refine c_skip ?_ | refine x_then ?_ | refine x_block ?_)
      refine c_reg ?_
      refine l_pure rfl (s_fld  rfl fo_25_2 ?_)
      refine l_read rfl (s_ldo (k := 0)  rfl vi_9 hS rfl rfl rfl (.inr rfl) ?_)
      refine l_pure rfl (s_nes  rfl rfl ?_)
      refine l_pure rfl (s_move  rfl ?_)
      refine l_pure (gd_yes 18 (by kernel_rfl) rfl (decide_eq_false (fun g => g hd'))) (s_move  rfl ?_)
      refine l_pure (gd_yes 18 (by kernel_rfl) rfl (decide_eq_false (fun g => g hd'))) (s_not  rfl ?_)
      refine l_pure rfl (s_pick (vb rfl (decide_eq_false (fun g => g hd'))) rfl ?_)
      refine l_pure rfl (s_asg  rfl ?_)
      refine l_nil ?_
      repeat (with_reducible first | refine c_seq ?_ | refine c_block ?_ | refine c_skip ?_ | refine x_then ?_ | refine x_block ?_)
      refine c_no rfl (by rw [decide_eq_true hl]; rfl) ?_
      repeat (with_reducible first | refine c_seq ?_ | refine c_block ?_ | refine c_skip ?_ | refine x_then ?_ | refine x_block ?_)
      refine c_reg ?_
      refine l_pure rfl (s_fld  rfl fo_25_0 ?_)
      refine l_read rfl (s_ldo (k := 0)  rfl vi_4 hS rfl rfl rfl (.inr rfl) ?_)
      refine l_pure rfl (s_move  rfl ?_)
      refine l_no (gno_yes 25 (by kernel_rfl) rfl (decide_eq_false hneg)) ?_
      refine l_no (gno_yes 25 (by kernel_rfl) rfl (decide_eq_false hneg)) ?_
      refine l_pure rfl (s_pick (vb rfl (decide_eq_false hneg)) rfl ?_)
      refine l_pure rfl (s_asg  rfl ?_)
      refine l_nil ?_
      repeat (with_reducible first | refine c_seq ?_ | refine c_block ?_ | refine c_skip ?_ | refine x_then ?_ | refine x_block ?_)
      refine c_no rfl (rfl) ?_
      repeat (with_reducible first | refine c_seq ?_ | refine c_block ?_ | refine c_skip ?_ | refine x_then ?_ | refine x_block ?_)
      by_cases hi : p.num.natAbs ≤ 9223372036854775807
      · rw [if_pos ⟨hd, hi⟩]
        repeat (with_reducible first | refine c_seq ?_ | refine c_block ?_ | refine c_skip ?_ | refine x_then ?_ | refine x_block ?_)
        refine c_reg ?_
        refine l_pure rfl (s_fld  rfl fo_25_0 ?_)
        refine l_read rfl (s_ldo (k := 0)  rfl vi_4 hS rfl rfl rfl (.inr rfl) ?_)
        refine l_pure rfl (s_not  rfl ?_)
        refine l_pure rfl (s_move  rfl ?_)
        refine l_pure (gd_yes 36 (by kernel_rfl) rfl (show (!decide (p.num < 0)) = true by rw [decide_eq_false hneg]; rfl)) (s_move  rfl ?_)
        refine l_pure (gd_yes 36 (by kernel_rfl) rfl (show (!decide (p.num < 0)) = true by rw [decide_eq_false hneg]; rfl)) (s_leq  rfl rfl ?_)
        refine l_pure rfl (s_pick (vb rfl (show (!decide (p.num < 0)) = true by rw [decide_eq_false hneg]; rfl)) rfl ?_)
        refine l_pure rfl (s_asg  rfl ?_)
        refine l_nil ?_
        repeat (with_reducible first | refine c_seq ?_ | refine c_block ?_ | refine c_skip ?_ | refine x_then ?_ | refine x_block ?_)
        refine c_yes rfl (by rw [if_pos hl]; exact decide_eq_true (by omega)) ?_
        repeat (with_reducible first | refine c_seq ?_ | refine c_block ?_ | refine c_skip ?_ | refine x_then ?_ | refine x_block ?_)
        refine c_reg ?_
        refine l_pure rfl (s_move  rfl ?_)
        refine l_pure rfl (s_conv  rfl Tryd.underlying2 ⟨_, Tryd.underlying54⟩ (r := ((p.num.natAbs : Nat) : Int)) (by rw [if_pos hl]; exact IntWalk.i64_in _ (by omega)) ?_)
        refine l_pure rfl (s_asg  rfl ?_)
        refine l_pure rfl (s_asg  rfl ?_)
        refine l_nil ?_
        repeat (with_reducible first | refine c_seq ?_ | refine c_block ?_ | refine c_skip ?_ | refine x_then ?_ | refine x_block ?_)
        refine c_ret ?_
        repeat (with_reducible first | refine x_then_ret ?_ | refine x_block_ret ?_)
        refine r_two rfl rfl rfl ?_
        exact ⟨rfl, hS.below⟩
      · rw [if_neg (fun g => hi g.2)]
        repeat (with_reducible first | refine c_seq ?_ | refine c_block ?_ | refine c_skip ?_ | refine x_then ?_ | refine x_block ?_)
        refine c_reg ?_
        refine l_pure rfl (s_fld  rfl fo_25_0 ?_)
        refine l_read rfl (s_ldo (k := 0)  rfl vi_4 hS rfl rfl rfl (.inr rfl) ?_)
        refine l_pure rfl (s_not  rfl ?_)
        refine l_pure rfl (s_move  rfl ?_)
        refine l_pure (gd_yes 36 (by kernel_rfl) rfl (show (!decide (p.num < 0)) = true by rw [decide_eq_false hneg]; rfl)) (s_move  rfl ?_)
        refine l_pure (gd_yes 36 (by kernel_rfl) rfl (show (!decide (p.num < 0)) = true by rw [decide_eq_false hneg]; rfl)) (s_leq  rfl rfl ?_)
        refine l_pure rfl (s_pick (vb rfl (show (!decide (p.num < 0)) = true by rw [decide_eq_false hneg]; rfl)) rfl ?_)
        refine l_pure rfl (s_asg  rfl ?_)
        refine l_nil ?_
        repeat (with_reducible first | refine c_seq ?_ | refine c_block ?_ | refine c_skip ?_ | refine x_then ?_ | refine x_block ?_)
        refine c_no rfl (by rw [if_pos hl]; exact decide_eq_false (by omega)) ?_
        repeat (with_reducible first | refine c_seq ?_ | refine c_block ?_ | refine c_skip ?_ | refine x_then ?_ | refine x_block ?_)
        refine c_reg ?_
        refine l_pure rfl (s_asg  rfl ?_)
        refine l_pure rfl (s_asg  rfl ?_)
        refine l_nil ?_
        repeat (with_reducible first | refine c_seq ?_ | refine c_block ?_ | refine c_skip ?_ | refine x_then ?_ | refine x_block ?_)
        refine c_ret ?_
        repeat (with_reducible first | refine x_then_ret ?_ | refine x_block_ret ?_)
        refine r_two rfl rfl rfl ?_
        exact ⟨rfl, hS.below⟩
    · rw [if_neg (fun g => hl (by omega))]
      repeat (with_reducible first | refine c_seq ?_ | refine c_block ?_ | refine c_skip ?_ | refine x_then ?_ | refine x_block ?_)
      refine c_reg ?_
      refine l_pure rfl (s_fld  rfl fo_25_2 ?_)
      refine l_read rfl (s_ldo (k := 0)  rfl vi_9 hS rfl rfl rfl (.inr rfl) ?_)
      refine l_pure rfl (s_nes  rfl rfl ?_)
      refine l_pure rfl (s_move  rfl ?_)
      refine l_pure (gd_yes 18 (by kernel_rfl) rfl (decide_eq_false (fun g => g hd'))) (s_move  rfl ?_)
      refine l_pure (gd_yes 18 (by kernel_rfl) rfl (decide_eq_false (fun g => g hd'))) (s_not  rfl ?_)
      refine l_pure rfl (s_pick (vb rfl (decide_eq_false (fun g => g hd'))) rfl ?_)
      refine l_pure rfl (s_asg  rfl ?_)
      refine l_nil ?_
      repeat (with_reducible first | refine c_seq ?_ | refine c_block ?_ | refine c_skip ?_ | refine x_then ?_ | refine x_block ?_)
      refine c_yes rfl (by rw [decide_eq_false hl]; rfl) ?_
      repeat (with_reducible first | refine c_seq ?_ | refine c_block ?_ | refine c_skip ?_ | refine x_then ?_ | refine x_block ?_)
      refine c_reg ?_
      refine l_pure rfl (s_asg  rfl ?_)
      refine l_pure rfl (s_asg  rfl ?_)
      refine l_nil ?_
      repeat (with_reducible first | refine c_seq ?_ | refine c_block ?_ | refine c_skip ?_ | refine x_then ?_ | refine x_block ?_)
      refine c_ret ?_
      repeat (with_reducible first | refine x_then_ret ?_ | refine x_block_ret ?_)
      refine r_two rfl rfl rfl ?_
      exact ⟨rfl, hS.below⟩
  · rw [if_neg (fun g => hd g.1)]
    repeat (with_reducible first | refine c_seq ?_ | refine c_block ?_ | refine c_skip ?_ | refine x_then ?_ | refine x_block ?_)
    refine c_reg ?_
    refine l_pure rfl (s_fld  rfl fo_25_2 ?_)
    refine l_read rfl (s_ldo (k := 0)  rfl vi_9 hS rfl rfl rfl (.inr rfl) ?_)
    refine l_pure rfl (s_nes  rfl rfl ?_)
    refine l_pure rfl (s_move  rfl ?_)
    refine l_no (gno_yes 18 (by kernel_rfl) rfl (decide_eq_true (fun g => hd (hden.1 g)))) ?_
    refine l_no (gno_yes 18 (by kernel_rfl) rfl (decide_eq_true (fun g => hd (hden.1 g)))) ?_
    refine l_pure rfl (s_pick (vb rfl (decide_eq_true (fun g => hd (hden.1 g)))) rfl ?_)
    refine l_pure rfl (s_asg  rfl ?_)
    refine l_nil ?_
    repeat (with_reducible first | refine c_seq ?_ | refine c_block ?_ | refine c_skip ?_ | refine x_then ?_ | refine x_block ?_)
    refine c_yes rfl (rfl) ?_
    repeat (with_reducible first | refine c_seq ?_ | refine c_block ?_ | refine c_skip ?_ | refine x_then ?_ | refine x_block ?_)
    refine c_reg ?_
    refine l_pure rfl (s_asg  rfl ?_)
    refine l_pure rfl (s_asg  rfl ?_)
    refine l_nil ?_
    repeat (with_reducible first | refine c_seq ?_ | refine c_block ?_ | refine c_skip ?_ | refine x_then ?_ | refine x_block ?_)
    refine c_ret ?_
    repeat (with_reducible first | refine x_then_ret ?_ | refine x_block_ret ?_)
    refine r_two rfl rfl rfl ?_
    exact ⟨rfl, hS.below⟩
set_option maxHeartbeats 1000000 in
theorem QFloor_ok (r : RR) (w : World) (hr : Lr r + 1 ≤ MX) :
    Ret Tryd.prog 13 #[aggR r] w fun v w' => v = aggR (ofQ ((toQ r).floor : Rat)) ∧ Below w.heap.size w w' := by
  have hM : MX = 1099511627776 := rfl
  have hL1 := L_toQ r
  have hc1 := fun w => clean_ok r w (show Lr r ≤ MX by omega)
  obtain ⟨p, hp⟩ : ∃ p, p = toQ r := ⟨_, rfl⟩
  unfold fx at hc1
  rw [← hp] at hL1 hc1 ⊢
  have hn1 := L_num p
  have hd1 := L_den p
  have hq1 : (natS (p.num.natAbs / p.den)).size ≤ (natS p.num.natAbs).size := natS_size_mono (Nat.div_le_self _ _)
  have h1s := natS_one_size
  have hq2 := natS_size_add (p.num.natAbs / p.den) 1
  have hLp := L_pos p
  have hfs : (natS (flN p)).size ≤ L p + 1 := by unfold flN; split <;> omega
  have hred := fun w => reduced_ok (decide (p.num < 0)) (natS (flN p)) ⟨#[1]⟩ w (by omega) (by show 1 ≤ _; omega) (by rw [val_le_one]; decide)
  rw [val_natS, val_le_one, mkRat_fl] at hred
  have hS := St.init w
  refine enter Tryd.func13 rfl Tryd.ntmps13 rfl ?_
  repeat (with_reducible first | refine c_seq ?_ | refine c_block ?_ | refine c_skip ?_ | refine x_then ?_ | refine x_block ?_)
  refine c_reg ?_
  refine l_heavy rfl (s_box (new := encR r)  rfl rfl hS ?_)
  intro b1 wz1 hS hBz1
  refine l_heavy rfl (s_alloc  vi_25 hS ?_)
  intro b2 wz2 hS hBz2
  refine l_nil ?_
  repeat (with_reducible first | refine c_seq ?_ | refine c_block ?_ | refine c_skip ?_ | refine x_then ?_ | refine x_block ?_)
  refine c_reg ?_
  refine l_read rfl (s_ldo (k := 1)  rfl vi_25 hS rfl rfl rfl (.inl rfl) ?_)
  refine l_heavy rfl (s_call Tryd.call28 rfl (hc1 _) ?_)
  rintro _ wc3 ⟨rfl, hBc3⟩
  replace hS := hS.grow hBc3
  refine l_heavy rfl (s_sta (k := 1)  rfl rfl vi_25 hS rfl rfl rfl (Nat.le_of_ble_eq_true rfl) rfl ?_)
  intro wz4 hS
  refine l_nil ?_
  repeat (with_reducible first | refine c_seq ?_ | refine c_block ?_ | refine c_skip ?_ | refine x_then ?_ | refine x_block ?_)
  replace hS : St w _ [(b2, 25, encR zRR), (b1, 25, encR (ofQ p))] := hS
  repeat (with_reducible first | refine c_seq ?_ | refine c_block ?_ | refine c_skip ?_ | refine x_then ?_ | refine x_block ?_)
  refine c_draw [(0, .pure), (1, .read), (2, .read), (3, .grow), (4, .grow), (5, .pure), (6, .pure), (7, .pure), (8, .pure), (9, .pure), (10, .pure), (11, .pure)] (by kernel_rfl) (by kernel_rfl) hS ?_
  intro wz5 hS hBz5
  refine w_pure rfl rfl (s_fld  rfl fo_25_1 ?_)
  refine w_read rfl rfl (s_ldo (k := 1)  rfl vi_9 hS rfl rfl rfl (.inr rfl) ?_)
  refine w_read rfl rfl (s_ldo (k := 1)  rfl vi_25 hS rfl rfl rfl (.inl rfl) ?_)
  refine w_grow rfl rfl (s_call Tryd.call31 rfl (den_ok p _) ?_)
  rintro _ wc6 ⟨rfl, hBc6⟩
  replace hS := hS.grow hBc6
  refine ⟨hBc6, ?_⟩
  refine w_grow rfl rfl (s_call Tryd.call23 rfl (N_div p.num.natAbs p.den _ (by omega) (by omega) p.den_nz) ?_)
  rintro _ wc7 ⟨rfl, hBc7⟩
  replace hS := hS.grow hBc7
  refine ⟨hBc7, ?_⟩
  refine w_pure rfl rfl (s_move  rfl ?_)
  refine w_pure rfl rfl (s_ext  rfl rfl ?_)
  refine w_pure rfl rfl (s_ext  rfl rfl ?_)
  refine w_pure rfl rfl (s_ext  rfl rfl ?_)
  refine w_pure rfl rfl (s_asg  rfl ?_)
  refine w_pure rfl rfl (s_asg  rfl ?_)
  refine w_pure rfl rfl (s_asg  rfl ?_)
  refine w_end ?_
  repeat (with_reducible first | refine c_seq ?_ | refine c_block ?_ | refine c_skip ?_ | refine x_then ?_ | refine x_block ?_)
  by_cases hneg : p.num < 0
  · by_cases hz : p.num.natAbs % p.den = 0
    · have hfl : flN p = p.num.natAbs / p.den := by unfold flN; rw [if_neg (fun g => g.2 hz)]
      rw [hfl] at hred
      repeat (with_reducible first | refine c_seq ?_ | refine c_block ?_ | refine c_skip ?_ | refine x_then ?_ | refine x_block ?_)
      refine c_reg ?_
      refine l_pure rfl (s_fld  rfl fo_25_0 ?_)
      refine l_read rfl (s_ldo (k := 1)  rfl vi_4 hS rfl rfl rfl (.inr rfl) ?_)
      refine l_pure rfl (s_move  rfl ?_)
      refine l_pure (gd_yes 19 (by kernel_rfl) rfl (decide_eq_true hneg)) (s_move  rfl ?_)
      refine l_pure (gd_yes 19 (by kernel_rfl) rfl (decide_eq_true hneg)) (s_nes  rfl rfl ?_)
      refine l_pure rfl (s_pick (vb rfl (decide_eq_true hneg)) rfl ?_)
      refine l_nil ?_
      repeat (with_reducible first | refine c_seq ?_ | refine c_block ?_ | refine c_skip ?_ | refine x_then ?_ | refine x_block ?_)
      refine c_no rfl (decide_eq_false (fun g => g (natS_nil.2 hz))) ?_
      repeat (with_reducible first | refine c_seq ?_ | refine c_block ?_ | refine c_skip ?_ | refine x_then ?_ | refine x_block ?_)
      refine c_reg ?_
      refine l_pure rfl (s_fld  rfl fo_25_0 ?_)
      refine l_read rfl (s_ldo (k := 1)  rfl vi_4 hS rfl rfl rfl (.inr rfl) ?_)
      refine l_pure rfl (s_move  rfl ?_)
      refine l_heavy rfl (s_call Tryd.call8 rfl (hred _) ?_)
      rintro _ wc8 ⟨rfl, hBc8⟩
      replace hS := hS.grow hBc8
      refine l_heavy rfl (s_sta (k := 0)  rfl rfl vi_25 hS rfl rfl rfl (Nat.le_of_ble_eq_true rfl) rfl ?_)
      intro wz9 hS
      refine l_nil ?_
      repeat (with_reducible first | refine c_seq ?_ | refine c_block ?_ | refine c_skip ?_ | refine x_then ?_ | refine x_block ?_)
      refine c_ret ?_
      repeat (with_reducible first | refine x_then_ret ?_ | refine x_block_ret ?_)
      refine r_cell (k := 0) rfl rfl vi_25 hS rfl rfl ?_
      exact ⟨rfl, hS.below⟩
    · have hfl : flN p = p.num.natAbs / p.den + 1 := by unfold flN; rw [if_pos ⟨hneg, hz⟩]
      rw [hfl] at hred
      have hadd := fun w => N_add (p.num.natAbs / p.den) 1 w (by omega) (by omega)
      rw [natS_one] at hadd
      repeat (with_reducible first | refine c_seq ?_ | refine c_block ?_ | refine c_skip ?_ | refine x_then ?_ | refine x_block ?_)
      refine c_reg ?_
      refine l_pure rfl (s_fld  rfl fo_25_0 ?_)
      refine l_read rfl (s_ldo (k := 1)  rfl vi_4 hS rfl rfl rfl (.inr rfl) ?_)
      refine l_pure rfl (s_move  rfl ?_)
      refine l_pure (gd_yes 19 (by kernel_rfl) rfl (decide_eq_true hneg)) (s_move  rfl ?_)
      refine l_pure (gd_yes 19 (by kernel_rfl) rfl (decide_eq_true hneg)) (s_nes  rfl rfl ?_)
      refine l_pure rfl (s_pick (vb rfl (decide_eq_true hneg)) rfl ?_)
      refine l_nil ?_
      repeat (with_reducible first | refine c_seq ?_ | refine c_block ?_ | refine c_skip ?_ | refine x_then ?_ | refine x_block ?_)
      refine c_yes rfl (decide_eq_true (fun g => hz (natS_nil.1 g))) ?_
      repeat (with_reducible first | refine c_seq ?_ | refine c_block ?_ | refine c_skip ?_ | refine x_then ?_ | refine x_block ?_)
      refine c_reg ?_
      refine l_pure rfl (s_move  rfl ?_)
      refine l_heavy rfl (s_call Tryd.call32 rfl (hadd _) ?_)
      rintro _ wc10 ⟨rfl, hBc10⟩
      replace hS := hS.grow hBc10
      refine l_pure rfl (s_asg  rfl ?_)
      refine l_nil ?_
      repeat (with_reducible first | refine c_seq ?_ | refine c_block ?_ | refine c_skip ?_ | refine x_then ?_ | refine x_block ?_)
      refine c_reg ?_
      refine l_pure rfl (s_fld  rfl fo_25_0 ?_)
      refine l_read rfl (s_ldo (k := 1)  rfl vi_4 hS rfl rfl rfl (.inr rfl) ?_)
      refine l_pure rfl (s_move  rfl ?_)
      refine l_heavy rfl (s_call Tryd.call8 rfl (hred _) ?_)
      rintro _ wc11 ⟨rfl, hBc11⟩
      replace hS := hS.grow hBc11
      refine l_heavy rfl (s_sta (k := 0)  rfl rfl vi_25 hS rfl rfl rfl (Nat.le_of_ble_eq_true rfl) rfl ?_)
      intro wz12 hS
      refine l_nil ?_
      repeat (with_reducible first | refine c_seq ?_ | refine c_block ?_ | refine c_skip ?_ | refine x_then ?_ | refine x_block ?_)
      refine c_ret ?_
      repeat (with_reducible first | refine x_then_ret ?_ | refine x_block_ret ?_)
      refine r_cell (k := 0) rfl rfl vi_25 hS rfl rfl ?_
      exact ⟨rfl, hS.below⟩
  · have hfl : flN p = p.num.natAbs / p.den := by unfold flN; rw [if_neg (fun g => hneg g.1)]
    rw [hfl] at hred
    repeat (with_reducible first | refine c_seq ?_ | refine c_block ?_ | refine c_skip ?_ | refine x_then ?_ | refine x_block ?_)
    refine c_reg ?_
    refine l_pure rfl (s_fld  rfl fo_25_0 ?_)
    refine l_read rfl (s_ldo (k := 1)  rfl vi_4 hS rfl rfl rfl (.inr rfl) ?_)
    refine l_pure rfl (s_move  rfl ?_)
    refine l_no (gno_yes 19 (by kernel_rfl) rfl (decide_eq_false hneg)) ?_
    refine l_no (gno_yes 19 (by kernel_rfl) rfl (decide_eq_false hneg)) ?_
    refine l_pure rfl (s_pick (vb rfl (decide_eq_false hneg)) rfl ?_)
    refine l_nil ?_
    repeat (with_reducible first | refine c_seq ?_ | refine c_block ?_ | refine c_skip ?_ | refine x_then ?_ | refine x_block ?_)
    refine c_no rfl (rfl) ?_
    repeat (with_reducible first | refine c_seq ?_ | refine c_block ?_ | refine c_skip ?_ | refine x_then ?_ | refine x_block ?_)
    refine c_reg ?_
    refine l_pure rfl (s_fld  rfl fo_25_0 ?_)
    refine l_read rfl (s_ldo (k := 1)  rfl vi_4 hS rfl rfl rfl (.inr rfl) ?_)
    refine l_pure rfl (s_move  rfl ?_)
    refine l_heavy rfl (s_call Tryd.call8 rfl (hred _) ?_)
    rintro _ wc13 ⟨rfl, hBc13⟩
    replace hS := hS.grow hBc13
    refine l_heavy rfl (s_sta (k := 0)  rfl rfl vi_25 hS rfl rfl rfl (Nat.le_of_ble_eq_true rfl) rfl ?_)
    intro wz14 hS
    refine l_nil ?_
    repeat (with_reducible first | refine c_seq ?_ | refine c_block ?_ | refine c_skip ?_ | refine x_then ?_ | refine x_block ?_)
    refine c_ret ?_
    repeat (with_reducible first | refine x_then_ret ?_ | refine x_block_ret ?_)
    refine r_cell (k := 0) rfl rfl vi_25 hS rfl rfl ?_
    exact ⟨rfl, hS.below⟩
theorem QMake0_ok (b : Bool) (num den : ByteArray) (w : World) (hd : den.size ≤ 2 * MX) (h0 : val den = 0) :
    Ret Tryd.prog 38 #[.bool b, .string num, .string den] w fun v w' => v = .tuple #[aggR zRR, .bool false] ∧ Below w.heap.size w w' := by
  have hM : MX = 1099511627776 := rfl
  have hS := St.init w
  refine enter Tryd.func38 rfl Tryd.ntmps38 rfl ?_
  repeat (with_reducible first | refine c_seq ?_ | refine c_block ?_ | refine c_skip ?_ | refine x_then ?_ | refine x_block ?_)
  refine c_reg ?_
  refine l_heavy rfl (s_alloc  vi_25 hS ?_)
  intro b1 wz2 hS hBz2
  refine l_pure rfl (s_asg  rfl ?_)
  refine l_nil ?_
  repeat (with_reducible first | refine c_seq ?_ | refine c_block ?_ | refine c_skip ?_ | refine x_then ?_ | refine x_block ?_)
  refine c_reg ?_
  refine l_pure rfl (s_move  rfl ?_)
  refine l_heavy rfl (s_call Tryd.call21 rfl (Normalize_ok _ _ (show den.size ≤ _ by omega)) ?_)
  rintro _ wq3 ⟨rfl, hq3⟩
  replace hq3 := hq3.symm
  subst hq3
  refine l_pure rfl (s_eqs  rfl rfl ?_)
  refine l_nil ?_
  repeat (with_reducible first | refine c_seq ?_ | refine c_block ?_ | refine c_skip ?_ | refine x_then ?_ | refine x_block ?_)
  refine c_yes rfl (decide_eq_true (natS_nil.2 h0)) ?_
  repeat (with_reducible first | refine c_seq ?_ | refine c_block ?_ | refine c_skip ?_ | refine x_then ?_ | refine x_block ?_)
  refine c_reg ?_
  refine l_pure rfl (s_build  rfl bz_25 ?_)
  refine l_heavy rfl (s_sta (k := 0)  rfl rfl vi_25 hS rfl rfl rfl (Nat.le_of_ble_eq_true rfl) rfl ?_)
  intro wz4 hS
  refine l_pure rfl (s_asg  rfl ?_)
  refine l_nil ?_
  repeat (with_reducible first | refine c_seq ?_ | refine c_block ?_ | refine c_skip ?_ | refine x_then ?_ | refine x_block ?_)
  refine c_ret ?_
  repeat (with_reducible first | refine x_then_ret ?_ | refine x_block_ret ?_)
  refine r_cell_tmp (k := 0) rfl rfl rfl vi_25 hS rfl rfl ?_
  exact ⟨rfl, hS.below⟩
set_option maxHeartbeats 1000000 in
theorem QDivide0_ok (r s : RR) (w : World) (hr : Lr r + Lr s ≤ MX) (hs : toQ s = 0) :
    Ret Tryd.prog 18 #[aggR r, aggR s] w fun v w' => v = .tuple #[aggR zRR, .bool false] ∧ Below w.heap.size w w' := by
  have hM : MX = 1099511627776 := rfl
  have hL1 := L_toQ r
  have hL2 := L_toQ s
  obtain ⟨p, hp⟩ : ∃ p, p = toQ r := ⟨_, rfl⟩
  obtain ⟨q, hq⟩ : ∃ q, q = toQ s := ⟨_, rfl⟩
  have hc1 := fun w => clean_ok r w (show Lr r ≤ MX by omega)
  have hc2 := fun w => clean_ok s w (show Lr s ≤ MX by omega)
  unfold fx at hc1 hc2
  rw [← hp] at hL1 hc1
  rw [← hq] at hL2 hc2 hs
  have hn1 := L_num p
  have hn2 := L_num q
  have hd1 := L_den p
  have hd2 := L_den q
  have hm1 := natS_size_mul p.num.natAbs q.den
  have hm2 := natS_size_mul p.den q.num.natAbs
  have hqn : q.num.natAbs = 0 := by rw [hs]; rfl
  have hred := fun w => QMake0_ok (decide (p.num < 0) != decide (q.num < 0)) (natS (p.num.natAbs * q.den)) (natS (p.den * q.num.natAbs)) w (by omega) (by rw [val_natS, hqn, Nat.mul_zero])
  have hS := St.init w
  refine enter Tryd.func18 rfl Tryd.ntmps18 rfl ?_
  repeat (with_reducible first | refine c_seq ?_ | refine c_block ?_ | refine c_skip ?_ | refine x_then ?_ | refine x_block ?_)
  refine c_reg ?_
  refine l_heavy rfl (s_box (new := encR r)  rfl rfl hS ?_)
  intro b1 wz2 hS hBz2
  refine l_heavy rfl (s_box (new := encR s)  rfl rfl hS ?_)
  intro b3 wz4 hS hBz4
  refine l_heavy rfl (s_alloc  vi_25 hS ?_)
  intro b5 wz6 hS hBz6
  refine l_pure rfl (s_asg  rfl ?_)
  refine l_nil ?_
  repeat (with_reducible first | refine c_seq ?_ | refine c_block ?_ | refine c_skip ?_ | refine x_then ?_ | refine x_block ?_)
  refine c_draw [(0, .read), (2, .read), (1, .grow), (3, .grow), (4, .free), (5, .free)] (by kernel_rfl) (by kernel_rfl) hS ?_
  intro wz7 hS hBz7
  refine w_read rfl rfl (s_ldo (k := 2)  rfl vi_25 hS rfl rfl rfl (.inl rfl) ?_)
  refine w_read rfl rfl (s_ldo (k := 1)  rfl vi_25 hS rfl rfl rfl (.inl rfl) ?_)
  refine w_grow rfl rfl (s_call Tryd.call28 rfl (hc1 _) ?_)
  rintro _ wc8 ⟨rfl, hBc8⟩
  replace hS := hS.grow hBc8
  refine ⟨hBc8, ?_⟩
  refine w_grow rfl rfl (s_call Tryd.call28 rfl (hc2 _) ?_)
  rintro _ wc9 ⟨rfl, hBc9⟩
  replace hS := hS.grow hBc9
  refine ⟨hBc9, ?_⟩
  refine w_free rfl rfl (s_sta (k := 2)  rfl rfl vi_25 hS rfl rfl rfl (Nat.le_of_ble_eq_true rfl) rfl ?_)
  intro wz10 hS
  refine w_free rfl rfl (s_sta (k := 1)  rfl rfl vi_25 hS rfl rfl rfl (Nat.le_of_ble_eq_true rfl) rfl ?_)
  intro wz11 hS
  refine w_end ?_
  repeat (with_reducible first | refine c_seq ?_ | refine c_block ?_ | refine c_skip ?_ | refine x_then ?_ | refine x_block ?_)
  refine c_draw [(0, .pure), (1, .read), (2, .pure), (3, .read), (4, .pure), (5, .pure), (6, .read), (7, .read), (10, .read), (12, .pure), (13, .read), (8, .grow), (9, .grow), (11, .grow), (14, .grow), (15, .grow), (16, .pure), (17, .pure), (18, .free), (19, .pure)] (by kernel_rfl) (by kernel_rfl) hS ?_
  intro wz12 hS hBz12
  refine w_pure rfl rfl (s_fld  rfl fo_25_0 ?_)
  refine w_read rfl rfl (s_ldo (k := 2)  rfl vi_4 hS rfl rfl rfl (.inr rfl) ?_)
  refine w_pure rfl rfl (s_fld  rfl fo_25_0 ?_)
  refine w_read rfl rfl (s_ldo (k := 1)  rfl vi_4 hS rfl rfl rfl (.inr rfl) ?_)
  refine w_pure rfl rfl (s_neb  rfl rfl Tryd.underlying4 ?_)
  refine w_pure rfl rfl (s_fld  rfl fo_25_1 ?_)
  refine w_read rfl rfl (s_ldo (k := 2)  rfl vi_9 hS rfl rfl rfl (.inr rfl) ?_)
  refine w_read rfl rfl (s_ldo (k := 1)  rfl vi_25 hS rfl rfl rfl (.inl rfl) ?_)
  refine w_read rfl rfl (s_ldo (k := 2)  rfl vi_25 hS rfl rfl rfl (.inl rfl) ?_)
  refine w_pure rfl rfl (s_fld  rfl fo_25_1 ?_)
  refine w_read rfl rfl (s_ldo (k := 1)  rfl vi_9 hS rfl rfl rfl (.inr rfl) ?_)
  refine w_grow rfl rfl (s_call Tryd.call31 rfl (den_ok q _) ?_)
  rintro _ wc13 ⟨rfl, hBc13⟩
  replace hS := hS.grow hBc13
  refine ⟨hBc13, ?_⟩
  refine w_grow rfl rfl (s_call Tryd.call37 rfl (N_mul p.num.natAbs q.den _ (by omega) (by omega)) ?_)
  rintro _ wc14 ⟨rfl, hBc14⟩
  replace hS := hS.grow hBc14
  refine ⟨hBc14, ?_⟩
  refine w_grow rfl rfl (s_call Tryd.call31 rfl (den_ok p _) ?_)
  rintro _ wc15 ⟨rfl, hBc15⟩
  replace hS := hS.grow hBc15
  refine ⟨hBc15, ?_⟩
  refine w_grow rfl rfl (s_call Tryd.call37 rfl (N_mul p.den q.num.natAbs _ (by omega) (by omega)) ?_)
  rintro _ wc16 ⟨rfl, hBc16⟩
  replace hS := hS.grow hBc16
  refine ⟨hBc16, ?_⟩
  refine w_grow rfl rfl (s_call Tryd.call38 rfl (hred _) ?_)
  rintro _ wc17 ⟨rfl, hBc17⟩
  replace hS := hS.grow hBc17
  refine ⟨hBc17, ?_⟩
  refine w_pure rfl rfl (s_ext  rfl rfl ?_)
  refine w_pure rfl rfl (s_ext  rfl rfl ?_)
  refine w_free rfl rfl (s_sta (k := 0)  rfl rfl vi_25 hS rfl rfl rfl (Nat.le_of_ble_eq_true rfl) rfl ?_)
  intro wz18 hS
  refine w_pure rfl rfl (s_asg  rfl ?_)
  refine w_end ?_
  repeat (with_reducible first | refine c_seq ?_ | refine c_block ?_ | refine c_skip ?_ | refine x_then ?_ | refine x_block ?_)
  refine c_ret ?_
  repeat (with_reducible first | refine x_then_ret ?_ | refine x_block_ret ?_)
  refine r_cell_tmp (k := 0) rfl rfl rfl vi_25 hS rfl rfl ?_
  exact ⟨rfl, hS.below⟩
theorem QFraction_ok (a b : Nat) (w : World) (ha : a ≤ 9223372036854775807) (hb0 : 0 < b) (hb : b ≤ 9223372036854775807) :
    Ret Tryd.prog 20 #[.int .i64 a, .int .i64 b] w fun v w' => v = .tuple #[aggR (ofQ (mkRat a b)), .bool true] ∧ Below w.heap.size w w' := by
  have hM : MX = 1099511627776 := rfl
  have ha8 := natS_u64 (n := a) (by omega)
  have hb8 := natS_u64 (n := b) (by omega)
  have hmk := fun w => QMake_ok false (natS a) (natS b) w (by omega) (by omega) (by rw [val_natS]; omega)
  rw [val_natS, val_natS] at hmk
  have m1 := fun w => magnitude_ok (a : Int) w (by omega) (by omega)
  have m2 := fun w => magnitude_ok (b : Int) w (by omega) (by omega)
  rw [Int.natAbs_natCast] at m1 m2
  have e1 : (decide ((a : Int) < 0) != decide ((b : Int) < 0)) = false := by
    rw [decide_eq_false (by omega), decide_eq_false (by omega)]; rfl
  have hmk2 : ∀ w, Ret Tryd.prog 38 #[.bool (decide ((a : Int) < 0) != decide ((b : Int) < 0)), .string (natS a), .string (natS b)] w fun v w' => v = .tuple #[aggR (ofQ (mkRat (sg false a) b)), .bool true] ∧ Below w.heap.size w w' := by
    rw [e1]; exact hmk
  have hS := St.init w
  refine enter Tryd.func20 rfl Tryd.ntmps20 rfl ?_
  repeat (with_reducible first | refine c_seq ?_ | refine c_block ?_ | refine c_skip ?_ | refine x_then ?_ | refine x_block ?_)
  refine c_reg ?_
  refine l_heavy rfl (s_alloc  vi_25 hS ?_)
  intro b1 wz2 hS hBz2
  refine l_pure rfl (s_asg  rfl ?_)
  refine l_nil ?_
  repeat (with_reducible first | refine c_seq ?_ | refine c_block ?_ | refine c_skip ?_ | refine x_then ?_ | refine x_block ?_)
  refine c_reg ?_
  refine l_pure rfl (s_move  rfl ?_)
  refine l_pure rfl (s_lss  rfl rfl ?_)
  refine l_pure rfl (s_move  rfl ?_)
  refine l_pure rfl (s_lss  rfl rfl ?_)
  refine l_pure rfl (s_neb  rfl rfl Tryd.underlying4 ?_)
  refine l_pure rfl (s_move  rfl ?_)
  refine l_heavy rfl (s_call Tryd.call9 rfl (m1 _) ?_)
  rintro _ wc3 ⟨rfl, hBc3⟩
  replace hS := hS.grow hBc3
  refine l_pure rfl (s_move  rfl ?_)
  refine l_heavy rfl (s_call Tryd.call9 rfl (m2 _) ?_)
  rintro _ wc4 ⟨rfl, hBc4⟩
  replace hS := hS.grow hBc4
  refine l_heavy rfl (s_call Tryd.call38 rfl (hmk2 _) ?_)
  rintro _ wc5 ⟨rfl, hBc5⟩
  replace hS := hS.grow hBc5
  refine l_pure rfl (s_ext  rfl rfl ?_)
  refine l_pure rfl (s_ext  rfl rfl ?_)
  refine l_heavy rfl (s_sta (k := 0)  rfl rfl vi_25 hS rfl rfl rfl (Nat.le_of_ble_eq_true rfl) rfl ?_)
  intro wz6 hS
  refine l_pure rfl (s_asg  rfl ?_)
  refine l_nil ?_
  repeat (with_reducible first | refine c_seq ?_ | refine c_block ?_ | refine c_skip ?_ | refine x_then ?_ | refine x_block ?_)
  refine c_ret ?_
  repeat (with_reducible first | refine x_then_ret ?_ | refine x_block_ret ?_)
  refine r_cell_tmp (k := 0) rfl rfl rfl vi_25 hS rfl rfl ?_
  exact ⟨rfl, hS.below⟩
end Go.Proofs.YtblfipdfklpmmabDoor
